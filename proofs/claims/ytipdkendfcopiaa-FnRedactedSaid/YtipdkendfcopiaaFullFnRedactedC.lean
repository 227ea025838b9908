/- Printed texts, walks and plain facts that the law FnRedacted leans on, joined. -/
import Derived.Test.YtipdkendfcopiaaFullFnRedactedB
namespace Go.Proofs.Ytipdkendfcopiaa.Pr
open Go.RowKit Go.Proofs.YtipdkendfcopiaaW.PrintWords Go.Proofs.YtipdkendfcopiaaW.PrintLast Go.Proofs.YtipdkendfcopiaaW.PrintMore
attribute [local go_sem] max2_int min2_int max_two min_two max_three min_three max_four min_four
set_option linter.unusedVariables false
set_option linter.unusedSimpArgs false
def xx.f (k : Nat) (a0_0 : Int) (a0_1 : ByteArray) (a0_2 : ByteArray) (l0_3 : List Int) (l0_4 : List Int) : Option (List Int) := (qqz.f k a0_0 a0_1 a0_2 l0_3 l0_4).bind fun t102 => (if t102 = true then (if (l0_4.length : Int) > 0 then ((xq.f l0_4).bind fun t103 => (some t103)) else ((bytesOfS.f a0_2).bind fun t106 => ((qqk.f k l0_3 t106).bind fun t109 => (some t109)))) else (some ([] : List Int)))
set_option maxHeartbeats 8000000 in
set_option maxRecDepth 100000 in
theorem xx.calls (k : Nat) (a0_0 : Int) (a0_1 : ByteArray) (a0_2 : ByteArray) (A0_3 : Option Addr) (c0_3 : Nat) (l0_3 : List Int) (A0_4 : Option Addr) (c0_4 : Nat) (l0_4 : List Int) (r : List Int) (w : World) (hr0_3 : Kd.C (Kd.int .u8) w A0_3 l0_3.length l0_3) (hc0_3 : l0_3.length ≤ c0_3) (hr0_4 : Kd.C (Kd.int .u8) w A0_4 l0_4.length l0_4) (hc0_4 : l0_4.length ≤ c0_4) (h : xx.f k a0_0 a0_1 a0_2 l0_3 l0_4 = some r) :
  Calls Try.prog 23 #[.agg #[.int .i64 a0_0,.string a0_1,.string a0_2,.slice A0_3 l0_3.length c0_3,.slice A0_4 l0_4.length c0_4]] w fun e w' => ∃ v0_ : Value,e = .returned (v0_) ∧ Kd.R (Kd.int .u8) 5 w' w.heap.size (fun _ => True) v0_ r ∧ Below w.heap.size w w' := by
 have hu27 := Try.underlying27
 have HR0_3 := qq.mk hr0_3
 have HC0_3 := qq.mk hc0_3
 clear hr0_3 hc0_3
 have HR0_4 := qq.mk hr0_4
 have HC0_4 := qq.mk hc0_4
 clear hr0_4 hc0_4
 have HB := qq.mk (Below.refl w.heap.size w)
 have H : ((qqz.f k a0_0 a0_1 a0_2 l0_3 l0_4).bind fun t102 => (if t102 = true then (if (l0_4.length : Int) > 0 then ((xq.f l0_4).bind fun t103 => (some t103)) else ((bytesOfS.f a0_2).bind fun t106 => ((qqk.f k l0_3 t106).bind fun t109 => (some t109)))) else (some ([] : List Int)))) = some r := h
 clear h
 replace H := Option.bind_eq_some_iff.mp H
 obtain ⟨t102,A20,H⟩ := H
 replace H : (if t102 = true then (if (l0_4.length : Int) > 0 then ((xq.f l0_4).bind fun t103 => (some t103)) else ((bytesOfS.f a0_2).bind fun t106 => ((qqk.f k l0_3 t106).bind fun t109 => (some t109)))) else (some ([] : List Int))) = some r := H
 have A2 := qq.mk A20
 clear A20
 by_cases c3 : t102 = true
 ·subst c3
  have H1 : (if (l0_4.length : Int) > 0 then ((xq.f l0_4).bind fun t103 => (some t103)) else ((bytesOfS.f a0_2).bind fun t106 => ((qqk.f k l0_3 t106).bind fun t109 => (some t109)))) = some r := by rw [if_pos rfl] at H;exact H
  clear H
  have H := H1
  clear H1
  by_cases c4 : (l0_4.length : Int) > 0
  ·rw [if_pos c4] at H
   have c4b0 : decide (0 < (l0_4.length : Int)) = true := decide_eq_true c4
   have c4b1 : decide (0 < l0_4.length) = true := decide_eq_true (by omega)
   clear c4
   replace H := Option.bind_eq_some_iff.mp H
   obtain ⟨t103,A50,H⟩ := H
   replace H : (some t103) = some r := H
   have A5 := qq.mk A50
   clear A50
   obtain rfl := Option.some.inj H
   go_enter Try.func23,Try.ntmps23
   go_wp2_with (first | ((with_reducible refine gate_dst (N := 1) rfl ?_);refine box_event ?hg (N := 1) ?hd (cs := #[.int .i64 a0_0,.string a0_1,.string a0_2,.slice A0_3 l0_3.length c0_3,.slice A0_4 l0_4.length c0_4]) (t := 27) ?hr ?_;(case hd => rfl);(case hg => rfl);(case hr => first | (go_simp;done) | (go_simp;rfl));intro gb101 hg w6 hbox hb;have n0_ := qq.mk (zv (by repeat (first | (with_reducible first | exact HB.out | apply qj | apply qz | apply qk) | exact HB.out)) hb);have n1_ := qq.mk (hbox);have n2_ := qq.mk ((by rw [hg];exact (zw (by repeat (first | (with_reducible first | exact HB.out | apply qj | apply qz | apply qk) | exact HB.out))) : w.heap.size ≤ gb101));have n3_ := qq.mk ((by rw [hg];exact (zw (by repeat (first | (with_reducible first | exact HB.out | apply qj | apply qz | apply qk) | exact HB.out))) : w.heap.size ≤ gb101));clear HB;have HB := n0_;have BK101 := n1_;have GW101 := n2_;have GE101 := n3_;clear n0_ n1_ n2_ n3_;clear hb hbox hg;have hcz7_0 : w6.cell? ⟨gb101,0,none⟩ = some (.int .i64 a0_0) := (qw BK101.out 0).trans rfl;have hcz7_1 : w6.cell? ⟨gb101,1,none⟩ = some (.string a0_1) := (qw BK101.out 1).trans rfl;have hcz7_2 : w6.cell? ⟨gb101,2,none⟩ = some (.string a0_2) := (qw BK101.out 2).trans rfl;have hcz7_3 : w6.cell? ⟨gb101,3,none⟩ = some (.slice A0_3 l0_3.length c0_3) := (qw BK101.out 3).trans rfl;have hcz7_4 : w6.cell? ⟨gb101,4,none⟩ = some (.slice A0_4 l0_4.length c0_4) := (qw BK101.out 4).trans rfl;have hfz7_0 := qv BK101.out 0;have hfz7_1 := qv BK101.out 1;have hfz7_2 := qv BK101.out 2;have hfz7_3 := qv BK101.out 3;have hfz7_4 := qv BK101.out 4) | ((with_reducible refine kj (f := 20) rfl ?_);refine goesL_ (some 4) rfl rfl Try.func20 (by kernel_rfl) rfl #[.agg #[.int .i64 a0_0,.string a0_1,.string a0_2,.slice A0_3 l0_3.length c0_3,.slice A0_4 l0_4.length c0_4]] rfl (by (try simp only [List.map_toArray,List.map_cons,List.map_nil]);first | done | rfl | (simp only [List.length_drop,List.length_take];rfl)) ?_;(with_reducible refine (qqz.calls k a0_0 a0_1 a0_2 _ _ l0_3 _ _ l0_4 true _ ?side1 ?side2 ?side3 ?side4 A2.out).mono ?_);(case side1 => repeat (first | exact (Kd.C_below HR0_3.out HB.out) | (with_reducible refine Kd.C_alloc ?_ _) | (with_reducible refine Kd.C_drewN ?_ _) | (with_reducible refine Kd.C_drew ?_)));(case side2 => exact HC0_3.out);(case side3 => repeat (first | exact (Kd.C_below HR0_4.out HB.out) | (with_reducible refine Kd.C_alloc ?_ _) | (with_reducible refine Kd.C_drewN ?_ _) | (with_reducible refine Kd.C_drew ?_)));(case side4 => exact HC0_4.out);rintro e w8 ⟨rfl,hb⟩;refine ⟨_,rfl,?_⟩;have n0_ := qq.mk (wj (g := gb101) (o := .cells #[.int .i64 a0_0,.string a0_1,.string a0_2,.slice A0_3 l0_3.length c0_3,.slice A0_4 l0_4.length c0_4] 27 (0,0)) (by (with_reducible repeat (first | refine zz ?_ _ | refine zj ?_ | refine zq ?_ _));exact BK101.out) hb);have n1_ := qq.mk (zv (by repeat (first | (with_reducible first | exact HB.out | apply qj | apply qz | apply qk | refine qx ?_ GE101.out) | exact HB.out)) hb);clear BK101;clear HB;have BK101 := n0_;have HB := n1_;clear n0_ n1_;(try clear hb);(try clear hb2);(try clear hk);(try clear hi);have hcz9_0 : w8.cell? ⟨gb101,0,none⟩ = some (.int .i64 a0_0) := (qw BK101.out 0).trans rfl;have hcz9_1 : w8.cell? ⟨gb101,1,none⟩ = some (.string a0_1) := (qw BK101.out 1).trans rfl;have hcz9_2 : w8.cell? ⟨gb101,2,none⟩ = some (.string a0_2) := (qw BK101.out 2).trans rfl;have hcz9_3 : w8.cell? ⟨gb101,3,none⟩ = some (.slice A0_3 l0_3.length c0_3) := (qw BK101.out 3).trans rfl;have hcz9_4 : w8.cell? ⟨gb101,4,none⟩ = some (.slice A0_4 l0_4.length c0_4) := (qw BK101.out 4).trans rfl;have hfz9_0 := qv BK101.out 0;have hfz9_1 := qv BK101.out 1;have hfz9_2 := qv BK101.out 2;have hfz9_3 := qv BK101.out 3;have hfz9_4 := qv BK101.out 4) | ((with_reducible refine kj (f := 74) rfl ?_);refine goesL_ (some 12) rfl rfl Try.func74 (by kernel_rfl) rfl #[.slice A0_4 l0_4.length c0_4] rfl (by (try simp only [List.map_toArray,List.map_cons,List.map_nil]);first | done | rfl | (simp only [List.length_drop,List.length_take];rfl)) ?_;(with_reducible refine (xq.calls _ _ l0_4 t103 _ ?side1 ?side2 A5.out).mono ?_);(case side1 => repeat (first | exact (Kd.C_below HR0_4.out HB.out) | (with_reducible refine Kd.C_alloc ?_ _) | (with_reducible refine Kd.C_drewN ?_ _) | (with_reducible refine Kd.C_drew ?_)));(case side2 => exact HC0_4.out);rintro e w10 ⟨v104,rfl,ho0,hb⟩;refine ⟨_,rfl,?_⟩;have n0_ := qq.mk (Kd.R_lower ho0 (zw (by repeat (first | (with_reducible first | exact HB.out | apply qj | apply qz | apply qk | refine qx ?_ GE101.out) | exact HB.out))));have n1_ := qq.mk (wj (g := gb101) (o := .cells #[.int .i64 a0_0,.string a0_1,.string a0_2,.slice A0_3 l0_3.length c0_3,.slice A0_4 l0_4.length c0_4] 27 (0,0)) (by (with_reducible repeat (first | refine zz ?_ _ | refine zj ?_ | refine zq ?_ _));exact BK101.out) hb);have n2_ := qq.mk (zv (by repeat (first | (with_reducible first | exact HB.out | apply qj | apply qz | apply qk | refine qx ?_ GE101.out) | exact HB.out)) hb);clear BK101;clear HB;have HO105 := n0_;have BK101 := n1_;have HB := n2_;clear n0_ n1_ n2_;(try clear hb);(try clear hb2);(try clear hk);(try clear hi);(try clear ho0)))
   go_ret
   exact ⟨_,by first | rfl | (simp [*,kz,jx] <;> rfl),by (with_reducible repeat (first | apply Kd.jq | apply Kd.zx | apply Kd.jz));exact HO105.out,by repeat (first | (with_reducible first | exact HB.out | apply qj | apply qz | apply qk | refine qx ?_ GE101.out) | exact HB.out)⟩
  ·rw [if_neg c4] at H
   have c4b0 : decide (0 < (l0_4.length : Int)) = false := decide_eq_false c4
   have c4b1 : decide (0 < l0_4.length) = false := decide_eq_false (by omega)
   clear c4
   replace H := Option.bind_eq_some_iff.mp H
   obtain ⟨t106,A110,H⟩ := H
   replace H : ((qqk.f k l0_3 t106).bind fun t109 => (some t109)) = some r := H
   have A11 := qq.mk A110
   clear A110
   replace H := Option.bind_eq_some_iff.mp H
   obtain ⟨t109,A120,H⟩ := H
   replace H : (some t109) = some r := H
   have A12 := qq.mk A120
   clear A120
   obtain rfl := Option.some.inj H
   go_enter Try.func23,Try.ntmps23
   go_wp2_with (first | ((with_reducible refine gate_dst (N := 1) rfl ?_);refine box_event ?hg (N := 1) ?hd (cs := #[.int .i64 a0_0,.string a0_1,.string a0_2,.slice A0_3 l0_3.length c0_3,.slice A0_4 l0_4.length c0_4]) (t := 27) ?hr ?_;(case hd => rfl);(case hg => rfl);(case hr => first | (go_simp;done) | (go_simp;rfl));intro gb101 hg w13 hbox hb;have n0_ := qq.mk (zv (by repeat (first | (with_reducible first | exact HB.out | apply qj | apply qz | apply qk) | exact HB.out)) hb);have n1_ := qq.mk (hbox);have n2_ := qq.mk ((by rw [hg];exact (zw (by repeat (first | (with_reducible first | exact HB.out | apply qj | apply qz | apply qk) | exact HB.out))) : w.heap.size ≤ gb101));have n3_ := qq.mk ((by rw [hg];exact (zw (by repeat (first | (with_reducible first | exact HB.out | apply qj | apply qz | apply qk) | exact HB.out))) : w.heap.size ≤ gb101));clear HB;have HB := n0_;have BK101 := n1_;have GW101 := n2_;have GE101 := n3_;clear n0_ n1_ n2_ n3_;clear hb hbox hg;have hcz14_0 : w13.cell? ⟨gb101,0,none⟩ = some (.int .i64 a0_0) := (qw BK101.out 0).trans rfl;have hcz14_1 : w13.cell? ⟨gb101,1,none⟩ = some (.string a0_1) := (qw BK101.out 1).trans rfl;have hcz14_2 : w13.cell? ⟨gb101,2,none⟩ = some (.string a0_2) := (qw BK101.out 2).trans rfl;have hcz14_3 : w13.cell? ⟨gb101,3,none⟩ = some (.slice A0_3 l0_3.length c0_3) := (qw BK101.out 3).trans rfl;have hcz14_4 : w13.cell? ⟨gb101,4,none⟩ = some (.slice A0_4 l0_4.length c0_4) := (qw BK101.out 4).trans rfl;have hfz14_0 := qv BK101.out 0;have hfz14_1 := qv BK101.out 1;have hfz14_2 := qv BK101.out 2;have hfz14_3 := qv BK101.out 3;have hfz14_4 := qv BK101.out 4) | ((with_reducible refine kj (f := 20) rfl ?_);refine goesL_ (some 4) rfl rfl Try.func20 (by kernel_rfl) rfl #[.agg #[.int .i64 a0_0,.string a0_1,.string a0_2,.slice A0_3 l0_3.length c0_3,.slice A0_4 l0_4.length c0_4]] rfl (by (try simp only [List.map_toArray,List.map_cons,List.map_nil]);first | done | rfl | (simp only [List.length_drop,List.length_take];rfl)) ?_;(with_reducible refine (qqz.calls k a0_0 a0_1 a0_2 _ _ l0_3 _ _ l0_4 true _ ?side1 ?side2 ?side3 ?side4 A2.out).mono ?_);(case side1 => repeat (first | exact (Kd.C_below HR0_3.out HB.out) | (with_reducible refine Kd.C_alloc ?_ _) | (with_reducible refine Kd.C_drewN ?_ _) | (with_reducible refine Kd.C_drew ?_)));(case side2 => exact HC0_3.out);(case side3 => repeat (first | exact (Kd.C_below HR0_4.out HB.out) | (with_reducible refine Kd.C_alloc ?_ _) | (with_reducible refine Kd.C_drewN ?_ _) | (with_reducible refine Kd.C_drew ?_)));(case side4 => exact HC0_4.out);rintro e w15 ⟨rfl,hb⟩;refine ⟨_,rfl,?_⟩;have n0_ := qq.mk (wj (g := gb101) (o := .cells #[.int .i64 a0_0,.string a0_1,.string a0_2,.slice A0_3 l0_3.length c0_3,.slice A0_4 l0_4.length c0_4] 27 (0,0)) (by (with_reducible repeat (first | refine zz ?_ _ | refine zj ?_ | refine zq ?_ _));exact BK101.out) hb);have n1_ := qq.mk (zv (by repeat (first | (with_reducible first | exact HB.out | apply qj | apply qz | apply qk | refine qx ?_ GE101.out) | exact HB.out)) hb);clear BK101;clear HB;have BK101 := n0_;have HB := n1_;clear n0_ n1_;(try clear hb);(try clear hb2);(try clear hk);(try clear hi);have hcz16_0 : w15.cell? ⟨gb101,0,none⟩ = some (.int .i64 a0_0) := (qw BK101.out 0).trans rfl;have hcz16_1 : w15.cell? ⟨gb101,1,none⟩ = some (.string a0_1) := (qw BK101.out 1).trans rfl;have hcz16_2 : w15.cell? ⟨gb101,2,none⟩ = some (.string a0_2) := (qw BK101.out 2).trans rfl;have hcz16_3 : w15.cell? ⟨gb101,3,none⟩ = some (.slice A0_3 l0_3.length c0_3) := (qw BK101.out 3).trans rfl;have hcz16_4 : w15.cell? ⟨gb101,4,none⟩ = some (.slice A0_4 l0_4.length c0_4) := (qw BK101.out 4).trans rfl;have hfz16_0 := qv BK101.out 0;have hfz16_1 := qv BK101.out 1;have hfz16_2 := qv BK101.out 2;have hfz16_3 := qv BK101.out 3;have hfz16_4 := qv BK101.out 4) | ((with_reducible refine gate_convert (src := 9) (dst := 22) rfl ?_);refine bytesGoesL_ (some 17) rfl rfl (s := a0_2) rfl rfl ?_;(with_reducible refine (bytesOfS.calls a0_2 t106 _ A11.out).mono ?_);rintro e w17 ⟨v107,rfl,ho0,hb⟩;refine ⟨_,rfl,?_⟩;have n0_ := qq.mk (Kd.V_lower (Kd.V_mono (ok' := fun k_ => k_ ≠ gb101) ho0 (fun k_ hk_ => (Kd.freshB (g := gb101) (o := .cells #[.int .i64 a0_0,.string a0_1,.string a0_2,.slice A0_3 l0_3.length c0_3,.slice A0_4 l0_4.length c0_4] 27 (0,0)) (by (with_reducible repeat (first | refine zz ?_ _ | refine zj ?_ | refine zq ?_ _));exact BK101.out) k_ hk_))) (zw (by repeat (first | (with_reducible first | exact HB.out | apply qj | apply qz | apply qk | refine qx ?_ GE101.out) | exact HB.out))));have n1_ := qq.mk (wj (g := gb101) (o := .cells #[.int .i64 a0_0,.string a0_1,.string a0_2,.slice A0_3 l0_3.length c0_3,.slice A0_4 l0_4.length c0_4] 27 (0,0)) (by (with_reducible repeat (first | refine zz ?_ _ | refine zj ?_ | refine zq ?_ _));exact BK101.out) hb);have n2_ := qq.mk (zv (by repeat (first | (with_reducible first | exact HB.out | apply qj | apply qz | apply qk | refine qx ?_ GE101.out) | exact HB.out)) hb);clear BK101;clear HB;have HO108 := n0_;have BK101 := n1_;have HB := n2_;clear n0_ n1_ n2_;(try clear hb);(try clear hb2);(try clear hk);(try clear hi);(try clear ho0);obtain ⟨Ao18,co18,eo18⟩ := Kd.V_slice HO108.out;subst eo18) | ((with_reducible refine kj (f := 75) rfl ?_);refine goesL_ (some 18) rfl rfl Try.func75 (by kernel_rfl) rfl #[.slice A0_3 l0_3.length c0_3,.slice Ao18 t106.length co18] rfl (by (try simp only [List.map_toArray,List.map_cons,List.map_nil]);first | done | rfl | (simp only [List.length_drop,List.length_take];rfl)) ?_;(with_reducible refine (qqk.calls k _ _ l0_3 _ _ t106 t109 _ ?side1 ?side2 ?side3 ?side4 A12.out).mono ?_);(case side1 => repeat (first | exact (Kd.C_below HR0_3.out HB.out) | (with_reducible refine Kd.C_alloc ?_ _) | (with_reducible refine Kd.C_drewN ?_ _) | (with_reducible refine Kd.C_drew ?_)));(case side2 => exact HC0_3.out);(case side3 => repeat (first | exact (Kd.V_reads' HO108.out).2.2 | (with_reducible refine Kd.C_alloc ?_ _) | (with_reducible refine Kd.C_drewN ?_ _) | (with_reducible refine Kd.C_drew ?_)));(case side4 => exact (Kd.V_reads' HO108.out).2.1);rintro e w19 ⟨v110,rfl,ho0,hb⟩;refine ⟨_,rfl,?_⟩;have n0_ := qq.mk (Kd.V_elder' (by (with_reducible repeat (first | apply Kd.wq | apply Kd.vx | apply Kd.wz));exact HO108.out) (Kd.R_base ho0) hb);have n1_ := qq.mk (Kd.R_lower ho0 (zw (by repeat (first | (with_reducible first | exact HB.out | apply qj | apply qz | apply qk | refine qx ?_ GE101.out) | exact HB.out))));have n2_ := qq.mk (wj (g := gb101) (o := .cells #[.int .i64 a0_0,.string a0_1,.string a0_2,.slice A0_3 l0_3.length c0_3,.slice A0_4 l0_4.length c0_4] 27 (0,0)) (by (with_reducible repeat (first | refine zz ?_ _ | refine zj ?_ | refine zq ?_ _));exact BK101.out) hb);have n3_ := qq.mk (zv (by repeat (first | (with_reducible first | exact HB.out | apply qj | apply qz | apply qk | refine qx ?_ GE101.out) | exact HB.out)) hb);clear HO108;clear BK101;clear HB;have HO108 := n0_;have HO111 := n1_;have BK101 := n2_;have HB := n3_;clear n0_ n1_ n2_ n3_;(try clear hb);(try clear hb2);(try clear hk);(try clear hi);(try clear ho0)))
   go_ret
   exact ⟨_,by first | rfl | (simp [*,kz,jx] <;> rfl),by (with_reducible repeat (first | apply Kd.jq | apply Kd.zx | apply Kd.jz));exact HO111.out,by repeat (first | (with_reducible first | exact HB.out | apply qj | apply qz | apply qk | refine qx ?_ GE101.out) | exact HB.out)⟩
 ·replace c3 := Bool.eq_false_iff.mpr c3
  subst c3
  have H1 : (some ([] : List Int)) = some r := by rw [if_neg (show ¬ (false = true) by decide)] at H;exact H
  clear H
  have H := H1
  clear H1
  obtain rfl := Option.some.inj H
  go_enter Try.func23,Try.ntmps23
  go_wp2_with (first | ((with_reducible refine gate_dst (N := 1) rfl ?_);refine box_event ?hg (N := 1) ?hd (cs := #[.int .i64 a0_0,.string a0_1,.string a0_2,.slice A0_3 l0_3.length c0_3,.slice A0_4 l0_4.length c0_4]) (t := 27) ?hr ?_;(case hd => rfl);(case hg => rfl);(case hr => first | (go_simp;done) | (go_simp;rfl));intro gb101 hg w20 hbox hb;have n0_ := qq.mk (zv (by repeat (first | (with_reducible first | exact HB.out | apply qj | apply qz | apply qk) | exact HB.out)) hb);have n1_ := qq.mk (hbox);have n2_ := qq.mk ((by rw [hg];exact (zw (by repeat (first | (with_reducible first | exact HB.out | apply qj | apply qz | apply qk) | exact HB.out))) : w.heap.size ≤ gb101));have n3_ := qq.mk ((by rw [hg];exact (zw (by repeat (first | (with_reducible first | exact HB.out | apply qj | apply qz | apply qk) | exact HB.out))) : w.heap.size ≤ gb101));clear HB;have HB := n0_;have BK101 := n1_;have GW101 := n2_;have GE101 := n3_;clear n0_ n1_ n2_ n3_;clear hb hbox hg;have hcz21_0 : w20.cell? ⟨gb101,0,none⟩ = some (.int .i64 a0_0) := (qw BK101.out 0).trans rfl;have hcz21_1 : w20.cell? ⟨gb101,1,none⟩ = some (.string a0_1) := (qw BK101.out 1).trans rfl;have hcz21_2 : w20.cell? ⟨gb101,2,none⟩ = some (.string a0_2) := (qw BK101.out 2).trans rfl;have hcz21_3 : w20.cell? ⟨gb101,3,none⟩ = some (.slice A0_3 l0_3.length c0_3) := (qw BK101.out 3).trans rfl;have hcz21_4 : w20.cell? ⟨gb101,4,none⟩ = some (.slice A0_4 l0_4.length c0_4) := (qw BK101.out 4).trans rfl;have hfz21_0 := qv BK101.out 0;have hfz21_1 := qv BK101.out 1;have hfz21_2 := qv BK101.out 2;have hfz21_3 := qv BK101.out 3;have hfz21_4 := qv BK101.out 4) | ((with_reducible refine kj (f := 20) rfl ?_);refine goesL_ (some 4) rfl rfl Try.func20 (by kernel_rfl) rfl #[.agg #[.int .i64 a0_0,.string a0_1,.string a0_2,.slice A0_3 l0_3.length c0_3,.slice A0_4 l0_4.length c0_4]] rfl (by (try simp only [List.map_toArray,List.map_cons,List.map_nil]);first | done | rfl | (simp only [List.length_drop,List.length_take];rfl)) ?_;(with_reducible refine (qqz.calls k a0_0 a0_1 a0_2 _ _ l0_3 _ _ l0_4 false _ ?side1 ?side2 ?side3 ?side4 A2.out).mono ?_);(case side1 => repeat (first | exact (Kd.C_below HR0_3.out HB.out) | (with_reducible refine Kd.C_alloc ?_ _) | (with_reducible refine Kd.C_drewN ?_ _) | (with_reducible refine Kd.C_drew ?_)));(case side2 => exact HC0_3.out);(case side3 => repeat (first | exact (Kd.C_below HR0_4.out HB.out) | (with_reducible refine Kd.C_alloc ?_ _) | (with_reducible refine Kd.C_drewN ?_ _) | (with_reducible refine Kd.C_drew ?_)));(case side4 => exact HC0_4.out);rintro e w22 ⟨rfl,hb⟩;refine ⟨_,rfl,?_⟩;have n0_ := qq.mk (wj (g := gb101) (o := .cells #[.int .i64 a0_0,.string a0_1,.string a0_2,.slice A0_3 l0_3.length c0_3,.slice A0_4 l0_4.length c0_4] 27 (0,0)) (by (with_reducible repeat (first | refine zz ?_ _ | refine zj ?_ | refine zq ?_ _));exact BK101.out) hb);have n1_ := qq.mk (zv (by repeat (first | (with_reducible first | exact HB.out | apply qj | apply qz | apply qk | refine qx ?_ GE101.out) | exact HB.out)) hb);clear BK101;clear HB;have BK101 := n0_;have HB := n1_;clear n0_ n1_;(try clear hb);(try clear hb2);(try clear hk);(try clear hi)))
  go_ret
  exact ⟨_,by first | rfl | (simp [*,kz,jx] <;> rfl),by first | exact Kd.R_nil _ _ _ _ _ | exact Kd.N_nil _ _ _ _ _ | exact Kd.V_nil _ _ _ _ _ | exact Kd.Q_nil _ _ _ _ _ | exact Kd.S_nil _ _ _ _ _,by repeat (first | (with_reducible first | exact HB.out | apply qj | apply qz | apply qk | refine qx ?_ GE101.out) | exact HB.out)⟩
def qqj.f (k : Nat) (a0_0 : Int) (a0_1 : ByteArray) (a0_2 : ByteArray) (l0_3 : List Int) (l0_4 : List Int) : Option (List Int) := (qqz.f k a0_0 a0_1 a0_2 l0_3 l0_4).bind fun t102 => (if t102 = true then ((qzz.f a0_0).bind fun t106 => ((qzz.f (a0_0 / 4294967296)).bind fun t109 => ((bytesOfS.f a0_1).bind fun t112 => ((qqq.f t112).bind fun t115 => ((xx.f k a0_0 a0_1 a0_2 l0_3 l0_4).bind fun t118 => ((qjk.f (([(([0] : List Int)),t106,t109,t115,t118] : List (List Int)))).bind fun t124 => ((qqq.f t124).bind fun t127 => (some t127)))))))) else (some ([] : List Int)))
def qqj.T3 : Bool × List (List Nat × List Nat) := (true,[([],[]),([],[]),([1],[1]),([2],[2]),([],[]),([4],[4]),([5],[5]),([6,3],[6]),([],[]),([8],[8]),([9],[9]),([10,7],[10]),([],[]),([12,11],[12]),([0,3,7,11,13],[0,3,7,11,13]),([14,13],[14]),([15,15],[15]),([16,16,0,1,2,3,4,5,6,7,8,9,10,11,12,13,14,15,16],[16])])
def qqj.B3 : List Nat := [0,0,2,6,0,16,48,126,0,256,768,2046,0,8190,16383,32767,65535,131071]
theorem qqj.tab3 : rtab .any (opsOf Try.f29 3) = qqj.T3 := by kernel_rfl
theorem qqj.bits3 : waitsOk qqj.T3.2 qqj.B3 = true := by kernel_rfl
set_option maxHeartbeats 8000000 in
set_option maxRecDepth 100000 in
theorem qqj.callsN (k : Nat) (a0_0 : Int) (a0_1 : ByteArray) (a0_2 : ByteArray) (A0_3 : Option Addr) (c0_3 : Nat) (l0_3 : List Int) (A0_4 : Option Addr) (c0_4 : Nat) (l0_4 : List Int) (r : List Int) (w : World) (hr0_3 : Kd.C (Kd.int .u8) w A0_3 l0_3.length l0_3) (hc0_3 : l0_3.length ≤ c0_3) (hr0_4 : Kd.C (Kd.int .u8) w A0_4 l0_4.length l0_4) (hc0_4 : l0_4.length ≤ c0_4) (h : qqj.f k a0_0 a0_1 a0_2 l0_3 l0_4 = some r) :
  Calls Try.prog 29 #[.agg #[.int .i64 a0_0,.string a0_1,.string a0_2,.slice A0_3 l0_3.length c0_3,.slice A0_4 l0_4.length c0_4]] w fun e w' => ∃ v0_ : Value,e = .returned (v0_) ∧ (r.length = 0 → v0_ = .slice none 0 0) ∧ Kd.R (Kd.int .u8) 5 w' w.heap.size (fun _ => True) v0_ r ∧ Below w.heap.size w w' := by
 have hu27 := Try.underlying27
 have HR0_3 := qq.mk hr0_3
 have HC0_3 := qq.mk hc0_3
 clear hr0_3 hc0_3
 have HR0_4 := qq.mk hr0_4
 have HC0_4 := qq.mk hc0_4
 clear hr0_4 hc0_4
 have HB := qq.mk (Below.refl w.heap.size w)
 have H : ((qqz.f k a0_0 a0_1 a0_2 l0_3 l0_4).bind fun t102 => (if t102 = true then ((qzz.f a0_0).bind fun t106 => ((qzz.f (a0_0 / 4294967296)).bind fun t109 => ((bytesOfS.f a0_1).bind fun t112 => ((qqq.f t112).bind fun t115 => ((xx.f k a0_0 a0_1 a0_2 l0_3 l0_4).bind fun t118 => ((qjk.f (([(([0] : List Int)),t106,t109,t115,t118] : List (List Int)))).bind fun t124 => ((qqq.f t124).bind fun t127 => (some t127)))))))) else (some ([] : List Int)))) = some r := h
 clear h
 replace H := Option.bind_eq_some_iff.mp H
 obtain ⟨t102,A20,H⟩ := H
 replace H : (if t102 = true then ((qzz.f a0_0).bind fun t106 => ((qzz.f (a0_0 / 4294967296)).bind fun t109 => ((bytesOfS.f a0_1).bind fun t112 => ((qqq.f t112).bind fun t115 => ((xx.f k a0_0 a0_1 a0_2 l0_3 l0_4).bind fun t118 => ((qjk.f (([(([0] : List Int)),t106,t109,t115,t118] : List (List Int)))).bind fun t124 => ((qqq.f t124).bind fun t127 => (some t127)))))))) else (some ([] : List Int))) = some r := H
 have A2 := qq.mk A20
 clear A20
 by_cases c3 : t102 = true
 ·subst c3
  have H1 : ((qzz.f a0_0).bind fun t106 => ((qzz.f (a0_0 / 4294967296)).bind fun t109 => ((bytesOfS.f a0_1).bind fun t112 => ((qqq.f t112).bind fun t115 => ((xx.f k a0_0 a0_1 a0_2 l0_3 l0_4).bind fun t118 => ((qjk.f (([(([0] : List Int)),t106,t109,t115,t118] : List (List Int)))).bind fun t124 => ((qqq.f t124).bind fun t127 => (some t127)))))))) = some r := by rw [if_pos rfl] at H;exact H
  clear H
  have H := H1
  clear H1
  obtain ⟨y103,hy103⟩ : ∃ y_ : List Int,y_ = (([0] : List Int)) := ⟨_,rfl⟩
  replace H : ((qzz.f a0_0).bind fun t106 => ((qzz.f (a0_0 / 4294967296)).bind fun t109 => ((bytesOfS.f a0_1).bind fun t112 => ((qqq.f t112).bind fun t115 => ((xx.f k a0_0 a0_1 a0_2 l0_3 l0_4).bind fun t118 => ((qjk.f (([y103,t106,t109,t115,t118] : List (List Int)))).bind fun t124 => ((qqq.f t124).bind fun t127 => (some t127)))))))) = some r := by first | (rw [hy103];with_reducible exact H) | (have H2_ := (Option.bind_some _ _).symm.trans H;rw [hy103];with_reducible exact H2_) | (have H2_ := (Option.bind_some _ _).symm.trans H;with_reducible exact H2_) | with_reducible exact H | (rw [hy103];exact H) | exact H
  have Ny103 := qq.mk hy103
  clear hy103
  replace H := Option.bind_eq_some_iff.mp H
  obtain ⟨t106,A40,H⟩ := H
  replace H : ((qzz.f (a0_0 / 4294967296)).bind fun t109 => ((bytesOfS.f a0_1).bind fun t112 => ((qqq.f t112).bind fun t115 => ((xx.f k a0_0 a0_1 a0_2 l0_3 l0_4).bind fun t118 => ((qjk.f (([y103,t106,t109,t115,t118] : List (List Int)))).bind fun t124 => ((qqq.f t124).bind fun t127 => (some t127))))))) = some r := H
  have A4 := qq.mk A40
  clear A40
  replace H := Option.bind_eq_some_iff.mp H
  obtain ⟨t109,A50,H⟩ := H
  replace H : ((bytesOfS.f a0_1).bind fun t112 => ((qqq.f t112).bind fun t115 => ((xx.f k a0_0 a0_1 a0_2 l0_3 l0_4).bind fun t118 => ((qjk.f (([y103,t106,t109,t115,t118] : List (List Int)))).bind fun t124 => ((qqq.f t124).bind fun t127 => (some t127)))))) = some r := H
  have A5 := qq.mk A50
  clear A50
  replace H := Option.bind_eq_some_iff.mp H
  obtain ⟨t112,A60,H⟩ := H
  replace H : ((qqq.f t112).bind fun t115 => ((xx.f k a0_0 a0_1 a0_2 l0_3 l0_4).bind fun t118 => ((qjk.f (([y103,t106,t109,t115,t118] : List (List Int)))).bind fun t124 => ((qqq.f t124).bind fun t127 => (some t127))))) = some r := H
  have A6 := qq.mk A60
  clear A60
  replace H := Option.bind_eq_some_iff.mp H
  obtain ⟨t115,A70,H⟩ := H
  replace H : ((xx.f k a0_0 a0_1 a0_2 l0_3 l0_4).bind fun t118 => ((qjk.f (([y103,t106,t109,t115,t118] : List (List Int)))).bind fun t124 => ((qqq.f t124).bind fun t127 => (some t127)))) = some r := H
  have A7 := qq.mk A70
  clear A70
  replace H := Option.bind_eq_some_iff.mp H
  obtain ⟨t118,A80,H⟩ := H
  replace H : ((qjk.f (([y103,t106,t109,t115,t118] : List (List Int)))).bind fun t124 => ((qqq.f t124).bind fun t127 => (some t127))) = some r := H
  have A8 := qq.mk A80
  clear A80
  obtain ⟨y121,hy121⟩ : ∃ y_ : List (List Int),y_ = (([y103,t106,t109,t115,t118] : List (List Int))) := ⟨_,rfl⟩
  replace H : ((qjk.f y121).bind fun t124 => ((qqq.f t124).bind fun t127 => (some t127))) = some r := by first | (rw [hy121];with_reducible exact H) | (have H2_ := (Option.bind_some _ _).symm.trans H;rw [hy121];with_reducible exact H2_) | (have H2_ := (Option.bind_some _ _).symm.trans H;with_reducible exact H2_) | with_reducible exact H | (rw [hy121];exact H) | exact H
  have Ny121 := qq.mk hy121
  clear hy121
  replace H := Option.bind_eq_some_iff.mp H
  obtain ⟨t124,A90,H⟩ := H
  replace H : ((qqq.f t124).bind fun t127 => (some t127)) = some r := H
  have A9 := qq.mk A90
  clear A90
  replace H := Option.bind_eq_some_iff.mp H
  obtain ⟨t127,A100,H⟩ := H
  replace H : (some t127) = some r := H
  have A10 := qq.mk A100
  clear A100
  obtain rfl := Option.some.inj H
  go_enter Try.func29,Try.ntmps29
  try go_wp2_with (first | ((with_reducible refine gate_dst (N := 1) rfl ?_);refine box_event ?hg (N := 1) ?hd (cs := #[.int .i64 a0_0,.string a0_1,.string a0_2,.slice A0_3 l0_3.length c0_3,.slice A0_4 l0_4.length c0_4]) (t := 27) ?hr ?_;(case hd => rfl);(case hg => rfl);(case hr => first | (go_simp;done) | (go_simp;rfl));intro gb101 hg w11 hbox hb;have n0_ := qq.mk (zv (by repeat (first | (with_reducible first | exact HB.out | apply qj | apply qz | apply qk) | exact HB.out)) hb);have n1_ := qq.mk (hbox);have n2_ := qq.mk ((by rw [hg];exact (zw (by repeat (first | (with_reducible first | exact HB.out | apply qj | apply qz | apply qk) | exact HB.out))) : w.heap.size ≤ gb101));have n3_ := qq.mk ((by rw [hg];exact (zw (by repeat (first | (with_reducible first | exact HB.out | apply qj | apply qz | apply qk) | exact HB.out))) : w.heap.size ≤ gb101));clear HB;have HB := n0_;have BK101 := n1_;have GW101 := n2_;have GE101 := n3_;clear n0_ n1_ n2_ n3_;clear hb hbox hg;have hcz12_0 : w11.cell? ⟨gb101,0,none⟩ = some (.int .i64 a0_0) := (qw BK101.out 0).trans rfl;have hcz12_1 : w11.cell? ⟨gb101,1,none⟩ = some (.string a0_1) := (qw BK101.out 1).trans rfl;have hcz12_2 : w11.cell? ⟨gb101,2,none⟩ = some (.string a0_2) := (qw BK101.out 2).trans rfl;have hcz12_3 : w11.cell? ⟨gb101,3,none⟩ = some (.slice A0_3 l0_3.length c0_3) := (qw BK101.out 3).trans rfl;have hcz12_4 : w11.cell? ⟨gb101,4,none⟩ = some (.slice A0_4 l0_4.length c0_4) := (qw BK101.out 4).trans rfl;have hfz12_0 := qv BK101.out 0;have hfz12_1 := qv BK101.out 1;have hfz12_2 := qv BK101.out 2;have hfz12_3 := qv BK101.out 3;have hfz12_4 := qv BK101.out 4) | ((with_reducible refine kj (f := 20) rfl ?_);refine goesL_ (some 4) rfl rfl Try.func20 (by kernel_rfl) rfl #[.agg #[.int .i64 a0_0,.string a0_1,.string a0_2,.slice A0_3 l0_3.length c0_3,.slice A0_4 l0_4.length c0_4]] rfl (by (try simp only [List.map_toArray,List.map_cons,List.map_nil]);first | done | rfl | (simp only [List.length_drop,List.length_take];rfl)) ?_;(with_reducible refine (qqz.calls k a0_0 a0_1 a0_2 _ _ l0_3 _ _ l0_4 true _ ?side1 ?side2 ?side3 ?side4 A2.out).mono ?_);(case side1 => repeat (first | exact (Kd.C_below HR0_3.out HB.out) | (with_reducible refine Kd.C_alloc ?_ _) | (with_reducible refine Kd.C_drewN ?_ _) | (with_reducible refine Kd.C_drew ?_)));(case side2 => exact HC0_3.out);(case side3 => repeat (first | exact (Kd.C_below HR0_4.out HB.out) | (with_reducible refine Kd.C_alloc ?_ _) | (with_reducible refine Kd.C_drewN ?_ _) | (with_reducible refine Kd.C_drew ?_)));(case side4 => exact HC0_4.out);rintro e w13 ⟨rfl,hb⟩;refine ⟨_,rfl,?_⟩;have n0_ := qq.mk (wj (g := gb101) (o := .cells #[.int .i64 a0_0,.string a0_1,.string a0_2,.slice A0_3 l0_3.length c0_3,.slice A0_4 l0_4.length c0_4] 27 (0,0)) (by (with_reducible repeat (first | refine zz ?_ _ | refine zj ?_ | refine zq ?_ _));exact BK101.out) hb);have n1_ := qq.mk (zv (by repeat (first | (with_reducible first | exact HB.out | apply qj | apply qz | apply qk | refine qx ?_ GE101.out) | exact HB.out)) hb);clear BK101;clear HB;have BK101 := n0_;have HB := n1_;clear n0_ n1_;(try clear hb);(try clear hb2);(try clear hk);(try clear hi)))
  have n0_ := qq.mk (zj BK101.out)
  have n1_ := qq.mk (qk HB.out)
  clear BK101
  clear HB
  have BK101 := n0_
  have HB := n1_
  clear n0_ n1_
  refine start_ (n := 18) (S := fun w' => True) (ds := []) #[false,false,false,false,false,false,false,false,false,false,false,false,false,false,false,false,false,false] (by kernel_rfl) rfl rfl trivial (fun hHeld => ?_);refine with_tabW qqj.tab3 qqj.bits3 (fun HT_ HW_ => ?_)
  generalize w13.drew = w14 at BK101 HB hHeld ⊢
  refine pure_ (i := 1) (N := some 7) (v := ?_) (a' := ?_) #[false,true,false,false,false,false,false,false,false,false,false,false,false,false,false,false,false,false] rfl rfl (any_of HT_.out (by kernel_rfl)) (fun _ _ _ h => h) (Or.inl ⟨by rfl,?_⟩) ?_ ?_
  rotate_left
  ·intro w'
   go_simp
   with_reducible rfl
  rotate_left
  ·simp only [Act.put,List.setIfInBounds_toArray,List.set_cons_zero,List.set_cons_succ,i64_w,i32_w]
   rfl
  refine pure_ (i := 4) (N := some 10) (v := ?_) (a' := ?_) #[false,true,false,false,true,false,false,false,false,false,false,false,false,false,false,false,false,false] rfl rfl (any_of HT_.out (by kernel_rfl)) (fun _ _ _ h => h) (Or.inl ⟨by rfl,?_⟩) ?_ ?_
  rotate_left
  ·intro w'
   go_simp
   with_reducible rfl
  rotate_left
  ·simp only [Act.put,List.setIfInBounds_toArray,List.set_cons_zero,List.set_cons_succ,i64_w,i32_w]
   rfl
  refine pure_ (i := 8) (N := some 14) (v := ?_) (a' := ?_) #[false,true,false,false,true,false,false,false,true,false,false,false,false,false,false,false,false,false] rfl rfl (any_of HT_.out (by kernel_rfl)) (fun _ _ _ h => h) (Or.inl ⟨by rfl,?_⟩) ?_ ?_
  rotate_left
  ·intro w'
   go_simp
   with_reducible rfl
  rotate_left
  ·simp only [Act.put,List.setIfInBounds_toArray,List.set_cons_zero,List.set_cons_succ,i64_w,i32_w]
   rfl
  refine inv_at [0,2,3,5,6,7,9,10,11,12,13,14,15,16,17] (fun a0_ b a w' => ∃ (v104 : Value) (v107 : Value) (v110 : Value) (v113 : Value) (v116 : Value) (v119 : Value) (v122 : Value) (v125 : Value) (v128 : Value) (m17_ : Value),a = putSel a0_ b [(0,6,v104),(2,8,.int .i64 a0_0),(3,9,v107),(5,11,.int .i64 a0_0),(6,12,.int .i64 (a0_0 / 4294967296)),(7,13,v110),(9,15,.string a0_1),(10,16,v113),(11,17,v116),(12,18,.agg #[.int .i64 a0_0,.string a0_1,.string a0_2,.slice A0_3 l0_3.length c0_3,.slice A0_4 l0_4.length c0_4]),(13,19,v119),(14,20,v122),(15,21,v125),(16,22,v128),(17,2,m17_)] ∧ (w'.heap[gb101]? = some (.cells #[.int .i64 a0_0,.string a0_1,.string a0_2,.slice A0_3 l0_3.length c0_3,.slice A0_4 l0_4.length c0_4] 27 (0,0))) ∧ (Below w.heap.size w w') ∧ (b 0 = true → b 14 = false → Kd.R (Kd.int .u8) 5 w' w.heap.size (fun _ => True) v104 y103) ∧ (b 3 = true → b 14 = false → Kd.R (Kd.int .u8) 5 w' w.heap.size (fun _ => True) v107 t106) ∧ (b 7 = true → b 14 = false → Kd.R (Kd.int .u8) 5 w' w.heap.size (fun _ => True) v110 t109) ∧ (b 10 = true → Kd.V (Kd.int .u8) 5 w' w.heap.size (fun k_ => k_ ≠ gb101) v113 t112) ∧ (b 11 = true → b 14 = false → Kd.R (Kd.int .u8) 5 w' w.heap.size (fun _ => True) v116 t115) ∧ (b 13 = true → b 14 = false → Kd.R (Kd.int .u8) 5 w' w.heap.size (fun _ => True) v119 t118) ∧ (b 14 = true → Kd.N (Kd.slice 5 (Kd.int .u8)) 22 w' w.heap.size (fun k_ => k_ ≠ gb101) v122 y121) ∧ (b 15 = true → Kd.R (Kd.int .u8) 5 w' w.heap.size (fun _ => True) v125 t124) ∧ (b 16 = true → Kd.R (Kd.int .u8) 5 w' w.heap.size (fun _ => True) v128 t127) ∧ (b 17 = true → (m17_ : Value) = v128)) HT_.out HW_.out (by kernel_rfl) (by kernel_rfl) ?_ ?_ ?_
  ·exact ⟨.bool false,.bool false,.bool false,.bool false,.bool false,.bool false,.bool false,.bool false,.bool false,.bool false,by simp only [putSel,Bool.false_eq_true,if_false],BK101.out,HB.out,fun h_ => absurd h_ (by decide),fun h_ => absurd h_ (by decide),fun h_ => absurd h_ (by decide),fun h_ => absurd h_ (by decide),fun h_ => absurd h_ (by decide),fun h_ => absurd h_ (by decide),fun h_ => absurd h_ (by decide),fun h_ => absurd h_ (by decide),fun h_ => absurd h_ (by decide),fun h_ => absurd h_ (by decide)⟩
  ·skip
   clear BK101 HB
   refine steps_cons ?_ ?_
   ·rintro b a w' ⟨v104,v107,v110,v113,v116,v119,v122,v125,v128,m17_,ha,Q_BK101,Q_HB,Q_HO105,Q_HO108,Q_HO111,Q_HO114,Q_HO117,Q_HO120,Q_HO123,Q_HO126,Q_HO129,Q_X17_⟩ hb_ hon hoff
    refine ⟨_,rfl,fun K hK => ?_⟩
    replace ha := qq.mk ha
    have BK101 := qq.mk Q_BK101
    have HB := qq.mk Q_HB
    refine Kd.R_lit_step (Kd.int .u8) _ 5 ?hg (N := 6) ?hd (xs := ([0] : List Int)) (inner := [.int .u8 0]) (ok := fun _ => True) (okp := fun _ => True) ?hr ?hp (fun _ hk => by first | exact hk | trivial | (simp_all;done) | grind) trivial (Below.refl _ _) (Nat.le_refl _) (by simp) ?_;(case hd => rfl);(case hg => rfl);(case hr => first | (go_simp;done) | (go_simp;rfl));(case hp => exact (Reps.one (show Kd.M (Kd.int .u8) _ _ _ 0 [.int .u8 0] from rfl) (Reps.none _ _)))
    intro v104 w15 ho16 hb hg_ hnew_
    clear hg_ hnew_
    (first | rw [← Ny103.out] at ho16 | (simp only [Int.reduceToNat] at ho16;rw [← Ny103.out] at ho16))
    have n0_ := qq.mk (Kd.R_lower ho16 (zw (by repeat (first | (with_reducible first | exact HB.out | apply qj | apply qz | apply qk | refine qx ?_ GE101.out) | exact HB.out))))
    have n1_ := qq.mk (wj (g := gb101) (o := .cells #[.int .i64 a0_0,.string a0_1,.string a0_2,.slice A0_3 l0_3.length c0_3,.slice A0_4 l0_4.length c0_4] 27 (0,0)) (by (with_reducible repeat (first | refine zz ?_ _ | refine zj ?_ | refine zq ?_ _));exact BK101.out) hb)
    have n2_ := qq.mk (zv (by repeat (first | (with_reducible first | exact HB.out | apply qj | apply qz | apply qk | refine qx ?_ GE101.out) | exact HB.out)) hb)
    have z_HO108 := fun (h0_ : b 3 = true) (h1_ : b 14 = false) => (show Kd.R (Kd.int .u8) 5 w15 w.heap.size (fun _ => True) v107 t106 from by first | exact (Kd.R_elder' (by (with_reducible repeat (first | apply Kd.jq | apply Kd.zx | apply Kd.jz));exact (Q_HO108 h0_ h1_)) (Kd.R_base ho16) hb) | exact Kd.R_mono (Kd.R_elder' (by (with_reducible repeat (first | apply Kd.jq | apply Kd.zx | apply Kd.jz));exact (Q_HO108 h0_ h1_)) (Kd.R_base ho16) hb) (fun _ h_ => by first | trivial | exact h_ | exact h_.1))
    have z_HO111 := fun (h0_ : b 7 = true) (h1_ : b 14 = false) => (show Kd.R (Kd.int .u8) 5 w15 w.heap.size (fun _ => True) v110 t109 from by first | exact (Kd.R_elder' (by (with_reducible repeat (first | apply Kd.jq | apply Kd.zx | apply Kd.jz));exact (Q_HO111 h0_ h1_)) (Kd.R_base ho16) hb) | exact Kd.R_mono (Kd.R_elder' (by (with_reducible repeat (first | apply Kd.jq | apply Kd.zx | apply Kd.jz));exact (Q_HO111 h0_ h1_)) (Kd.R_base ho16) hb) (fun _ h_ => by first | trivial | exact h_ | exact h_.1))
    have z_HO114 := fun (h0_ : b 10 = true) => (show Kd.V (Kd.int .u8) 5 w15 w.heap.size (fun k_ => k_ ≠ gb101) v113 t112 from by first | exact (Kd.V_elder' (by (with_reducible repeat (first | apply Kd.wq | apply Kd.vx | apply Kd.wz));exact (Q_HO114 h0_)) (Kd.R_base ho16) hb) | exact Kd.V_mono (Kd.V_elder' (by (with_reducible repeat (first | apply Kd.wq | apply Kd.vx | apply Kd.wz));exact (Q_HO114 h0_)) (Kd.R_base ho16) hb) (fun _ h_ => by first | trivial | exact h_ | exact h_.1))
    have z_HO117 := fun (h0_ : b 11 = true) (h1_ : b 14 = false) => (show Kd.R (Kd.int .u8) 5 w15 w.heap.size (fun _ => True) v116 t115 from by first | exact (Kd.R_elder' (by (with_reducible repeat (first | apply Kd.jq | apply Kd.zx | apply Kd.jz));exact (Q_HO117 h0_ h1_)) (Kd.R_base ho16) hb) | exact Kd.R_mono (Kd.R_elder' (by (with_reducible repeat (first | apply Kd.jq | apply Kd.zx | apply Kd.jz));exact (Q_HO117 h0_ h1_)) (Kd.R_base ho16) hb) (fun _ h_ => by first | trivial | exact h_ | exact h_.1))
    have z_HO120 := fun (h0_ : b 13 = true) (h1_ : b 14 = false) => (show Kd.R (Kd.int .u8) 5 w15 w.heap.size (fun _ => True) v119 t118 from by first | exact (Kd.R_elder' (by (with_reducible repeat (first | apply Kd.jq | apply Kd.zx | apply Kd.jz));exact (Q_HO120 h0_ h1_)) (Kd.R_base ho16) hb) | exact Kd.R_mono (Kd.R_elder' (by (with_reducible repeat (first | apply Kd.jq | apply Kd.zx | apply Kd.jz));exact (Q_HO120 h0_ h1_)) (Kd.R_base ho16) hb) (fun _ h_ => by first | trivial | exact h_ | exact h_.1))
    clear BK101
    clear HB
    have HO105 := n0_
    have BK101 := n1_
    have HB := n2_
    clear n0_ n1_ n2_
    clear hb ho16
    refine hK.out _ _ ⟨v104,v107,v110,v113,v116,v119,v122,v125,v128,m17_,(by rw [ha.out];exact putSel_upk 0 hb_ rfl rfl rfl),(by (with_reducible repeat (first | refine zz ?_ _ | refine zj ?_ | refine zq ?_ _));exact BK101.out),(by repeat (first | (with_reducible first | exact HB.out | apply qj | apply qz | apply qk | refine qx ?_ GE101.out) | exact HB.out)),fun _ _ => (by (with_reducible repeat (first | apply Kd.jq | apply Kd.zx | apply Kd.jz));first | exact HO105.out | exact Kd.R_mono HO105.out (fun _ hk => by first | trivial | (simp_all;done) | grind)),z_HO108,z_HO111,z_HO114,z_HO117,z_HO120,fun h0_ => absurd ((hoff 14 (by kernel_rfl)).symm.trans h0_) (by decide),fun h0_ => absurd ((hoff 15 (by kernel_rfl)).symm.trans h0_) (by decide),fun h0_ => absurd ((hoff 16 (by kernel_rfl)).symm.trans h0_) (by decide),fun h0_ => absurd ((hoff 17 (by kernel_rfl)).symm.trans h0_) (by decide)⟩
   refine steps_cons ?_ ?_
   ·rintro b a w' ⟨v104,v107,v110,v113,v116,v119,v122,v125,v128,m17_,ha,Q_BK101,Q_HB,Q_HO105,Q_HO108,Q_HO111,Q_HO114,Q_HO117,Q_HO120,Q_HO123,Q_HO126,Q_HO129,Q_X17_⟩ hb_ hon hoff
    refine ⟨_,rfl,fun K hK => ?_⟩
    have e7 : a.tmps[7]? = some (.pointer (some ⟨gb101,0,none⟩)) := by rw [ha];exact (putSel_off rfl).trans rfl
    replace ha := qq.mk ha
    have BK101 := qq.mk Q_BK101
    have HB := qq.mk Q_HB
    have hc0_ : w'.cell? ⟨gb101,0,none⟩ = some (.int .i64 a0_0) := (qw BK101.out 0).trans rfl
    have hc1_ : w'.cell? ⟨gb101,1,none⟩ = some (.string a0_1) := (qw BK101.out 1).trans rfl
    have hc2_ : w'.cell? ⟨gb101,2,none⟩ = some (.string a0_2) := (qw BK101.out 2).trans rfl
    have hc3_ : w'.cell? ⟨gb101,3,none⟩ = some (.slice A0_3 l0_3.length c0_3) := (qw BK101.out 3).trans rfl
    have hc4_ : w'.cell? ⟨gb101,4,none⟩ = some (.slice A0_4 l0_4.length c0_4) := (qw BK101.out 4).trans rfl
    refine value_ (w1 := w') (v := .int .i64 a0_0) (by rfl) rfl ?_ ?_
    ·go_simp
     (try simp only [i64_w])
     try rfl
    refine hK.out _ _ ⟨v104,v107,v110,v113,v116,v119,v122,v125,v128,m17_,(by rw [ha.out];exact putSel_upk 1 hb_ rfl rfl rfl),Q_BK101,Q_HB,Q_HO105,fun h0_ _ => absurd ((hoff 3 (by kernel_rfl)).symm.trans h0_) (by decide),fun h0_ _ => absurd ((hoff 7 (by kernel_rfl)).symm.trans h0_) (by decide),Q_HO114,fun h0_ _ => absurd ((hoff 11 (by kernel_rfl)).symm.trans h0_) (by decide),fun h0_ _ => absurd ((hoff 13 (by kernel_rfl)).symm.trans h0_) (by decide),fun h0_ => absurd ((hoff 14 (by kernel_rfl)).symm.trans h0_) (by decide),fun h0_ => absurd ((hoff 15 (by kernel_rfl)).symm.trans h0_) (by decide),fun h0_ => absurd ((hoff 16 (by kernel_rfl)).symm.trans h0_) (by decide),fun h0_ => absurd ((hoff 17 (by kernel_rfl)).symm.trans h0_) (by decide)⟩
   refine steps_cons ?_ ?_
   ·rintro b a w' ⟨v104,v107,v110,v113,v116,v119,v122,v125,v128,m17_,ha,Q_BK101,Q_HB,Q_HO105,Q_HO108,Q_HO111,Q_HO114,Q_HO117,Q_HO120,Q_HO123,Q_HO126,Q_HO129,Q_X17_⟩ hb_ hon hoff
    refine ⟨_,rfl,fun K hK => ?_⟩
    have e8 : a.tmps[8]? = some (.int .i64 a0_0) := by rw [ha];exact putSel_on (e := (2,8,.int .i64 a0_0)) 1 rfl rfl (hon 2 (by kernel_rfl)) rfl
    replace ha := qq.mk ha
    have BK101 := qq.mk Q_BK101
    have HB := qq.mk Q_HB
    refine goes_ Try.func79 (by kernel_rfl) rfl #[.int .i64 a0_0] (by rfl) rfl rfl (by first | (simp only [List.map_toArray,List.map_cons,List.map_nil,Act.eval,Array.getD_eq_getD_getElem?,Option.getD_some,e8];done) | (simp only [List.map_toArray,List.map_cons,List.map_nil,Act.eval,Array.getD_eq_getD_getElem?,Option.getD_some,e8];rfl)) ?_
    with_reducible refine (qzz.calls a0_0 t106 _ A4.out).mono ?_
    rintro e w15 ⟨v107,rfl,ho0,hb⟩
    refine ⟨_,rfl,?_⟩
    have n0_ := qq.mk (Kd.R_lower ho0 (zw (by repeat (first | (with_reducible first | exact HB.out | apply qj | apply qz | apply qk | refine qx ?_ GE101.out) | exact HB.out))))
    have n1_ := qq.mk (wj (g := gb101) (o := .cells #[.int .i64 a0_0,.string a0_1,.string a0_2,.slice A0_3 l0_3.length c0_3,.slice A0_4 l0_4.length c0_4] 27 (0,0)) (by (with_reducible repeat (first | refine zz ?_ _ | refine zj ?_ | refine zq ?_ _));exact BK101.out) hb)
    have n2_ := qq.mk (zv (by repeat (first | (with_reducible first | exact HB.out | apply qj | apply qz | apply qk | refine qx ?_ GE101.out) | exact HB.out)) hb)
    have z_HO105 := fun (h0_ : b 0 = true) (h1_ : b 14 = false) => (show Kd.R (Kd.int .u8) 5 w15 w.heap.size (fun _ => True) v104 y103 from by first | exact (Kd.R_elder' (by (with_reducible repeat (first | apply Kd.jq | apply Kd.zx | apply Kd.jz));exact (Q_HO105 h0_ h1_)) (Kd.R_base ho0) hb) | exact Kd.R_mono (Kd.R_elder' (by (with_reducible repeat (first | apply Kd.jq | apply Kd.zx | apply Kd.jz));exact (Q_HO105 h0_ h1_)) (Kd.R_base ho0) hb) (fun _ h_ => by first | trivial | exact h_ | exact h_.1))
    have z_HO114 := fun (h0_ : b 10 = true) => (show Kd.V (Kd.int .u8) 5 w15 w.heap.size (fun k_ => k_ ≠ gb101) v113 t112 from by first | exact (Kd.V_elder' (by (with_reducible repeat (first | apply Kd.wq | apply Kd.vx | apply Kd.wz));exact (Q_HO114 h0_)) (Kd.R_base ho0) hb) | exact Kd.V_mono (Kd.V_elder' (by (with_reducible repeat (first | apply Kd.wq | apply Kd.vx | apply Kd.wz));exact (Q_HO114 h0_)) (Kd.R_base ho0) hb) (fun _ h_ => by first | trivial | exact h_ | exact h_.1))
    clear BK101
    clear HB
    have HO108 := n0_
    have BK101 := n1_
    have HB := n2_
    clear n0_ n1_ n2_
    (try clear hb)
    (try clear hb2)
    (try clear hk)
    (try clear hi)
    (try clear ho0)
    refine hK.out _ _ ⟨v104,v107,v110,v113,v116,v119,v122,v125,v128,m17_,(by rw [ha.out];exact putSel_upk 2 hb_ rfl rfl rfl),(by (with_reducible repeat (first | refine zz ?_ _ | refine zj ?_ | refine zq ?_ _));exact BK101.out),(by repeat (first | (with_reducible first | exact HB.out | apply qj | apply qz | apply qk | refine qx ?_ GE101.out) | exact HB.out)),z_HO105,fun _ _ => (by (with_reducible repeat (first | apply Kd.jq | apply Kd.zx | apply Kd.jz));first | exact HO108.out | exact Kd.R_mono HO108.out (fun _ hk => by first | trivial | (simp_all;done) | grind)),fun h0_ _ => absurd ((hoff 7 (by kernel_rfl)).symm.trans h0_) (by decide),z_HO114,fun h0_ _ => absurd ((hoff 11 (by kernel_rfl)).symm.trans h0_) (by decide),fun h0_ _ => absurd ((hoff 13 (by kernel_rfl)).symm.trans h0_) (by decide),fun h0_ => absurd ((hoff 14 (by kernel_rfl)).symm.trans h0_) (by decide),fun h0_ => absurd ((hoff 15 (by kernel_rfl)).symm.trans h0_) (by decide),fun h0_ => absurd ((hoff 16 (by kernel_rfl)).symm.trans h0_) (by decide),fun h0_ => absurd ((hoff 17 (by kernel_rfl)).symm.trans h0_) (by decide)⟩
   refine steps_cons ?_ ?_
   ·rintro b a w' ⟨v104,v107,v110,v113,v116,v119,v122,v125,v128,m17_,ha,Q_BK101,Q_HB,Q_HO105,Q_HO108,Q_HO111,Q_HO114,Q_HO117,Q_HO120,Q_HO123,Q_HO126,Q_HO129,Q_X17_⟩ hb_ hon hoff
    refine ⟨_,rfl,fun K hK => ?_⟩
    have e10 : a.tmps[10]? = some (.pointer (some ⟨gb101,0,none⟩)) := by rw [ha];exact (putSel_off rfl).trans rfl
    replace ha := qq.mk ha
    have BK101 := qq.mk Q_BK101
    have HB := qq.mk Q_HB
    have hc0_ : w'.cell? ⟨gb101,0,none⟩ = some (.int .i64 a0_0) := (qw BK101.out 0).trans rfl
    have hc1_ : w'.cell? ⟨gb101,1,none⟩ = some (.string a0_1) := (qw BK101.out 1).trans rfl
    have hc2_ : w'.cell? ⟨gb101,2,none⟩ = some (.string a0_2) := (qw BK101.out 2).trans rfl
    have hc3_ : w'.cell? ⟨gb101,3,none⟩ = some (.slice A0_3 l0_3.length c0_3) := (qw BK101.out 3).trans rfl
    have hc4_ : w'.cell? ⟨gb101,4,none⟩ = some (.slice A0_4 l0_4.length c0_4) := (qw BK101.out 4).trans rfl
    refine value_ (w1 := w') (v := .int .i64 a0_0) (by rfl) rfl ?_ ?_
    ·go_simp
     (try simp only [i64_w])
     try rfl
    refine hK.out _ _ ⟨v104,v107,v110,v113,v116,v119,v122,v125,v128,m17_,(by rw [ha.out];exact putSel_upk 3 hb_ rfl rfl rfl),Q_BK101,Q_HB,Q_HO105,Q_HO108,fun h0_ _ => absurd ((hoff 7 (by kernel_rfl)).symm.trans h0_) (by decide),Q_HO114,fun h0_ _ => absurd ((hoff 11 (by kernel_rfl)).symm.trans h0_) (by decide),fun h0_ _ => absurd ((hoff 13 (by kernel_rfl)).symm.trans h0_) (by decide),fun h0_ => absurd ((hoff 14 (by kernel_rfl)).symm.trans h0_) (by decide),fun h0_ => absurd ((hoff 15 (by kernel_rfl)).symm.trans h0_) (by decide),fun h0_ => absurd ((hoff 16 (by kernel_rfl)).symm.trans h0_) (by decide),fun h0_ => absurd ((hoff 17 (by kernel_rfl)).symm.trans h0_) (by decide)⟩
   refine steps_cons ?_ ?_
   ·rintro b a w' ⟨v104,v107,v110,v113,v116,v119,v122,v125,v128,m17_,ha,Q_BK101,Q_HB,Q_HO105,Q_HO108,Q_HO111,Q_HO114,Q_HO117,Q_HO120,Q_HO123,Q_HO126,Q_HO129,Q_X17_⟩ hb_ hon hoff
    refine ⟨_,rfl,fun K hK => ?_⟩
    have e11 : a.tmps[11]? = some (.int .i64 a0_0) := by rw [ha];exact putSel_on (e := (5,11,.int .i64 a0_0)) 3 rfl rfl (hon 5 (by kernel_rfl)) rfl
    replace ha := qq.mk ha
    have BK101 := qq.mk Q_BK101
    have HB := qq.mk Q_HB
    refine value_ (w1 := w') (v := .int .i64 (a0_0 / 4294967296)) (by rfl) rfl ?_ ?_
    ·go_simp
     (try simp only [i64_w])
     try rfl
    refine hK.out _ _ ⟨v104,v107,v110,v113,v116,v119,v122,v125,v128,m17_,(by rw [ha.out];exact putSel_upk 4 hb_ rfl rfl rfl),Q_BK101,Q_HB,Q_HO105,Q_HO108,fun h0_ _ => absurd ((hoff 7 (by kernel_rfl)).symm.trans h0_) (by decide),Q_HO114,fun h0_ _ => absurd ((hoff 11 (by kernel_rfl)).symm.trans h0_) (by decide),fun h0_ _ => absurd ((hoff 13 (by kernel_rfl)).symm.trans h0_) (by decide),fun h0_ => absurd ((hoff 14 (by kernel_rfl)).symm.trans h0_) (by decide),fun h0_ => absurd ((hoff 15 (by kernel_rfl)).symm.trans h0_) (by decide),fun h0_ => absurd ((hoff 16 (by kernel_rfl)).symm.trans h0_) (by decide),fun h0_ => absurd ((hoff 17 (by kernel_rfl)).symm.trans h0_) (by decide)⟩
   refine steps_cons ?_ ?_
   ·rintro b a w' ⟨v104,v107,v110,v113,v116,v119,v122,v125,v128,m17_,ha,Q_BK101,Q_HB,Q_HO105,Q_HO108,Q_HO111,Q_HO114,Q_HO117,Q_HO120,Q_HO123,Q_HO126,Q_HO129,Q_X17_⟩ hb_ hon hoff
    refine ⟨_,rfl,fun K hK => ?_⟩
    have e12 : a.tmps[12]? = some (.int .i64 (a0_0 / 4294967296)) := by rw [ha];exact putSel_on (e := (6,12,.int .i64 (a0_0 / 4294967296))) 4 rfl rfl (hon 6 (by kernel_rfl)) rfl
    replace ha := qq.mk ha
    have BK101 := qq.mk Q_BK101
    have HB := qq.mk Q_HB
    have HO108 := qq.mk (Q_HO108 (hon 3 (by kernel_rfl)) (hoff 14 (by kernel_rfl)))
    refine goes_ Try.func79 (by kernel_rfl) rfl #[.int .i64 (a0_0 / 4294967296)] (by rfl) rfl rfl (by first | (simp only [List.map_toArray,List.map_cons,List.map_nil,Act.eval,Array.getD_eq_getD_getElem?,Option.getD_some,e12];done) | (simp only [List.map_toArray,List.map_cons,List.map_nil,Act.eval,Array.getD_eq_getD_getElem?,Option.getD_some,e12];rfl)) ?_
    with_reducible refine (qzz.calls (a0_0 / 4294967296) t109 _ A5.out).mono ?_
    rintro e w17 ⟨v110,rfl,ho0,hb⟩
    refine ⟨_,rfl,?_⟩
    have n0_ := qq.mk (Kd.R_elder' (by (with_reducible repeat (first | apply Kd.jq | apply Kd.zx | apply Kd.jz));first | exact HO108.out | exact Kd.R_mono HO108.out (fun _ hk => by first | trivial | (simp_all;done) | grind)) (Kd.R_base ho0) hb)
    have n1_ := qq.mk (Kd.R_lower (Kd.R_new' ho0 (Kd.R_lt (by (with_reducible repeat (first | apply Kd.jq | apply Kd.zx | apply Kd.jz));first | exact HO108.out | exact Kd.R_mono HO108.out (fun _ hk => by first | trivial | (simp_all;done) | grind)))) (zw (by repeat (first | (with_reducible first | exact HB.out | apply qj | apply qz | apply qk | refine qx ?_ GE101.out) | exact HB.out))))
    have n2_ := qq.mk (wj (g := gb101) (o := .cells #[.int .i64 a0_0,.string a0_1,.string a0_2,.slice A0_3 l0_3.length c0_3,.slice A0_4 l0_4.length c0_4] 27 (0,0)) (by (with_reducible repeat (first | refine zz ?_ _ | refine zj ?_ | refine zq ?_ _));exact BK101.out) hb)
    have n3_ := qq.mk (zv (by repeat (first | (with_reducible first | exact HB.out | apply qj | apply qz | apply qk | refine qx ?_ GE101.out) | exact HB.out)) hb)
    have z_HO105 := fun (h0_ : b 0 = true) (h1_ : b 14 = false) => (show Kd.R (Kd.int .u8) 5 w17 w.heap.size (fun _ => True) v104 y103 from by first | exact (Kd.R_elder' (by (with_reducible repeat (first | apply Kd.jq | apply Kd.zx | apply Kd.jz));exact (Q_HO105 h0_ h1_)) (Kd.R_base ho0) hb) | exact Kd.R_mono (Kd.R_elder' (by (with_reducible repeat (first | apply Kd.jq | apply Kd.zx | apply Kd.jz));exact (Q_HO105 h0_ h1_)) (Kd.R_base ho0) hb) (fun _ h_ => by first | trivial | exact h_ | exact h_.1))
    have z_HO114 := fun (h0_ : b 10 = true) => (show Kd.V (Kd.int .u8) 5 w17 w.heap.size (fun k_ => k_ ≠ gb101) v113 t112 from by first | exact (Kd.V_elder' (by (with_reducible repeat (first | apply Kd.wq | apply Kd.vx | apply Kd.wz));exact (Q_HO114 h0_)) (Kd.R_base ho0) hb) | exact Kd.V_mono (Kd.V_elder' (by (with_reducible repeat (first | apply Kd.wq | apply Kd.vx | apply Kd.wz));exact (Q_HO114 h0_)) (Kd.R_base ho0) hb) (fun _ h_ => by first | trivial | exact h_ | exact h_.1))
    clear HO108
    clear BK101
    clear HB
    have HO108 := n0_
    have HO111 := n1_
    have BK101 := n2_
    have HB := n3_
    clear n0_ n1_ n2_ n3_
    (try clear hb)
    (try clear hb2)
    (try clear hk)
    (try clear hi)
    (try clear ho0)
    refine hK.out _ _ ⟨v104,v107,v110,v113,v116,v119,v122,v125,v128,m17_,(by rw [ha.out];exact putSel_upk 5 hb_ rfl rfl rfl),(by (with_reducible repeat (first | refine zz ?_ _ | refine zj ?_ | refine zq ?_ _));exact BK101.out),(by repeat (first | (with_reducible first | exact HB.out | apply qj | apply qz | apply qk | refine qx ?_ GE101.out) | exact HB.out)),z_HO105,fun _ _ => (by (with_reducible repeat (first | apply Kd.jq | apply Kd.zx | apply Kd.jz));exact Kd.R_mono HO108.out (fun _ hk => by first | exact hk.2 | trivial | (simp_all;done) | grind)),fun _ _ => (by (with_reducible repeat (first | apply Kd.jq | apply Kd.zx | apply Kd.jz));exact Kd.R_mono HO111.out (fun _ hk => by first | exact hk.2 | trivial | (simp_all;done) | grind)),z_HO114,fun h0_ _ => absurd ((hoff 11 (by kernel_rfl)).symm.trans h0_) (by decide),fun h0_ _ => absurd ((hoff 13 (by kernel_rfl)).symm.trans h0_) (by decide),fun h0_ => absurd ((hoff 14 (by kernel_rfl)).symm.trans h0_) (by decide),fun h0_ => absurd ((hoff 15 (by kernel_rfl)).symm.trans h0_) (by decide),fun h0_ => absurd ((hoff 16 (by kernel_rfl)).symm.trans h0_) (by decide),fun h0_ => absurd ((hoff 17 (by kernel_rfl)).symm.trans h0_) (by decide)⟩
   refine steps_cons ?_ ?_
   ·rintro b a w' ⟨v104,v107,v110,v113,v116,v119,v122,v125,v128,m17_,ha,Q_BK101,Q_HB,Q_HO105,Q_HO108,Q_HO111,Q_HO114,Q_HO117,Q_HO120,Q_HO123,Q_HO126,Q_HO129,Q_X17_⟩ hb_ hon hoff
    refine ⟨_,rfl,fun K hK => ?_⟩
    have e14 : a.tmps[14]? = some (.pointer (some ⟨gb101,1,none⟩)) := by rw [ha];exact (putSel_off rfl).trans rfl
    replace ha := qq.mk ha
    have BK101 := qq.mk Q_BK101
    have HB := qq.mk Q_HB
    have hc0_ : w'.cell? ⟨gb101,0,none⟩ = some (.int .i64 a0_0) := (qw BK101.out 0).trans rfl
    have hc1_ : w'.cell? ⟨gb101,1,none⟩ = some (.string a0_1) := (qw BK101.out 1).trans rfl
    have hc2_ : w'.cell? ⟨gb101,2,none⟩ = some (.string a0_2) := (qw BK101.out 2).trans rfl
    have hc3_ : w'.cell? ⟨gb101,3,none⟩ = some (.slice A0_3 l0_3.length c0_3) := (qw BK101.out 3).trans rfl
    have hc4_ : w'.cell? ⟨gb101,4,none⟩ = some (.slice A0_4 l0_4.length c0_4) := (qw BK101.out 4).trans rfl
    refine value_ (w1 := w') (v := .string a0_1) (by rfl) rfl ?_ ?_
    ·go_simp
     (try simp only [i64_w])
     try rfl
    refine hK.out _ _ ⟨v104,v107,v110,v113,v116,v119,v122,v125,v128,m17_,(by rw [ha.out];exact putSel_upk 6 hb_ rfl rfl rfl),Q_BK101,Q_HB,Q_HO105,Q_HO108,Q_HO111,fun h0_ => absurd ((hoff 10 (by kernel_rfl)).symm.trans h0_) (by decide),fun h0_ _ => absurd ((hoff 11 (by kernel_rfl)).symm.trans h0_) (by decide),fun h0_ _ => absurd ((hoff 13 (by kernel_rfl)).symm.trans h0_) (by decide),fun h0_ => absurd ((hoff 14 (by kernel_rfl)).symm.trans h0_) (by decide),fun h0_ => absurd ((hoff 15 (by kernel_rfl)).symm.trans h0_) (by decide),fun h0_ => absurd ((hoff 16 (by kernel_rfl)).symm.trans h0_) (by decide),fun h0_ => absurd ((hoff 17 (by kernel_rfl)).symm.trans h0_) (by decide)⟩
   refine steps_cons ?_ ?_
   ·rintro b a w' ⟨v104,v107,v110,v113,v116,v119,v122,v125,v128,m17_,ha,Q_BK101,Q_HB,Q_HO105,Q_HO108,Q_HO111,Q_HO114,Q_HO117,Q_HO120,Q_HO123,Q_HO126,Q_HO129,Q_X17_⟩ hb_ hon hoff
    refine ⟨_,rfl,fun K hK => ?_⟩
    have e15 : a.tmps[15]? = some (.string a0_1) := by rw [ha];exact putSel_on (e := (9,15,.string a0_1)) 6 rfl rfl (hon 9 (by kernel_rfl)) rfl
    replace ha := qq.mk ha
    have BK101 := qq.mk Q_BK101
    have HB := qq.mk Q_HB
    refine bytesGoes_ (s := a0_1) (by rfl) rfl rfl (by first | (simp only [List.map_toArray,List.map_cons,List.map_nil,Act.eval,Array.getD_eq_getD_getElem?,Option.getD_some,e15];done) | (simp only [List.map_toArray,List.map_cons,List.map_nil,Act.eval,Array.getD_eq_getD_getElem?,Option.getD_some,e15];rfl)) ?_
    with_reducible refine (bytesOfS.calls a0_1 t112 _ A6.out).mono ?_
    rintro e w15 ⟨v113,rfl,ho0,hb⟩
    refine ⟨_,rfl,?_⟩
    have n0_ := qq.mk (Kd.V_lower (Kd.V_mono (ok' := fun k_ => k_ ≠ gb101) ho0 (fun k_ hk_ => (Kd.freshB (g := gb101) (o := .cells #[.int .i64 a0_0,.string a0_1,.string a0_2,.slice A0_3 l0_3.length c0_3,.slice A0_4 l0_4.length c0_4] 27 (0,0)) (by (with_reducible repeat (first | refine zz ?_ _ | refine zj ?_ | refine zq ?_ _));exact BK101.out) k_ hk_))) (zw (by repeat (first | (with_reducible first | exact HB.out | apply qj | apply qz | apply qk | refine qx ?_ GE101.out) | exact HB.out))))
    have n1_ := qq.mk (wj (g := gb101) (o := .cells #[.int .i64 a0_0,.string a0_1,.string a0_2,.slice A0_3 l0_3.length c0_3,.slice A0_4 l0_4.length c0_4] 27 (0,0)) (by (with_reducible repeat (first | refine zz ?_ _ | refine zj ?_ | refine zq ?_ _));exact BK101.out) hb)
    have n2_ := qq.mk (zv (by repeat (first | (with_reducible first | exact HB.out | apply qj | apply qz | apply qk | refine qx ?_ GE101.out) | exact HB.out)) hb)
    have z_HO105 := fun (h0_ : b 0 = true) (h1_ : b 14 = false) => (show Kd.R (Kd.int .u8) 5 w15 w.heap.size (fun _ => True) v104 y103 from by first | exact (Kd.R_below (by (with_reducible repeat (first | apply Kd.jq | apply Kd.zx | apply Kd.jz));exact (Q_HO105 h0_ h1_)) hb) | exact Kd.R_mono (Kd.R_below (by (with_reducible repeat (first | apply Kd.jq | apply Kd.zx | apply Kd.jz));exact (Q_HO105 h0_ h1_)) hb) (fun _ h_ => by first | trivial | exact h_ | exact h_.1))
    have z_HO108 := fun (h0_ : b 3 = true) (h1_ : b 14 = false) => (show Kd.R (Kd.int .u8) 5 w15 w.heap.size (fun _ => True) v107 t106 from by first | exact (Kd.R_below (by (with_reducible repeat (first | apply Kd.jq | apply Kd.zx | apply Kd.jz));exact (Q_HO108 h0_ h1_)) hb) | exact Kd.R_mono (Kd.R_below (by (with_reducible repeat (first | apply Kd.jq | apply Kd.zx | apply Kd.jz));exact (Q_HO108 h0_ h1_)) hb) (fun _ h_ => by first | trivial | exact h_ | exact h_.1))
    have z_HO111 := fun (h0_ : b 7 = true) (h1_ : b 14 = false) => (show Kd.R (Kd.int .u8) 5 w15 w.heap.size (fun _ => True) v110 t109 from by first | exact (Kd.R_below (by (with_reducible repeat (first | apply Kd.jq | apply Kd.zx | apply Kd.jz));exact (Q_HO111 h0_ h1_)) hb) | exact Kd.R_mono (Kd.R_below (by (with_reducible repeat (first | apply Kd.jq | apply Kd.zx | apply Kd.jz));exact (Q_HO111 h0_ h1_)) hb) (fun _ h_ => by first | trivial | exact h_ | exact h_.1))
    clear BK101
    clear HB
    have HO114 := n0_
    have BK101 := n1_
    have HB := n2_
    clear n0_ n1_ n2_
    (try clear hb)
    (try clear hb2)
    (try clear hk)
    (try clear hi)
    (try clear ho0)
    refine hK.out _ _ ⟨v104,v107,v110,v113,v116,v119,v122,v125,v128,m17_,(by rw [ha.out];exact putSel_upk 7 hb_ rfl rfl rfl),(by (with_reducible repeat (first | refine zz ?_ _ | refine zj ?_ | refine zq ?_ _));exact BK101.out),(by repeat (first | (with_reducible first | exact HB.out | apply qj | apply qz | apply qk | refine qx ?_ GE101.out) | exact HB.out)),z_HO105,z_HO108,z_HO111,fun _ => (by (with_reducible repeat (first | apply Kd.wq | apply Kd.vx | apply Kd.wz));first | exact HO114.out | exact Kd.V_mono HO114.out (fun _ hk => by first | trivial | (simp_all;done) | grind)),fun h0_ _ => absurd ((hoff 11 (by kernel_rfl)).symm.trans h0_) (by decide),fun h0_ _ => absurd ((hoff 13 (by kernel_rfl)).symm.trans h0_) (by decide),fun h0_ => absurd ((hoff 14 (by kernel_rfl)).symm.trans h0_) (by decide),fun h0_ => absurd ((hoff 15 (by kernel_rfl)).symm.trans h0_) (by decide),fun h0_ => absurd ((hoff 16 (by kernel_rfl)).symm.trans h0_) (by decide),fun h0_ => absurd ((hoff 17 (by kernel_rfl)).symm.trans h0_) (by decide)⟩
   refine steps_cons ?_ ?_
   ·rintro b a w' ⟨v104,v107,v110,v113,v116,v119,v122,v125,v128,m17_,ha,Q_BK101,Q_HB,Q_HO105,Q_HO108,Q_HO111,Q_HO114,Q_HO117,Q_HO120,Q_HO123,Q_HO126,Q_HO129,Q_X17_⟩ hb_ hon hoff
    refine ⟨_,rfl,fun K hK => ?_⟩
    have e16 : a.tmps[16]? = some (v113) := by rw [ha];exact putSel_on (e := (10,16,v113)) 7 rfl rfl (hon 10 (by kernel_rfl)) rfl
    replace ha := qq.mk ha
    have BK101 := qq.mk Q_BK101
    have HB := qq.mk Q_HB
    have HO108 := qq.mk (Q_HO108 (hon 3 (by kernel_rfl)) (hoff 14 (by kernel_rfl)))
    have HO111 := qq.mk (Q_HO111 (hon 7 (by kernel_rfl)) (hoff 14 (by kernel_rfl)))
    have HO114 := qq.mk (Q_HO114 (hon 10 (by kernel_rfl)))
    obtain ⟨Ao19,co19,eo19⟩ := Kd.V_slice HO114.out
    (first | subst eo19 | (injection eo19 with f1_ f2_ f3_;have f4_ := f1_.symm;have f5_ := f3_.symm;clear f1_ f2_ f3_;subst f4_;subst f5_))
    refine goes_ Try.func77 (by kernel_rfl) rfl #[.slice Ao19 t112.length co19] (by rfl) rfl rfl (by first | (simp only [List.map_toArray,List.map_cons,List.map_nil,Act.eval,Array.getD_eq_getD_getElem?,Option.getD_some,e16];done) | (simp only [List.map_toArray,List.map_cons,List.map_nil,Act.eval,Array.getD_eq_getD_getElem?,Option.getD_some,e16];rfl)) ?_
    with_reducible refine (qqq.calls _ _ t112 t115 _ ?side1 ?side2 A7.out).mono ?_
    (case side1 => repeat (first | exact (Kd.V_reads' HO114.out).2.2 | (with_reducible refine Kd.C_alloc ?_ _) | (with_reducible refine Kd.C_drewN ?_ _) | (with_reducible refine Kd.C_drew ?_)))
    (case side2 => exact (Kd.V_reads' HO114.out).2.1)
    rintro e w20 ⟨v116,rfl,ho0,hb⟩
    refine ⟨_,rfl,?_⟩
    have n0_ := qq.mk (Kd.R_elder' (by (with_reducible repeat (first | apply Kd.jq | apply Kd.zx | apply Kd.jz));first | exact HO108.out | exact Kd.R_mono HO108.out (fun _ hk => by first | trivial | (simp_all;done) | grind)) (Kd.R_base ho0) hb)
    have n1_ := qq.mk (Kd.R_elder' (by (with_reducible repeat (first | apply Kd.jq | apply Kd.zx | apply Kd.jz));first | exact HO111.out | exact Kd.R_mono HO111.out (fun _ hk => by first | trivial | (simp_all;done) | grind)) (Kd.R_base ho0) hb)
    have n2_ := qq.mk (Kd.V_elder' (by (with_reducible repeat (first | apply Kd.wq | apply Kd.vx | apply Kd.wz));first | exact HO114.out | exact Kd.V_mono HO114.out (fun _ hk => by first | trivial | (simp_all;done) | grind)) (Kd.R_base ho0) hb)
    have n3_ := qq.mk (Kd.R_lower (Kd.R_new' (Kd.R_new' ho0 (Kd.R_lt (by (with_reducible repeat (first | apply Kd.jq | apply Kd.zx | apply Kd.jz));first | exact HO108.out | exact Kd.R_mono HO108.out (fun _ hk => by first | trivial | (simp_all;done) | grind)))) (Kd.R_lt (by (with_reducible repeat (first | apply Kd.jq | apply Kd.zx | apply Kd.jz));first | exact HO111.out | exact Kd.R_mono HO111.out (fun _ hk => by first | trivial | (simp_all;done) | grind)))) (zw (by repeat (first | (with_reducible first | exact HB.out | apply qj | apply qz | apply qk | refine qx ?_ GE101.out) | exact HB.out))))
    have n4_ := qq.mk (wj (g := gb101) (o := .cells #[.int .i64 a0_0,.string a0_1,.string a0_2,.slice A0_3 l0_3.length c0_3,.slice A0_4 l0_4.length c0_4] 27 (0,0)) (by (with_reducible repeat (first | refine zz ?_ _ | refine zj ?_ | refine zq ?_ _));exact BK101.out) hb)
    have n5_ := qq.mk (zv (by repeat (first | (with_reducible first | exact HB.out | apply qj | apply qz | apply qk | refine qx ?_ GE101.out) | exact HB.out)) hb)
    have z_HO105 := fun (h0_ : b 0 = true) (h1_ : b 14 = false) => (show Kd.R (Kd.int .u8) 5 w20 w.heap.size (fun _ => True) v104 y103 from by first | exact (Kd.R_elder' (by (with_reducible repeat (first | apply Kd.jq | apply Kd.zx | apply Kd.jz));exact (Q_HO105 h0_ h1_)) (Kd.R_base ho0) hb) | exact Kd.R_mono (Kd.R_elder' (by (with_reducible repeat (first | apply Kd.jq | apply Kd.zx | apply Kd.jz));exact (Q_HO105 h0_ h1_)) (Kd.R_base ho0) hb) (fun _ h_ => by first | trivial | exact h_ | exact h_.1))
    clear HO108
    clear HO111
    clear HO114
    clear BK101
    clear HB
    have HO108 := n0_
    have HO111 := n1_
    have HO114 := n2_
    have HO117 := n3_
    have BK101 := n4_
    have HB := n5_
    clear n0_ n1_ n2_ n3_ n4_ n5_
    (try clear hb)
    (try clear hb2)
    (try clear hk)
    (try clear hi)
    (try clear ho0)
    refine hK.out _ _ ⟨v104,v107,v110,.slice Ao19 t112.length co19,v116,v119,v122,v125,v128,m17_,(by rw [ha.out];exact putSel_upk 8 hb_ rfl rfl rfl),(by (with_reducible repeat (first | refine zz ?_ _ | refine zj ?_ | refine zq ?_ _));exact BK101.out),(by repeat (first | (with_reducible first | exact HB.out | apply qj | apply qz | apply qk | refine qx ?_ GE101.out) | exact HB.out)),z_HO105,fun _ _ => (by (with_reducible repeat (first | apply Kd.jq | apply Kd.zx | apply Kd.jz));first | exact HO108.out | exact Kd.R_mono HO108.out (fun _ hk => by first | trivial | (simp_all;done) | grind)),fun _ _ => (by (with_reducible repeat (first | apply Kd.jq | apply Kd.zx | apply Kd.jz));first | exact HO111.out | exact Kd.R_mono HO111.out (fun _ hk => by first | trivial | (simp_all;done) | grind)),fun _ => (by (with_reducible repeat (first | apply Kd.wq | apply Kd.vx | apply Kd.wz));exact Kd.V_mono HO114.out (fun _ hk => by first | exact ⟨hk.1.1,⟨hk.1.2.1,⟨hk.2,hk.1.2.2⟩⟩⟩ | trivial | (simp_all;done) | grind)),fun _ _ => (by (with_reducible repeat (first | apply Kd.jq | apply Kd.zx | apply Kd.jz));exact Kd.R_mono HO117.out (fun _ hk => by first | exact ⟨hk.1.2,hk.2⟩ | trivial | (simp_all;done) | grind)),fun h0_ _ => absurd ((hoff 13 (by kernel_rfl)).symm.trans h0_) (by decide),fun h0_ => absurd ((hoff 14 (by kernel_rfl)).symm.trans h0_) (by decide),fun h0_ => absurd ((hoff 15 (by kernel_rfl)).symm.trans h0_) (by decide),fun h0_ => absurd ((hoff 16 (by kernel_rfl)).symm.trans h0_) (by decide),fun h0_ => absurd ((hoff 17 (by kernel_rfl)).symm.trans h0_) (by decide)⟩
   refine steps_cons ?_ ?_
   ·rintro b a w' ⟨v104,v107,v110,v113,v116,v119,v122,v125,v128,m17_,ha,Q_BK101,Q_HB,Q_HO105,Q_HO108,Q_HO111,Q_HO114,Q_HO117,Q_HO120,Q_HO123,Q_HO126,Q_HO129,Q_X17_⟩ hb_ hon hoff
    refine ⟨_,rfl,fun K hK => ?_⟩
    have e1 : a.tmps[1]? = some (.pointer (some ⟨gb101,0,none⟩)) := by rw [ha];exact (putSel_off rfl).trans rfl
    replace ha := qq.mk ha
    have BK101 := qq.mk Q_BK101
    have HB := qq.mk Q_HB
    have hc0_ : w'.cell? ⟨gb101,0,none⟩ = some (.int .i64 a0_0) := (qw BK101.out 0).trans rfl
    have hc1_ : w'.cell? ⟨gb101,1,none⟩ = some (.string a0_1) := (qw BK101.out 1).trans rfl
    have hc2_ : w'.cell? ⟨gb101,2,none⟩ = some (.string a0_2) := (qw BK101.out 2).trans rfl
    have hc3_ : w'.cell? ⟨gb101,3,none⟩ = some (.slice A0_3 l0_3.length c0_3) := (qw BK101.out 3).trans rfl
    have hc4_ : w'.cell? ⟨gb101,4,none⟩ = some (.slice A0_4 l0_4.length c0_4) := (qw BK101.out 4).trans rfl
    refine value_ (w1 := w') (v := .agg #[.int .i64 a0_0,.string a0_1,.string a0_2,.slice A0_3 l0_3.length c0_3,.slice A0_4 l0_4.length c0_4]) (by rfl) rfl ?_ ?_
    ·go_simp
     (try simp only [i64_w])
     try rfl
    refine hK.out _ _ ⟨v104,v107,v110,v113,v116,v119,v122,v125,v128,m17_,(by rw [ha.out];exact putSel_upk 9 hb_ rfl rfl rfl),Q_BK101,Q_HB,Q_HO105,Q_HO108,Q_HO111,Q_HO114,Q_HO117,fun h0_ _ => absurd ((hoff 13 (by kernel_rfl)).symm.trans h0_) (by decide),fun h0_ => absurd ((hoff 14 (by kernel_rfl)).symm.trans h0_) (by decide),fun h0_ => absurd ((hoff 15 (by kernel_rfl)).symm.trans h0_) (by decide),fun h0_ => absurd ((hoff 16 (by kernel_rfl)).symm.trans h0_) (by decide),fun h0_ => absurd ((hoff 17 (by kernel_rfl)).symm.trans h0_) (by decide)⟩
   refine steps_cons ?_ ?_
   ·rintro b a w' ⟨v104,v107,v110,v113,v116,v119,v122,v125,v128,m17_,ha,Q_BK101,Q_HB,Q_HO105,Q_HO108,Q_HO111,Q_HO114,Q_HO117,Q_HO120,Q_HO123,Q_HO126,Q_HO129,Q_X17_⟩ hb_ hon hoff
    refine ⟨_,rfl,fun K hK => ?_⟩
    have e18 : a.tmps[18]? = some (.agg #[.int .i64 a0_0,.string a0_1,.string a0_2,.slice A0_3 l0_3.length c0_3,.slice A0_4 l0_4.length c0_4]) := by rw [ha];exact putSel_on (e := (12,18,.agg #[.int .i64 a0_0,.string a0_1,.string a0_2,.slice A0_3 l0_3.length c0_3,.slice A0_4 l0_4.length c0_4])) 9 rfl rfl (hon 12 (by kernel_rfl)) rfl
    replace ha := qq.mk ha
    have BK101 := qq.mk Q_BK101
    have HB := qq.mk Q_HB
    have HO108 := qq.mk (Q_HO108 (hon 3 (by kernel_rfl)) (hoff 14 (by kernel_rfl)))
    have HO111 := qq.mk (Q_HO111 (hon 7 (by kernel_rfl)) (hoff 14 (by kernel_rfl)))
    have HO114 := qq.mk (Q_HO114 (hon 10 (by kernel_rfl)))
    have HO117 := qq.mk (Q_HO117 (hon 11 (by kernel_rfl)) (hoff 14 (by kernel_rfl)))
    refine goes_ Try.func23 (by kernel_rfl) rfl #[.agg #[.int .i64 a0_0,.string a0_1,.string a0_2,.slice A0_3 l0_3.length c0_3,.slice A0_4 l0_4.length c0_4]] (by rfl) rfl rfl (by first | (simp only [List.map_toArray,List.map_cons,List.map_nil,Act.eval,Array.getD_eq_getD_getElem?,Option.getD_some,e18];done) | (simp only [List.map_toArray,List.map_cons,List.map_nil,Act.eval,Array.getD_eq_getD_getElem?,Option.getD_some,e18];rfl)) ?_
    with_reducible refine (xx.calls k a0_0 a0_1 a0_2 _ _ l0_3 _ _ l0_4 t118 _ ?side1 ?side2 ?side3 ?side4 A8.out).mono ?_
    (case side1 => repeat (first | exact (Kd.C_below HR0_3.out HB.out) | (with_reducible refine Kd.C_alloc ?_ _) | (with_reducible refine Kd.C_drewN ?_ _) | (with_reducible refine Kd.C_drew ?_)))
    (case side2 => exact HC0_3.out)
    (case side3 => repeat (first | exact (Kd.C_below HR0_4.out HB.out) | (with_reducible refine Kd.C_alloc ?_ _) | (with_reducible refine Kd.C_drewN ?_ _) | (with_reducible refine Kd.C_drew ?_)))
    (case side4 => exact HC0_4.out)
    rintro e w21 ⟨v119,rfl,ho0,hb⟩
    refine ⟨_,rfl,?_⟩
    have n0_ := qq.mk (Kd.R_elder' (by (with_reducible repeat (first | apply Kd.jq | apply Kd.zx | apply Kd.jz));first | exact HO108.out | exact Kd.R_mono HO108.out (fun _ hk => by first | trivial | (simp_all;done) | grind)) (Kd.R_base ho0) hb)
    have n1_ := qq.mk (Kd.R_elder' (by (with_reducible repeat (first | apply Kd.jq | apply Kd.zx | apply Kd.jz));first | exact HO111.out | exact Kd.R_mono HO111.out (fun _ hk => by first | trivial | (simp_all;done) | grind)) (Kd.R_base ho0) hb)
    have n2_ := qq.mk (Kd.V_elder' (by (with_reducible repeat (first | apply Kd.wq | apply Kd.vx | apply Kd.wz));first | exact HO114.out | exact Kd.V_mono HO114.out (fun _ hk => by first | trivial | (simp_all;done) | grind)) (Kd.R_base ho0) hb)
    have n3_ := qq.mk (Kd.R_elder' (by (with_reducible repeat (first | apply Kd.jq | apply Kd.zx | apply Kd.jz));first | exact HO117.out | exact Kd.R_mono HO117.out (fun _ hk => by first | trivial | (simp_all;done) | grind)) (Kd.R_base ho0) hb)
    have n4_ := qq.mk (Kd.R_lower (Kd.R_new' (Kd.R_new' (Kd.R_new' ho0 (Kd.R_lt (by (with_reducible repeat (first | apply Kd.jq | apply Kd.zx | apply Kd.jz));first | exact HO108.out | exact Kd.R_mono HO108.out (fun _ hk => by first | trivial | (simp_all;done) | grind)))) (Kd.R_lt (by (with_reducible repeat (first | apply Kd.jq | apply Kd.zx | apply Kd.jz));first | exact HO111.out | exact Kd.R_mono HO111.out (fun _ hk => by first | trivial | (simp_all;done) | grind)))) (Kd.R_lt (by (with_reducible repeat (first | apply Kd.jq | apply Kd.zx | apply Kd.jz));first | exact HO117.out | exact Kd.R_mono HO117.out (fun _ hk => by first | trivial | (simp_all;done) | grind)))) (zw (by repeat (first | (with_reducible first | exact HB.out | apply qj | apply qz | apply qk | refine qx ?_ GE101.out) | exact HB.out))))
    have n5_ := qq.mk (wj (g := gb101) (o := .cells #[.int .i64 a0_0,.string a0_1,.string a0_2,.slice A0_3 l0_3.length c0_3,.slice A0_4 l0_4.length c0_4] 27 (0,0)) (by (with_reducible repeat (first | refine zz ?_ _ | refine zj ?_ | refine zq ?_ _));exact BK101.out) hb)
    have n6_ := qq.mk (zv (by repeat (first | (with_reducible first | exact HB.out | apply qj | apply qz | apply qk | refine qx ?_ GE101.out) | exact HB.out)) hb)
    have z_HO105 := fun (h0_ : b 0 = true) (h1_ : b 14 = false) => (show Kd.R (Kd.int .u8) 5 w21 w.heap.size (fun _ => True) v104 y103 from by first | exact (Kd.R_elder' (by (with_reducible repeat (first | apply Kd.jq | apply Kd.zx | apply Kd.jz));exact (Q_HO105 h0_ h1_)) (Kd.R_base ho0) hb) | exact Kd.R_mono (Kd.R_elder' (by (with_reducible repeat (first | apply Kd.jq | apply Kd.zx | apply Kd.jz));exact (Q_HO105 h0_ h1_)) (Kd.R_base ho0) hb) (fun _ h_ => by first | trivial | exact h_ | exact h_.1))
    clear HO108
    clear HO111
    clear HO114
    clear HO117
    clear BK101
    clear HB
    have HO108 := n0_
    have HO111 := n1_
    have HO114 := n2_
    have HO117 := n3_
    have HO120 := n4_
    have BK101 := n5_
    have HB := n6_
    clear n0_ n1_ n2_ n3_ n4_ n5_ n6_
    (try clear hb)
    (try clear hb2)
    (try clear hk)
    (try clear hi)
    (try clear ho0)
    refine hK.out _ _ ⟨v104,v107,v110,v113,v116,v119,v122,v125,v128,m17_,(by rw [ha.out];exact putSel_upk 10 hb_ rfl rfl rfl),(by (with_reducible repeat (first | refine zz ?_ _ | refine zj ?_ | refine zq ?_ _));exact BK101.out),(by repeat (first | (with_reducible first | exact HB.out | apply qj | apply qz | apply qk | refine qx ?_ GE101.out) | exact HB.out)),z_HO105,fun _ _ => (by (with_reducible repeat (first | apply Kd.jq | apply Kd.zx | apply Kd.jz));exact Kd.R_mono HO108.out (fun _ hk => by first | exact ⟨hk.1.1,⟨hk.1.2,hk.2⟩⟩ | trivial | (simp_all;done) | grind)),fun _ _ => (by (with_reducible repeat (first | apply Kd.jq | apply Kd.zx | apply Kd.jz));exact Kd.R_mono HO111.out (fun _ hk => by first | exact ⟨hk.1.1,⟨hk.1.2,hk.2⟩⟩ | trivial | (simp_all;done) | grind)),fun _ => (by (with_reducible repeat (first | apply Kd.wq | apply Kd.vx | apply Kd.wz));exact Kd.V_mono HO114.out (fun _ hk => by first | exact ⟨hk.1.1,⟨hk.1.2.1,⟨hk.1.2.2.1,⟨hk.2,hk.1.2.2.2⟩⟩⟩⟩ | trivial | (simp_all;done) | grind)),fun _ _ => (by (with_reducible repeat (first | apply Kd.jq | apply Kd.zx | apply Kd.jz));exact Kd.R_mono HO117.out (fun _ hk => by first | exact ⟨hk.1.1,⟨hk.1.2,hk.2⟩⟩ | trivial | (simp_all;done) | grind)),fun _ _ => (by (with_reducible repeat (first | apply Kd.jq | apply Kd.zx | apply Kd.jz));exact Kd.R_mono HO120.out (fun _ hk => by first | exact ⟨hk.1.1.2,⟨hk.1.2,hk.2⟩⟩ | trivial | (simp_all;done) | grind)),fun h0_ => absurd ((hoff 14 (by kernel_rfl)).symm.trans h0_) (by decide),fun h0_ => absurd ((hoff 15 (by kernel_rfl)).symm.trans h0_) (by decide),fun h0_ => absurd ((hoff 16 (by kernel_rfl)).symm.trans h0_) (by decide),fun h0_ => absurd ((hoff 17 (by kernel_rfl)).symm.trans h0_) (by decide)⟩
   refine steps_cons ?_ ?_
   ·rintro b a w' ⟨v104,v107,v110,v113,v116,v119,v122,v125,v128,m17_,ha,Q_BK101,Q_HB,Q_HO105,Q_HO108,Q_HO111,Q_HO114,Q_HO117,Q_HO120,Q_HO123,Q_HO126,Q_HO129,Q_X17_⟩ hb_ hon hoff
    refine ⟨_,rfl,fun K hK => ?_⟩
    have e6 : a.tmps[6]? = some (v104) := by rw [ha];exact putSel_on (e := (0,6,v104)) 0 rfl rfl (hon 0 (by kernel_rfl)) rfl
    have e9 : a.tmps[9]? = some (v107) := by rw [ha];exact putSel_on (e := (3,9,v107)) 2 rfl rfl (hon 3 (by kernel_rfl)) rfl
    have e13 : a.tmps[13]? = some (v110) := by rw [ha];exact putSel_on (e := (7,13,v110)) 5 rfl rfl (hon 7 (by kernel_rfl)) rfl
    have e17 : a.tmps[17]? = some (v116) := by rw [ha];exact putSel_on (e := (11,17,v116)) 8 rfl rfl (hon 11 (by kernel_rfl)) rfl
    have e19 : a.tmps[19]? = some (v119) := by rw [ha];exact putSel_on (e := (13,19,v119)) 10 rfl rfl (hon 13 (by kernel_rfl)) rfl
    replace ha := qq.mk ha
    have BK101 := qq.mk Q_BK101
    have HB := qq.mk Q_HB
    have HO105 := qq.mk (Q_HO105 (hon 0 (by kernel_rfl)) hb_)
    have HO108 := qq.mk (Q_HO108 (hon 3 (by kernel_rfl)) hb_)
    have HO111 := qq.mk (Q_HO111 (hon 7 (by kernel_rfl)) hb_)
    have HO114 := qq.mk (Q_HO114 (hon 10 (by kernel_rfl)))
    have HO117 := qq.mk (Q_HO117 (hon 11 (by kernel_rfl)) hb_)
    have HO120 := qq.mk (Q_HO120 (hon 13 (by kernel_rfl)) hb_)
    obtain ⟨Ao24,co24,eo24⟩ := Kd.R_slice HO105.out
    (first | subst eo24 | (injection eo24 with f1_ f2_ f3_;have f4_ := f1_.symm;have f5_ := f3_.symm;clear f1_ f2_ f3_;subst f4_;subst f5_))
    obtain ⟨Ao25,co25,eo25⟩ := Kd.R_slice HO108.out
    (first | subst eo25 | (injection eo25 with f1_ f2_ f3_;have f4_ := f1_.symm;have f5_ := f3_.symm;clear f1_ f2_ f3_;subst f4_;subst f5_))
    obtain ⟨Ao26,co26,eo26⟩ := Kd.R_slice HO111.out
    (first | subst eo26 | (injection eo26 with f1_ f2_ f3_;have f4_ := f1_.symm;have f5_ := f3_.symm;clear f1_ f2_ f3_;subst f4_;subst f5_))
    obtain ⟨Ao27,co27,eo27⟩ := Kd.R_slice HO117.out
    (first | subst eo27 | (injection eo27 with f1_ f2_ f3_;have f4_ := f1_.symm;have f5_ := f3_.symm;clear f1_ f2_ f3_;subst f4_;subst f5_))
    obtain ⟨Ao28,co28,eo28⟩ := Kd.R_slice HO120.out
    (first | subst eo28 | (injection eo28 with f1_ f2_ f3_;have f4_ := f1_.symm;have f5_ := f3_.symm;clear f1_ f2_ f3_;subst f4_;subst f5_))
    refine Kd.N_lit_step (Kd.slice 5 (Kd.int .u8)) _ 22 ?hg (N' := 20) ?hd (xs := ([y103,t106,t109,t115,t118] : List (List Int))) (inner := [.slice Ao24 y103.length co24,.slice Ao25 t106.length co25,.slice Ao26 t109.length co26,.slice Ao27 t115.length co27,.slice Ao28 t118.length co28]) (ok := (fun k_ => k_ ≠ gb101)) (okp := (fun k_ => k_ ≠ gb101)) ?hr ?hp (fun _ hk => by first | exact hk | trivial | (simp_all;done) | grind) ((show ∀ k_,w'.heap.size ≤ k_ → (fun k_ => k_ ≠ gb101) k_ from fun k_ hk => Kd.freshB (g := gb101) (o := .cells #[.int .i64 a0_0,.string a0_1,.string a0_2,.slice A0_3 l0_3.length c0_3,.slice A0_4 l0_4.length c0_4] 27 (0,0)) (by (with_reducible repeat (first | refine zz ?_ _ | refine zj ?_ | refine zq ?_ _));exact BK101.out) k_ hk) _ (Nat.le_refl _)) (Below.refl _ _) (Nat.le_refl _) (by simp) ?_;(case hd => rfl);(case hg => rfl);(case hr => first | (go_simp;done) | (go_simp;rfl));(case hp => exact (Reps.one (show Kd.FK (Kd.slice 5 (Kd.int .u8)) _ _ y103 [.slice Ao24 y103.length co24] from (Kd.FK_slice_mk (Kd.R_reads' (Kd.R_mono (ok' := (fun k_ => k_ ≠ gb101)) (Kd.R_types (HO105.out) BK101.out (by decide)) (fun k_ hk => hk.2))).2.1 (Kd.R_F (Kd.R_mono (ok' := (fun k_ => k_ ≠ gb101)) (Kd.R_types (HO105.out) BK101.out (by decide)) (fun k_ hk => hk.2))))) (Reps.one (show Kd.FK (Kd.slice 5 (Kd.int .u8)) _ _ t106 [.slice Ao25 t106.length co25] from (Kd.FK_slice_mk (Kd.R_reads' (Kd.R_mono (ok' := (fun k_ => k_ ≠ gb101)) (Kd.R_types (HO108.out) BK101.out (by decide)) (fun k_ hk => hk.2))).2.1 (Kd.R_F (Kd.R_mono (ok' := (fun k_ => k_ ≠ gb101)) (Kd.R_types (HO108.out) BK101.out (by decide)) (fun k_ hk => hk.2))))) (Reps.one (show Kd.FK (Kd.slice 5 (Kd.int .u8)) _ _ t109 [.slice Ao26 t109.length co26] from (Kd.FK_slice_mk (Kd.R_reads' (Kd.R_mono (ok' := (fun k_ => k_ ≠ gb101)) (Kd.R_types (HO111.out) BK101.out (by decide)) (fun k_ hk => hk.2))).2.1 (Kd.R_F (Kd.R_mono (ok' := (fun k_ => k_ ≠ gb101)) (Kd.R_types (HO111.out) BK101.out (by decide)) (fun k_ hk => hk.2))))) (Reps.one (show Kd.FK (Kd.slice 5 (Kd.int .u8)) _ _ t115 [.slice Ao27 t115.length co27] from (Kd.FK_slice_mk (Kd.R_reads' (Kd.R_mono (ok' := (fun k_ => k_ ≠ gb101)) (Kd.R_types (HO117.out) BK101.out (by decide)) (fun k_ hk => hk.2))).2.1 (Kd.R_F (Kd.R_mono (ok' := (fun k_ => k_ ≠ gb101)) (Kd.R_types (HO117.out) BK101.out (by decide)) (fun k_ hk => hk.2))))) (Reps.one (show Kd.FK (Kd.slice 5 (Kd.int .u8)) _ _ t118 [.slice Ao28 t118.length co28] from (Kd.FK_slice_mk (Kd.R_reads' (Kd.R_mono (ok' := (fun k_ => k_ ≠ gb101)) (Kd.R_types (HO120.out) BK101.out (by decide)) (fun k_ hk => hk.2))).2.1 (Kd.R_F (Kd.R_mono (ok' := (fun k_ => k_ ≠ gb101)) (Kd.R_types (HO120.out) BK101.out (by decide)) (fun k_ hk => hk.2))))) (Reps.none _ _)))))))
    intro v122 w29 ho30 hb hg_ hnew_
    clear hg_ hnew_
    (first | rw [← Ny121.out] at ho30 | (simp only [Int.reduceToNat] at ho30;rw [← Ny121.out] at ho30))
    have n0_ := qq.mk (Kd.V_elder' (by (with_reducible repeat (first | apply Kd.wq | apply Kd.vx | apply Kd.wz));first | exact HO114.out | exact Kd.V_mono HO114.out (fun _ hk => by first | trivial | (simp_all;done) | grind)) (Kd.N_base ho30) hb)
    have n1_ := qq.mk (Kd.N_lower ho30 (zw (by repeat (first | (with_reducible first | exact HB.out | apply qj | apply qz | apply qk | refine qx ?_ GE101.out) | exact HB.out))))
    have n2_ := qq.mk (wj (g := gb101) (o := .cells #[.int .i64 a0_0,.string a0_1,.string a0_2,.slice A0_3 l0_3.length c0_3,.slice A0_4 l0_4.length c0_4] 27 (0,0)) (by (with_reducible repeat (first | refine zz ?_ _ | refine zj ?_ | refine zq ?_ _));exact BK101.out) hb)
    have n3_ := qq.mk (zv (by repeat (first | (with_reducible first | exact HB.out | apply qj | apply qz | apply qk | refine qx ?_ GE101.out) | exact HB.out)) hb)
    clear HO114
    clear BK101
    clear HB
    clear HO105
    clear HO108
    clear HO111
    clear HO117
    clear HO120
    have HO114 := n0_
    have HO123 := n1_
    have BK101 := n2_
    have HB := n3_
    clear n0_ n1_ n2_ n3_
    clear hb ho30
    refine hK.out _ _ ⟨.slice Ao24 y103.length co24,.slice Ao25 t106.length co25,.slice Ao26 t109.length co26,v113,.slice Ao27 t115.length co27,.slice Ao28 t118.length co28,v122,v125,v128,m17_,(by rw [ha.out];exact putSel_upk 11 hb_ rfl rfl rfl),(by (with_reducible repeat (first | refine zz ?_ _ | refine zj ?_ | refine zq ?_ _));exact BK101.out),(by repeat (first | (with_reducible first | exact HB.out | apply qj | apply qz | apply qk | refine qx ?_ GE101.out) | exact HB.out)),fun _ h1_ => absurd ((up_self b 14).symm.trans h1_) (by decide),fun _ h1_ => absurd ((up_self b 14).symm.trans h1_) (by decide),fun _ h1_ => absurd ((up_self b 14).symm.trans h1_) (by decide),fun _ => (by (with_reducible repeat (first | apply Kd.wq | apply Kd.vx | apply Kd.wz));exact Kd.V_mono HO114.out (fun _ hk => by first | exact ⟨hk.2,hk.1.2.2.2.2.2⟩ | trivial | (simp_all;done) | grind)),fun _ h1_ => absurd ((up_self b 14).symm.trans h1_) (by decide),fun _ h1_ => absurd ((up_self b 14).symm.trans h1_) (by decide),fun _ => (by (with_reducible repeat (first | apply Kd.vq | apply Kd.kx | apply Kd.vz));first | exact HO123.out | exact Kd.N_mono HO123.out (fun _ hk => by first | trivial | (simp_all;done) | grind)),fun h0_ => absurd ((hoff 15 (by kernel_rfl)).symm.trans h0_) (by decide),fun h0_ => absurd ((hoff 16 (by kernel_rfl)).symm.trans h0_) (by decide),fun h0_ => absurd ((hoff 17 (by kernel_rfl)).symm.trans h0_) (by decide)⟩
   refine steps_cons ?_ ?_
   ·rintro b a w' ⟨v104,v107,v110,v113,v116,v119,v122,v125,v128,m17_,ha,Q_BK101,Q_HB,Q_HO105,Q_HO108,Q_HO111,Q_HO114,Q_HO117,Q_HO120,Q_HO123,Q_HO126,Q_HO129,Q_X17_⟩ hb_ hon hoff
    refine ⟨_,rfl,fun K hK => ?_⟩
    have e20 : a.tmps[20]? = some (v122) := by rw [ha];exact putSel_on (e := (14,20,v122)) 11 rfl rfl (hon 14 (by kernel_rfl)) rfl
    replace ha := qq.mk ha
    have BK101 := qq.mk Q_BK101
    have HB := qq.mk Q_HB
    have HO114 := qq.mk (Q_HO114 (hon 10 (by kernel_rfl)))
    have HO123 := qq.mk (Q_HO123 (hon 14 (by kernel_rfl)))
    obtain ⟨Ao31,co31,eo31⟩ := Kd.N_slice HO123.out
    (first | subst eo31 | (injection eo31 with f1_ f2_ f3_;have f4_ := f1_.symm;have f5_ := f3_.symm;clear f1_ f2_ f3_;subst f4_;subst f5_))
    refine goes_ Try.func78 (by kernel_rfl) rfl #[.slice Ao31 y121.length co31] (by rfl) rfl rfl (by first | (simp only [List.map_toArray,List.map_cons,List.map_nil,Act.eval,Array.getD_eq_getD_getElem?,Option.getD_some,e20];done) | (simp only [List.map_toArray,List.map_cons,List.map_nil,Act.eval,Array.getD_eq_getD_getElem?,Option.getD_some,e20];rfl)) ?_
    with_reducible refine (qjk.calls _ _ y121 t124 _ ?side1 ?side2 A9.out).mono ?_
    (case side1 => repeat (first | exact (Kd.N_reads' HO123.out).2.2 | (with_reducible refine Kd.C_alloc ?_ _) | (with_reducible refine Kd.C_drewN ?_ _) | (with_reducible refine Kd.C_drew ?_)))
    (case side2 => exact (Kd.N_reads' HO123.out).2.1)
    rintro e w32 ⟨v125,rfl,ho0,hb⟩
    refine ⟨_,rfl,?_⟩
    have n0_ := qq.mk (Kd.V_elder' (by (with_reducible repeat (first | apply Kd.wq | apply Kd.vx | apply Kd.wz));first | exact HO114.out | exact Kd.V_mono HO114.out (fun _ hk => by first | trivial | (simp_all;done) | grind)) (Kd.R_base ho0) hb)
    have n1_ := qq.mk (Kd.N_elder' (by (with_reducible repeat (first | apply Kd.vq | apply Kd.kx | apply Kd.vz));first | exact HO123.out | exact Kd.N_mono HO123.out (fun _ hk => by first | trivial | (simp_all;done) | grind)) (Kd.R_base ho0) hb)
    have n2_ := qq.mk (Kd.R_lower ho0 (zw (by repeat (first | (with_reducible first | exact HB.out | apply qj | apply qz | apply qk | refine qx ?_ GE101.out) | exact HB.out))))
    have n3_ := qq.mk (wj (g := gb101) (o := .cells #[.int .i64 a0_0,.string a0_1,.string a0_2,.slice A0_3 l0_3.length c0_3,.slice A0_4 l0_4.length c0_4] 27 (0,0)) (by (with_reducible repeat (first | refine zz ?_ _ | refine zj ?_ | refine zq ?_ _));exact BK101.out) hb)
    have n4_ := qq.mk (zv (by repeat (first | (with_reducible first | exact HB.out | apply qj | apply qz | apply qk | refine qx ?_ GE101.out) | exact HB.out)) hb)
    clear HO114
    clear HO123
    clear BK101
    clear HB
    have HO114 := n0_
    have HO123 := n1_
    have HO126 := n2_
    have BK101 := n3_
    have HB := n4_
    clear n0_ n1_ n2_ n3_ n4_
    (try clear hb)
    (try clear hb2)
    (try clear hk)
    (try clear hi)
    (try clear ho0)
    refine hK.out _ _ ⟨v104,v107,v110,v113,v116,v119,.slice Ao31 y121.length co31,v125,v128,m17_,(by rw [ha.out];exact putSel_upk 12 hb_ rfl rfl rfl),(by (with_reducible repeat (first | refine zz ?_ _ | refine zj ?_ | refine zq ?_ _));exact BK101.out),(by repeat (first | (with_reducible first | exact HB.out | apply qj | apply qz | apply qk | refine qx ?_ GE101.out) | exact HB.out)),fun _ h1_ => absurd ((hon 14 (by kernel_rfl)).symm.trans h1_) (by decide),fun _ h1_ => absurd ((hon 14 (by kernel_rfl)).symm.trans h1_) (by decide),fun _ h1_ => absurd ((hon 14 (by kernel_rfl)).symm.trans h1_) (by decide),fun _ => (by (with_reducible repeat (first | apply Kd.wq | apply Kd.vx | apply Kd.wz));exact Kd.V_mono HO114.out (fun _ hk => by first | exact ⟨hk.1.1,⟨hk.2,hk.1.2⟩⟩ | trivial | (simp_all;done) | grind)),fun _ h1_ => absurd ((hon 14 (by kernel_rfl)).symm.trans h1_) (by decide),fun _ h1_ => absurd ((hon 14 (by kernel_rfl)).symm.trans h1_) (by decide),fun _ => (by (with_reducible repeat (first | apply Kd.vq | apply Kd.kx | apply Kd.vz));exact Kd.N_mono HO123.out (fun _ hk => by first | exact ⟨hk.2,hk.1⟩ | trivial | (simp_all;done) | grind)),fun _ => (by (with_reducible repeat (first | apply Kd.jq | apply Kd.zx | apply Kd.jz));first | exact HO126.out | exact Kd.R_mono HO126.out (fun _ hk => by first | trivial | (simp_all;done) | grind)),fun h0_ => absurd ((hoff 16 (by kernel_rfl)).symm.trans h0_) (by decide),fun h0_ => absurd ((hoff 17 (by kernel_rfl)).symm.trans h0_) (by decide)⟩
   refine steps_cons ?_ ?_
   ·rintro b a w' ⟨v104,v107,v110,v113,v116,v119,v122,v125,v128,m17_,ha,Q_BK101,Q_HB,Q_HO105,Q_HO108,Q_HO111,Q_HO114,Q_HO117,Q_HO120,Q_HO123,Q_HO126,Q_HO129,Q_X17_⟩ hb_ hon hoff
    refine ⟨_,rfl,fun K hK => ?_⟩
    have e21 : a.tmps[21]? = some (v125) := by rw [ha];exact putSel_on (e := (15,21,v125)) 12 rfl rfl (hon 15 (by kernel_rfl)) rfl
    replace ha := qq.mk ha
    have BK101 := qq.mk Q_BK101
    have HB := qq.mk Q_HB
    have HO114 := qq.mk (Q_HO114 (hon 10 (by kernel_rfl)))
    have HO123 := qq.mk (Q_HO123 (hon 14 (by kernel_rfl)))
    have HO126 := qq.mk (Q_HO126 (hon 15 (by kernel_rfl)))
    obtain ⟨Ao33,co33,eo33⟩ := Kd.R_slice HO126.out
    (first | subst eo33 | (injection eo33 with f1_ f2_ f3_;have f4_ := f1_.symm;have f5_ := f3_.symm;clear f1_ f2_ f3_;subst f4_;subst f5_))
    refine goes_ Try.func77 (by kernel_rfl) rfl #[.slice Ao33 t124.length co33] (by rfl) rfl rfl (by first | (simp only [List.map_toArray,List.map_cons,List.map_nil,Act.eval,Array.getD_eq_getD_getElem?,Option.getD_some,e21];done) | (simp only [List.map_toArray,List.map_cons,List.map_nil,Act.eval,Array.getD_eq_getD_getElem?,Option.getD_some,e21];rfl)) ?_
    with_reducible refine (qqq.calls _ _ t124 t127 _ ?side1 ?side2 A10.out).mono ?_
    (case side1 => repeat (first | exact (Kd.R_reads' HO126.out).2.2 | (with_reducible refine Kd.C_alloc ?_ _) | (with_reducible refine Kd.C_drewN ?_ _) | (with_reducible refine Kd.C_drew ?_)))
    (case side2 => exact (Kd.R_reads' HO126.out).2.1)
    rintro e w34 ⟨v128,rfl,ho0,hb⟩
    refine ⟨_,rfl,?_⟩
    have n0_ := qq.mk (Kd.V_elder' (by (with_reducible repeat (first | apply Kd.wq | apply Kd.vx | apply Kd.wz));first | exact HO114.out | exact Kd.V_mono HO114.out (fun _ hk => by first | trivial | (simp_all;done) | grind)) (Kd.R_base ho0) hb)
    have n1_ := qq.mk (Kd.N_elder' (by (with_reducible repeat (first | apply Kd.vq | apply Kd.kx | apply Kd.vz));first | exact HO123.out | exact Kd.N_mono HO123.out (fun _ hk => by first | trivial | (simp_all;done) | grind)) (Kd.R_base ho0) hb)
    have n2_ := qq.mk (Kd.R_elder' (by (with_reducible repeat (first | apply Kd.jq | apply Kd.zx | apply Kd.jz));first | exact HO126.out | exact Kd.R_mono HO126.out (fun _ hk => by first | trivial | (simp_all;done) | grind)) (Kd.R_base ho0) hb)
    have n3_ := qq.mk (Kd.R_lower (Kd.R_new' ho0 (Kd.R_lt (by (with_reducible repeat (first | apply Kd.jq | apply Kd.zx | apply Kd.jz));first | exact HO126.out | exact Kd.R_mono HO126.out (fun _ hk => by first | trivial | (simp_all;done) | grind)))) (zw (by repeat (first | (with_reducible first | exact HB.out | apply qj | apply qz | apply qk | refine qx ?_ GE101.out) | exact HB.out))))
    have n4_ := qq.mk (wj (g := gb101) (o := .cells #[.int .i64 a0_0,.string a0_1,.string a0_2,.slice A0_3 l0_3.length c0_3,.slice A0_4 l0_4.length c0_4] 27 (0,0)) (by (with_reducible repeat (first | refine zz ?_ _ | refine zj ?_ | refine zq ?_ _));exact BK101.out) hb)
    have n5_ := qq.mk (zv (by repeat (first | (with_reducible first | exact HB.out | apply qj | apply qz | apply qk | refine qx ?_ GE101.out) | exact HB.out)) hb)
    clear HO114
    clear HO123
    clear HO126
    clear BK101
    clear HB
    have HO114 := n0_
    have HO123 := n1_
    have HO126 := n2_
    have HO129 := n3_
    have BK101 := n4_
    have HB := n5_
    clear n0_ n1_ n2_ n3_ n4_ n5_
    (try clear hb)
    (try clear hb2)
    (try clear hk)
    (try clear hi)
    (try clear ho0)
    refine hK.out _ _ ⟨v104,v107,v110,v113,v116,v119,v122,.slice Ao33 t124.length co33,v128,m17_,(by rw [ha.out];exact putSel_upk 13 hb_ rfl rfl rfl),(by (with_reducible repeat (first | refine zz ?_ _ | refine zj ?_ | refine zq ?_ _));exact BK101.out),(by repeat (first | (with_reducible first | exact HB.out | apply qj | apply qz | apply qk | refine qx ?_ GE101.out) | exact HB.out)),fun _ h1_ => absurd ((hon 14 (by kernel_rfl)).symm.trans h1_) (by decide),fun _ h1_ => absurd ((hon 14 (by kernel_rfl)).symm.trans h1_) (by decide),fun _ h1_ => absurd ((hon 14 (by kernel_rfl)).symm.trans h1_) (by decide),fun _ => (by (with_reducible repeat (first | apply Kd.wq | apply Kd.vx | apply Kd.wz));exact Kd.V_mono HO114.out (fun _ hk => by first | exact ⟨hk.1.1,⟨hk.1.2.1,⟨hk.2,hk.1.2.2⟩⟩⟩ | trivial | (simp_all;done) | grind)),fun _ h1_ => absurd ((hon 14 (by kernel_rfl)).symm.trans h1_) (by decide),fun _ h1_ => absurd ((hon 14 (by kernel_rfl)).symm.trans h1_) (by decide),fun _ => (by (with_reducible repeat (first | apply Kd.vq | apply Kd.kx | apply Kd.vz));exact Kd.N_mono HO123.out (fun _ hk => by first | exact ⟨hk.1.1,⟨hk.2,hk.1.2⟩⟩ | trivial | (simp_all;done) | grind)),fun _ => (by (with_reducible repeat (first | apply Kd.jq | apply Kd.zx | apply Kd.jz));exact Kd.R_mono HO126.out (fun _ hk => by first | exact hk.2 | trivial | (simp_all;done) | grind)),fun _ => (by (with_reducible repeat (first | apply Kd.jq | apply Kd.zx | apply Kd.jz));exact Kd.R_mono HO129.out (fun _ hk => by first | exact hk.2 | trivial | (simp_all;done) | grind)),fun h0_ => absurd ((hoff 17 (by kernel_rfl)).symm.trans h0_) (by decide)⟩
   refine steps_cons ?_ ?_
   ·rintro b a w' ⟨v104,v107,v110,v113,v116,v119,v122,v125,v128,m17_,ha,Q_BK101,Q_HB,Q_HO105,Q_HO108,Q_HO111,Q_HO114,Q_HO117,Q_HO120,Q_HO123,Q_HO126,Q_HO129,Q_X17_⟩ hb_ hon hoff
    refine ⟨_,rfl,fun K hK => ?_⟩
    have e22 : a.tmps[22]? = some (v128) := by rw [ha];exact putSel_on (e := (16,22,v128)) 13 rfl rfl (hon 16 (by kernel_rfl)) rfl
    replace ha := qq.mk ha
    have BK101 := qq.mk Q_BK101
    have HB := qq.mk Q_HB
    have HO114 := qq.mk (Q_HO114 (hon 10 (by kernel_rfl)))
    have HO123 := qq.mk (Q_HO123 (hon 14 (by kernel_rfl)))
    have HO126 := qq.mk (Q_HO126 (hon 15 (by kernel_rfl)))
    have HO129 := qq.mk (Q_HO129 (hon 16 (by kernel_rfl)))
    refine value_ (w1 := w') (v := v128) (by rfl) rfl ?_ ?_
    ·go_simp
     (try simp only [i64_w])
     try rfl
    refine hK.out _ _ ⟨v104,v107,v110,v113,v116,v119,v122,v125,v128,(v128),(by rw [ha.out];exact putSel_upk 14 hb_ rfl rfl rfl),Q_BK101,Q_HB,fun _ h1_ => absurd ((hon 14 (by kernel_rfl)).symm.trans h1_) (by decide),fun _ h1_ => absurd ((hon 14 (by kernel_rfl)).symm.trans h1_) (by decide),fun _ h1_ => absurd ((hon 14 (by kernel_rfl)).symm.trans h1_) (by decide),Q_HO114,fun _ h1_ => absurd ((hon 14 (by kernel_rfl)).symm.trans h1_) (by decide),fun _ h1_ => absurd ((hon 14 (by kernel_rfl)).symm.trans h1_) (by decide),Q_HO123,Q_HO126,Q_HO129,fun _ => rfl⟩
   exact steps_nil
  rintro b a w34 hall ⟨v104,v107,v110,v113,v116,v119,v122,v125,v128,m17_,ha,Q_BK101,Q_HB,Q_HO105,Q_HO108,Q_HO111,Q_HO114,Q_HO117,Q_HO120,Q_HO123,Q_HO126,Q_HO129,Q_X17_⟩
  clear BK101 HB
  have hb0_ := hall 0 (by kernel_rfl)
  have hb2_ := hall 2 (by kernel_rfl)
  have hb3_ := hall 3 (by kernel_rfl)
  have hb5_ := hall 5 (by kernel_rfl)
  have hb6_ := hall 6 (by kernel_rfl)
  have hb7_ := hall 7 (by kernel_rfl)
  have hb9_ := hall 9 (by kernel_rfl)
  have hb10_ := hall 10 (by kernel_rfl)
  have hb11_ := hall 11 (by kernel_rfl)
  have hb12_ := hall 12 (by kernel_rfl)
  have hb13_ := hall 13 (by kernel_rfl)
  have hb14_ := hall 14 (by kernel_rfl)
  have hb15_ := hall 15 (by kernel_rfl)
  have hb16_ := hall 16 (by kernel_rfl)
  have hb17_ := hall 17 (by kernel_rfl)
  subst ha
  obtain rfl := Q_X17_ hb17_
  simp only [putSel,hb0_,hb2_,hb3_,hb5_,hb6_,hb7_,hb9_,hb10_,hb11_,hb12_,hb13_,hb14_,hb15_,hb16_,hb17_,if_true,Act.put,List.setIfInBounds_toArray,List.set_cons_zero,List.set_cons_succ]
  have BK101 := qq.mk Q_BK101
  clear Q_BK101
  have HB := qq.mk Q_HB
  clear Q_HB
  clear Q_HO105
  clear Q_HO108
  clear Q_HO111
  have HO114 := qq.mk (Q_HO114 hb10_)
  clear Q_HO114
  clear Q_HO117
  clear Q_HO120
  have HO123 := qq.mk (Q_HO123 hb14_)
  clear Q_HO123
  have HO126 := qq.mk (Q_HO126 hb15_)
  clear Q_HO126
  have HO129 := qq.mk (Q_HO129 hb16_)
  clear Q_HO129
  clear hall hb0_ hb2_ hb3_ hb5_ hb6_ hb7_ hb9_ hb10_ hb11_ hb12_ hb13_ hb14_ hb15_ hb16_ hb17_
  try go_wp2
  go_ret
  exact ⟨_,by first | rfl | (simp [*,kz,jx] <;> rfl),by first | exact fun _ => rfl | exact rfl | exact trivial | exact nil_absurd (digest_pos (qq.out (by assumption))) | exact nil_absurd' (digest_pos (qq.out (by assumption))),by (with_reducible repeat (first | apply Kd.jq | apply Kd.zx | apply Kd.jz));exact Kd.R_mono HO129.out (fun _ hk => by first | exact trivial | trivial | (simp_all;done) | grind),by repeat (first | (with_reducible first | exact HB.out | apply qj | apply qz | apply qk | refine qx ?_ GE101.out) | exact HB.out)⟩
 ·replace c3 := Bool.eq_false_iff.mpr c3
  subst c3
  have H1 : (some ([] : List Int)) = some r := by rw [if_neg (show ¬ (false = true) by decide)] at H;exact H
  clear H
  have H := H1
  clear H1
  obtain rfl := Option.some.inj H
  go_enter Try.func29,Try.ntmps29
  go_wp2_with (first | ((with_reducible refine gate_dst (N := 1) rfl ?_);refine box_event ?hg (N := 1) ?hd (cs := #[.int .i64 a0_0,.string a0_1,.string a0_2,.slice A0_3 l0_3.length c0_3,.slice A0_4 l0_4.length c0_4]) (t := 27) ?hr ?_;(case hd => rfl);(case hg => rfl);(case hr => first | (go_simp;done) | (go_simp;rfl));intro gb101 hg w35 hbox hb;have n0_ := qq.mk (zv (by repeat (first | (with_reducible first | exact HB.out | apply qj | apply qz | apply qk) | exact HB.out)) hb);have n1_ := qq.mk (hbox);have n2_ := qq.mk ((by rw [hg];exact (zw (by repeat (first | (with_reducible first | exact HB.out | apply qj | apply qz | apply qk) | exact HB.out))) : w.heap.size ≤ gb101));have n3_ := qq.mk ((by rw [hg];exact (zw (by repeat (first | (with_reducible first | exact HB.out | apply qj | apply qz | apply qk) | exact HB.out))) : w.heap.size ≤ gb101));clear HB;have HB := n0_;have BK101 := n1_;have GW101 := n2_;have GE101 := n3_;clear n0_ n1_ n2_ n3_;clear hb hbox hg;have hcz36_0 : w35.cell? ⟨gb101,0,none⟩ = some (.int .i64 a0_0) := (qw BK101.out 0).trans rfl;have hcz36_1 : w35.cell? ⟨gb101,1,none⟩ = some (.string a0_1) := (qw BK101.out 1).trans rfl;have hcz36_2 : w35.cell? ⟨gb101,2,none⟩ = some (.string a0_2) := (qw BK101.out 2).trans rfl;have hcz36_3 : w35.cell? ⟨gb101,3,none⟩ = some (.slice A0_3 l0_3.length c0_3) := (qw BK101.out 3).trans rfl;have hcz36_4 : w35.cell? ⟨gb101,4,none⟩ = some (.slice A0_4 l0_4.length c0_4) := (qw BK101.out 4).trans rfl;have hfz36_0 := qv BK101.out 0;have hfz36_1 := qv BK101.out 1;have hfz36_2 := qv BK101.out 2;have hfz36_3 := qv BK101.out 3;have hfz36_4 := qv BK101.out 4) | ((with_reducible refine kj (f := 20) rfl ?_);refine goesL_ (some 4) rfl rfl Try.func20 (by kernel_rfl) rfl #[.agg #[.int .i64 a0_0,.string a0_1,.string a0_2,.slice A0_3 l0_3.length c0_3,.slice A0_4 l0_4.length c0_4]] rfl (by (try simp only [List.map_toArray,List.map_cons,List.map_nil]);first | done | rfl | (simp only [List.length_drop,List.length_take];rfl)) ?_;(with_reducible refine (qqz.calls k a0_0 a0_1 a0_2 _ _ l0_3 _ _ l0_4 false _ ?side1 ?side2 ?side3 ?side4 A2.out).mono ?_);(case side1 => repeat (first | exact (Kd.C_below HR0_3.out HB.out) | (with_reducible refine Kd.C_alloc ?_ _) | (with_reducible refine Kd.C_drewN ?_ _) | (with_reducible refine Kd.C_drew ?_)));(case side2 => exact HC0_3.out);(case side3 => repeat (first | exact (Kd.C_below HR0_4.out HB.out) | (with_reducible refine Kd.C_alloc ?_ _) | (with_reducible refine Kd.C_drewN ?_ _) | (with_reducible refine Kd.C_drew ?_)));(case side4 => exact HC0_4.out);rintro e w37 ⟨rfl,hb⟩;refine ⟨_,rfl,?_⟩;have n0_ := qq.mk (wj (g := gb101) (o := .cells #[.int .i64 a0_0,.string a0_1,.string a0_2,.slice A0_3 l0_3.length c0_3,.slice A0_4 l0_4.length c0_4] 27 (0,0)) (by (with_reducible repeat (first | refine zz ?_ _ | refine zj ?_ | refine zq ?_ _));exact BK101.out) hb);have n1_ := qq.mk (zv (by repeat (first | (with_reducible first | exact HB.out | apply qj | apply qz | apply qk | refine qx ?_ GE101.out) | exact HB.out)) hb);clear BK101;clear HB;have BK101 := n0_;have HB := n1_;clear n0_ n1_;(try clear hb);(try clear hb2);(try clear hk);(try clear hi)))
  go_ret
  exact ⟨_,by first | rfl | (simp [*,kz,jx] <;> rfl),by first | exact fun _ => rfl | exact rfl | exact trivial | exact nil_absurd (digest_pos (qq.out (by assumption))) | exact nil_absurd' (digest_pos (qq.out (by assumption))),by first | exact Kd.R_nil _ _ _ _ _ | exact Kd.N_nil _ _ _ _ _ | exact Kd.V_nil _ _ _ _ _ | exact Kd.Q_nil _ _ _ _ _ | exact Kd.S_nil _ _ _ _ _,by repeat (first | (with_reducible first | exact HB.out | apply qj | apply qz | apply qk | refine qx ?_ GE101.out) | exact HB.out)⟩
theorem qqj.calls (k : Nat) (a0_0 : Int) (a0_1 : ByteArray) (a0_2 : ByteArray) (A0_3 : Option Addr) (c0_3 : Nat) (l0_3 : List Int) (A0_4 : Option Addr) (c0_4 : Nat) (l0_4 : List Int) (r : List Int) (w : World) (hr0_3 : Kd.C (Kd.int .u8) w A0_3 l0_3.length l0_3) (hc0_3 : l0_3.length ≤ c0_3) (hr0_4 : Kd.C (Kd.int .u8) w A0_4 l0_4.length l0_4) (hc0_4 : l0_4.length ≤ c0_4) (h : qqj.f k a0_0 a0_1 a0_2 l0_3 l0_4 = some r) :
  Calls Try.prog 29 #[.agg #[.int .i64 a0_0,.string a0_1,.string a0_2,.slice A0_3 l0_3.length c0_3,.slice A0_4 l0_4.length c0_4]] w fun e w' => ∃ v0_ : Value,e = .returned (v0_) ∧ Kd.R (Kd.int .u8) 5 w' w.heap.size (fun _ => True) v0_ r ∧ Below w.heap.size w w' :=
 (qqj.callsN k a0_0 a0_1 a0_2 A0_3 c0_3 l0_3 A0_4 c0_4 l0_4 r w hr0_3 hc0_3 hr0_4 hc0_4 h).mono fun e_ w_ ⟨v_,h1_,_,h2_,h3_⟩ => ⟨v_,h1_,h2_,h3_⟩
def qqw.f (k : Nat) (a0_0 : Int) (a0_1 : ByteArray) (a0_2 : ByteArray) (l0_3 : List Int) (l0_4 : List Int) : Option (Int × ByteArray × ByteArray × List Int × List Int) := (qqz.f k a0_0 a0_1 a0_2 l0_3 l0_4).bind fun t103 => (if t103 = true then ((xx.f k a0_0 a0_1 a0_2 l0_3 l0_4).bind fun t104 => (some (a0_0,a0_1,(⟨#[]⟩ : ByteArray),([] : List Int),t104))) else (some (0,(⟨#[]⟩ : ByteArray),(⟨#[]⟩ : ByteArray),([] : List Int),([] : List Int))))
def qqw.T3 : Bool × List (List Nat × List Nat) := (true,[([],[]),([0],[0]),([],[]),([2],[2]),([],[]),([4],[4]),([1,3,5],[1,3,5]),([6,5,0,1,2,3,4,5,6],[6])])
def qqw.B3 : List Nat := [0,1,0,4,0,16,63,127]
theorem qqw.tab3 : rtab .any (opsOf Try.f31 3) = qqw.T3 := by kernel_rfl
theorem qqw.bits3 : waitsOk qqw.T3.2 qqw.B3 = true := by kernel_rfl
set_option maxHeartbeats 8000000 in
set_option maxRecDepth 100000 in
theorem qqw.calls (k : Nat) (a0_0 : Int) (a0_1 : ByteArray) (a0_2 : ByteArray) (A0_3 : Option Addr) (c0_3 : Nat) (l0_3 : List Int) (A0_4 : Option Addr) (c0_4 : Nat) (l0_4 : List Int) (r1 : Int) (r2 : ByteArray) (r3 : ByteArray) (r4 : List Int) (r5 : List Int) (w : World) (hr0_3 : Kd.C (Kd.int .u8) w A0_3 l0_3.length l0_3) (hc0_3 : l0_3.length ≤ c0_3) (hr0_4 : Kd.C (Kd.int .u8) w A0_4 l0_4.length l0_4) (hc0_4 : l0_4.length ≤ c0_4) (h : qqw.f k a0_0 a0_1 a0_2 l0_3 l0_4 = some (r1,r2,r3,r4,r5)) :
  Calls Try.prog 31 #[.agg #[.int .i64 a0_0,.string a0_1,.string a0_2,.slice A0_3 l0_3.length c0_3,.slice A0_4 l0_4.length c0_4]] w fun e w' => ∃ v3_ v4_ : Value,e = .returned (.agg #[.int .i64 r1,.string r2,.string r3,v3_,v4_]) ∧ Kd.R (Kd.int .u8) 5 w' w.heap.size (fun k_ => some k_ ≠ (v4_ : Value).ownBlock) v3_ r4 ∧ Kd.R (Kd.int .u8) 5 w' w.heap.size (fun k_ => some k_ ≠ (v3_ : Value).ownBlock) v4_ r5 ∧ Below w.heap.size w w' := by
 have hu27 := Try.underlying27
 have HR0_3 := qq.mk hr0_3
 have HC0_3 := qq.mk hc0_3
 clear hr0_3 hc0_3
 have HR0_4 := qq.mk hr0_4
 have HC0_4 := qq.mk hc0_4
 clear hr0_4 hc0_4
 have HB := qq.mk (Below.refl w.heap.size w)
 have H : ((qqz.f k a0_0 a0_1 a0_2 l0_3 l0_4).bind fun t103 => (if t103 = true then ((xx.f k a0_0 a0_1 a0_2 l0_3 l0_4).bind fun t104 => (some (a0_0,a0_1,(⟨#[]⟩ : ByteArray),([] : List Int),t104))) else (some (0,(⟨#[]⟩ : ByteArray),(⟨#[]⟩ : ByteArray),([] : List Int),([] : List Int))))) = some (r1,r2,r3,r4,r5) := h
 clear h
 replace H := Option.bind_eq_some_iff.mp H
 obtain ⟨t103,A20,H⟩ := H
 replace H : (if t103 = true then ((xx.f k a0_0 a0_1 a0_2 l0_3 l0_4).bind fun t104 => (some (a0_0,a0_1,(⟨#[]⟩ : ByteArray),([] : List Int),t104))) else (some (0,(⟨#[]⟩ : ByteArray),(⟨#[]⟩ : ByteArray),([] : List Int),([] : List Int)))) = some (r1,r2,r3,r4,r5) := H
 have A2 := qq.mk A20
 clear A20
 by_cases c3 : t103 = true
 ·subst c3
  have H1 : ((xx.f k a0_0 a0_1 a0_2 l0_3 l0_4).bind fun t104 => (some (a0_0,a0_1,(⟨#[]⟩ : ByteArray),([] : List Int),t104))) = some (r1,r2,r3,r4,r5) := by rw [if_pos rfl] at H;exact H
  clear H
  have H := H1
  clear H1
  replace H := Option.bind_eq_some_iff.mp H
  obtain ⟨t104,A40,H⟩ := H
  replace H : (some (a0_0,a0_1,(⟨#[]⟩ : ByteArray),([] : List Int),t104)) = some (r1,r2,r3,r4,r5) := H
  have A4 := qq.mk A40
  clear A40
  simp only [Option.some.injEq,Prod.mk.injEq] at H
  obtain ⟨rfl,rfl,rfl,rfl,rfl⟩ := H
  go_enter Try.func31,Try.ntmps31
  try go_wp2_with (first | ((with_reducible refine gate_dst (N := 1) rfl ?_);refine box_event ?hg (N := 1) ?hd (cs := #[.int .i64 a0_0,.string a0_1,.string a0_2,.slice A0_3 l0_3.length c0_3,.slice A0_4 l0_4.length c0_4]) (t := 27) ?hr ?_;(case hd => rfl);(case hg => rfl);(case hr => first | (go_simp;done) | (go_simp;rfl));intro gb101 hg w5 hbox hb;have n0_ := qq.mk (zv (by repeat (first | (with_reducible first | exact HB.out | apply qj | apply qz | apply qk) | exact HB.out)) hb);have n1_ := qq.mk (hbox);have n2_ := qq.mk ((by rw [hg];exact (zw (by repeat (first | (with_reducible first | exact HB.out | apply qj | apply qz | apply qk) | exact HB.out))) : w.heap.size ≤ gb101));have n3_ := qq.mk ((by rw [hg];exact (zw (by repeat (first | (with_reducible first | exact HB.out | apply qj | apply qz | apply qk) | exact HB.out))) : w.heap.size ≤ gb101));clear HB;have HB := n0_;have BK101 := n1_;have GW101 := n2_;have GE101 := n3_;clear n0_ n1_ n2_ n3_;clear hb hbox hg) | ((with_reducible refine gate_dst (N := 2) rfl ?_);refine box_event ?hg (N := 2) ?hd (cs := #[.int .i64 0,.string (⟨#[]⟩ : ByteArray),.string (⟨#[]⟩ : ByteArray),.slice none 0 0,.slice none 0 0]) (t := 27) ?hr ?_;(case hd => rfl);(case hg => rfl);(case hr => first | (go_simp;done) | (go_simp;rfl));intro gb102 hg w6 hbox hb;have n0_ := qq.mk (wj (g := gb101) (o := .cells #[.int .i64 a0_0,.string a0_1,.string a0_2,.slice A0_3 l0_3.length c0_3,.slice A0_4 l0_4.length c0_4] 27 (0,0)) (by (with_reducible repeat (first | refine zz ?_ _ | refine zj ?_ | refine zq ?_ _));exact BK101.out) hb);have n1_ := qq.mk (zv (by repeat (first | (with_reducible first | exact HB.out | apply qj | apply qz | apply qk | refine qx ?_ GE101.out) | exact HB.out)) hb);have n2_ := qq.mk (hbox);have n3_ := qq.mk ((by rw [hg];exact (zw (by repeat (first | (with_reducible first | exact HB.out | apply qj | apply qz | apply qk | refine qx ?_ GE101.out) | exact HB.out))) : w.heap.size ≤ gb102));have n4_ := qq.mk ((by rw [hg];exact (zw (by repeat (first | (with_reducible first | exact HB.out | apply qj | apply qz | apply qk | refine qx ?_ GE101.out) | exact HB.out))) : w.heap.size ≤ gb102));have n5_ := qq.mk ((by rw [hg];exact Nat.ne_of_lt (blk_lt (g := gb101) (o := .cells #[.int .i64 a0_0,.string a0_1,.string a0_2,.slice A0_3 l0_3.length c0_3,.slice A0_4 l0_4.length c0_4] 27 (0,0)) (by (with_reducible repeat (first | refine zz ?_ _ | refine zj ?_ | refine zq ?_ _));exact BK101.out)) : gb101 ≠ gb102));have n6_ := qq.mk ((by rw [hg];exact Nat.ne_of_gt (blk_lt (g := gb101) (o := .cells #[.int .i64 a0_0,.string a0_1,.string a0_2,.slice A0_3 l0_3.length c0_3,.slice A0_4 l0_4.length c0_4] 27 (0,0)) (by (with_reducible repeat (first | refine zz ?_ _ | refine zj ?_ | refine zq ?_ _));exact BK101.out)) : gb102 ≠ gb101));clear BK101;clear HB;have BK101 := n0_;have HB := n1_;have BK102 := n2_;have GW102 := n3_;have GE102 := n4_;have NB101_102 := n5_;have NB102_101 := n6_;clear n0_ n1_ n2_ n3_ n4_ n5_ n6_;clear hb hbox hg;have hnb7 := NB101_102.out;have hnc7 := NB102_101.out;have hcz8_0 : w6.cell? ⟨gb101,0,none⟩ = some (.int .i64 a0_0) := (qw BK101.out 0).trans rfl;have hcz8_1 : w6.cell? ⟨gb101,1,none⟩ = some (.string a0_1) := (qw BK101.out 1).trans rfl;have hcz8_2 : w6.cell? ⟨gb101,2,none⟩ = some (.string a0_2) := (qw BK101.out 2).trans rfl;have hcz8_3 : w6.cell? ⟨gb101,3,none⟩ = some (.slice A0_3 l0_3.length c0_3) := (qw BK101.out 3).trans rfl;have hcz8_4 : w6.cell? ⟨gb101,4,none⟩ = some (.slice A0_4 l0_4.length c0_4) := (qw BK101.out 4).trans rfl;have hfz8_0 := qv BK101.out 0;have hfz8_1 := qv BK101.out 1;have hfz8_2 := qv BK101.out 2;have hfz8_3 := qv BK101.out 3;have hfz8_4 := qv BK101.out 4) | ((with_reducible refine kj (f := 20) rfl ?_);refine goesL_ (some 4) rfl rfl Try.func20 (by kernel_rfl) rfl #[.agg #[.int .i64 a0_0,.string a0_1,.string a0_2,.slice A0_3 l0_3.length c0_3,.slice A0_4 l0_4.length c0_4]] rfl (by (try simp only [List.map_toArray,List.map_cons,List.map_nil]);first | done | rfl | (simp only [List.length_drop,List.length_take];rfl)) ?_;(with_reducible refine (qqz.calls k a0_0 a0_1 a0_2 _ _ l0_3 _ _ l0_4 true _ ?side1 ?side2 ?side3 ?side4 A2.out).mono ?_);(case side1 => repeat (first | exact (Kd.C_below HR0_3.out HB.out) | (with_reducible refine Kd.C_alloc ?_ _) | (with_reducible refine Kd.C_drewN ?_ _) | (with_reducible refine Kd.C_drew ?_)));(case side2 => exact HC0_3.out);(case side3 => repeat (first | exact (Kd.C_below HR0_4.out HB.out) | (with_reducible refine Kd.C_alloc ?_ _) | (with_reducible refine Kd.C_drewN ?_ _) | (with_reducible refine Kd.C_drew ?_)));(case side4 => exact HC0_4.out);rintro e w9 ⟨rfl,hb⟩;refine ⟨_,rfl,?_⟩;have n0_ := qq.mk (wj (g := gb101) (o := .cells #[.int .i64 a0_0,.string a0_1,.string a0_2,.slice A0_3 l0_3.length c0_3,.slice A0_4 l0_4.length c0_4] 27 (0,0)) (by (with_reducible repeat (first | refine zz ?_ _ | refine zj ?_ | refine zq ?_ _));exact BK101.out) hb);have n1_ := qq.mk (wj (g := gb102) (o := .cells #[.int .i64 0,.string (⟨#[]⟩ : ByteArray),.string (⟨#[]⟩ : ByteArray),.slice none 0 0,.slice none 0 0] 27 (0,0)) (by (with_reducible repeat (first | refine zz ?_ _ | refine zj ?_ | refine zq ?_ _));exact BK102.out) hb);have n2_ := qq.mk (zv (by repeat (first | (with_reducible first | exact HB.out | apply qj | apply qz | apply qk | refine qx ?_ GE101.out | refine qx ?_ GE102.out) | exact HB.out)) hb);clear BK101;clear BK102;clear HB;have BK101 := n0_;have BK102 := n1_;have HB := n2_;clear n0_ n1_ n2_;(try clear hb);(try clear hb2);(try clear hk);(try clear hi)))
  have n0_ := qq.mk (zj BK101.out)
  have n1_ := qq.mk (zj BK102.out)
  have n2_ := qq.mk (qk HB.out)
  clear BK101
  clear BK102
  clear HB
  have BK101 := n0_
  have BK102 := n1_
  have HB := n2_
  clear n0_ n1_ n2_
  refine start_ (n := 8) (S := fun w' => w'.cell? ⟨gb101,0,none⟩ = some (.int .i64 a0_0) ∧ w'.cell? ⟨gb101,1,none⟩ = some (.string a0_1) ∧ w'.cell? ⟨gb101,2,none⟩ = some (.string a0_2) ∧ w'.cell? ⟨gb101,3,none⟩ = some (.slice A0_3 l0_3.length c0_3) ∧ w'.cell? ⟨gb101,4,none⟩ = some (.slice A0_4 l0_4.length c0_4)) (ds := []) #[false,false,false,false,false,false,false,false] (by kernel_rfl) rfl rfl ⟨(qw BK101.out 0).trans rfl,(qw BK101.out 1).trans rfl,(qw BK101.out 2).trans rfl,(qw BK101.out 3).trans rfl,(qw BK101.out 4).trans rfl⟩ (fun hHeld => ?_);refine with_tabW qqw.tab3 qqw.bits3 (fun HT_ HW_ => ?_)
  generalize w9.drew = w10 at BK101 BK102 HB hHeld ⊢
  refine pure_ (i := 0) (N := some 7) (v := ?_) (a' := ?_) #[true,false,false,false,false,false,false,false] rfl rfl (any_of HT_.out (by kernel_rfl)) (fun _ _ _ h => h) (Or.inl ⟨by rfl,?_⟩) ?_ ?_
  rotate_left
  ·intro w'
   go_simp
   with_reducible rfl
  rotate_left
  ·simp only [Act.put,List.setIfInBounds_toArray,List.set_cons_zero,List.set_cons_succ,i64_w,i32_w]
   rfl
  refine pure_ (i := 2) (N := some 9) (v := ?_) (a' := ?_) #[true,false,true,false,false,false,false,false] rfl rfl (any_of HT_.out (by kernel_rfl)) (fun _ _ _ h => h) (Or.inl ⟨by rfl,?_⟩) ?_ ?_
  rotate_left
  ·intro w'
   go_simp
   with_reducible rfl
  rotate_left
  ·simp only [Act.put,List.setIfInBounds_toArray,List.set_cons_zero,List.set_cons_succ,i64_w,i32_w]
   rfl
  refine take_ (i := 1) (N := some 8) (v := ?_) (a' := ?_) #[true,true,true,false,false,false,false,false] rfl rfl (take_ofW HT_.out HW_.out (by kernel_rfl)) (fun _ _ _ h => h) (Or.inl ⟨by rfl,?_⟩) hHeld ?_ ?_
  rotate_left
  ·rintro w' ⟨s0,s1,s2,s3,s4⟩
   go_simp
   with_reducible rfl
  rotate_left
  ·simp only [Act.put,List.setIfInBounds_toArray,List.set_cons_zero,List.set_cons_succ,i64_w,i32_w]
   rfl
  refine take_ (i := 3) (N := some 10) (v := ?_) (a' := ?_) #[true,true,true,true,false,false,false,false] rfl rfl (take_ofW HT_.out HW_.out (by kernel_rfl)) (fun _ _ _ h => h) (Or.inl ⟨by rfl,?_⟩) hHeld ?_ ?_
  rotate_left
  ·rintro w' ⟨s0,s1,s2,s3,s4⟩
   go_simp
   with_reducible rfl
  rotate_left
  ·simp only [Act.put,List.setIfInBounds_toArray,List.set_cons_zero,List.set_cons_succ,i64_w,i32_w]
   rfl
  refine take_ (i := 4) (N := some 11) (v := ?_) (a' := ?_) #[true,true,true,true,true,false,false,false] rfl rfl (take_ofW HT_.out HW_.out (by kernel_rfl)) (fun _ _ _ h => h) (Or.inl ⟨by rfl,?_⟩) hHeld ?_ ?_
  rotate_left
  ·rintro w' ⟨s0,s1,s2,s3,s4⟩
   go_simp
   with_reducible rfl
  rotate_left
  ·simp only [Act.put,List.setIfInBounds_toArray,List.set_cons_zero,List.set_cons_succ,i64_w,i32_w]
   rfl
  refine one_ (i := 5) (N := some 12) #[true,true,true,true,true,true,false,false] rfl rfl (one_of HT_.out (by kernel_rfl)) (by decide) (fun K hK => ?_)
  refine goes_ Try.func23 (by kernel_rfl) rfl #[.agg #[.int .i64 a0_0,.string a0_1,.string a0_2,.slice A0_3 l0_3.length c0_3,.slice A0_4 l0_4.length c0_4]] (by rfl) rfl rfl (by (try simp only [List.map_toArray,List.map_cons,List.map_nil]);first | done | rfl | (simp only [List.length_drop,List.length_take];rfl)) ?_
  with_reducible refine (xx.calls k a0_0 a0_1 a0_2 _ _ l0_3 _ _ l0_4 t104 _ ?side1 ?side2 ?side3 ?side4 A4.out).mono ?_
  (case side1 => repeat (first | exact (Kd.C_below HR0_3.out HB.out) | (with_reducible refine Kd.C_alloc ?_ _) | (with_reducible refine Kd.C_drewN ?_ _) | (with_reducible refine Kd.C_drew ?_)))
  (case side2 => exact HC0_3.out)
  (case side3 => repeat (first | exact (Kd.C_below HR0_4.out HB.out) | (with_reducible refine Kd.C_alloc ?_ _) | (with_reducible refine Kd.C_drewN ?_ _) | (with_reducible refine Kd.C_drew ?_)))
  (case side4 => exact HC0_4.out)
  rintro e w11 ⟨v105,rfl,ho0,hb⟩
  refine ⟨_,rfl,?_⟩
  have n0_ := qq.mk (Kd.R_lower ho0 (zw (by repeat (first | (with_reducible first | exact HB.out | apply qj | apply qz | apply qk | refine qx ?_ GE101.out | refine qx ?_ GE102.out) | exact HB.out))))
  have n1_ := qq.mk (wj (g := gb101) (o := .cells #[.int .i64 a0_0,.string a0_1,.string a0_2,.slice A0_3 l0_3.length c0_3,.slice A0_4 l0_4.length c0_4] 27 (0,0)) (by (with_reducible repeat (first | refine zz ?_ _ | refine zj ?_ | refine zq ?_ _));exact BK101.out) hb)
  have n2_ := qq.mk (wj (g := gb102) (o := .cells #[.int .i64 0,.string (⟨#[]⟩ : ByteArray),.string (⟨#[]⟩ : ByteArray),.slice none 0 0,.slice none 0 0] 27 (0,0)) (by (with_reducible repeat (first | refine zz ?_ _ | refine zj ?_ | refine zq ?_ _));exact BK102.out) hb)
  have n3_ := qq.mk (zv (by repeat (first | (with_reducible first | exact HB.out | apply qj | apply qz | apply qk | refine qx ?_ GE101.out | refine qx ?_ GE102.out) | exact HB.out)) hb)
  clear BK101
  clear BK102
  clear HB
  have HO106 := n0_
  have BK101 := n1_
  have BK102 := n2_
  have HB := n3_
  clear n0_ n1_ n2_ n3_
  (try clear hb)
  (try clear hb2)
  (try clear hk)
  (try clear hi)
  (try clear ho0)
  obtain ⟨Ao12,co12,eo12⟩ := Kd.R_slice HO106.out
  (first | subst eo12 | (injection eo12 with f1_ f2_ f3_;have f4_ := f1_.symm;have f5_ := f3_.symm;clear f1_ f2_ f3_;subst f4_;subst f5_))
  refine hK.out _ _ ⟨(qw BK101.out 0).trans rfl,(qw BK101.out 1).trans rfl,(qw BK101.out 2).trans rfl,(qw BK101.out 3).trans rfl,(qw BK101.out 4).trans rfl⟩ (fun hHeld => ?_)
  clear hK K
  refine norm_ (a' := ?_) ?_ ?_
  rotate_left
  ·show Act.put _ (some 12) _ = _
   simp only [Act.put,List.setIfInBounds_toArray,List.set_cons_zero,List.set_cons_succ,i64_w,i32_w]
   rfl
  refine pure_ (i := 6) (N := some 13) (v := ?_) (a' := ?_) #[true,true,true,true,true,true,true,false] rfl rfl (any_of HT_.out (by kernel_rfl)) (fun _ _ _ h => h) (Or.inl ⟨by rfl,?_⟩) ?_ ?_
  rotate_left
  ·intro w'
   go_simp
   with_reducible rfl
  rotate_left
  ·simp only [Act.put,List.setIfInBounds_toArray,List.set_cons_zero,List.set_cons_succ,i64_w,i32_w]
   rfl
  refine one_ (i := 7) (N := none) #[true,true,true,true,true,true,true,true] rfl rfl (one_of HT_.out (by kernel_rfl)) (by decide) (fun K hK => ?_)
  have hs13 : w11.cell? ⟨gb102,0,none⟩ = some (.int .i64 0) := (qw BK102.out 0).trans rfl
  have hfs13 := qv BK102.out 0
  have hns13_0 := NB101_102.out
  have hms13_0 := NB102_101.out
  have hs14 : w11.cell? ⟨gb102,1,none⟩ = some (.string (⟨#[]⟩ : ByteArray)) := (qw BK102.out 1).trans rfl
  have hfs14 := qv BK102.out 1
  have hns14_0 := NB101_102.out
  have hms14_0 := NB102_101.out
  have hs15 : w11.cell? ⟨gb102,2,none⟩ = some (.string (⟨#[]⟩ : ByteArray)) := (qw BK102.out 2).trans rfl
  have hfs15 := qv BK102.out 2
  have hns15_0 := NB101_102.out
  have hms15_0 := NB102_101.out
  have hs16 : w11.cell? ⟨gb102,3,none⟩ = some (.slice none 0 0) := (qw BK102.out 3).trans rfl
  have hfs16 := qv BK102.out 3
  have hns16_0 := NB101_102.out
  have hms16_0 := NB102_101.out
  have hs17 : w11.cell? ⟨gb102,4,none⟩ = some (.slice none 0 0) := (qw BK102.out 4).trans rfl
  have hfs17 := qv BK102.out 4
  have hns17_0 := NB101_102.out
  have hms17_0 := NB102_101.out
  refine skip_ (w1 := ?_) (by rfl) rfl ?_ ?_
  rotate_left
  ·go_simp
   rfl
  refine hK.out _ _ ⟨((cell_far (p := ⟨gb102,_,none⟩) NB101_102.out _).trans (((cell_far (p := ⟨gb102,_,none⟩) NB101_102.out _).trans (((cell_far (p := ⟨gb102,_,none⟩) NB101_102.out _).trans (((cell_far (p := ⟨gb102,_,none⟩) NB101_102.out _).trans (((cell_far (p := ⟨gb102,_,none⟩) NB101_102.out _).trans (hHeld.1)))))))))),((cell_far (p := ⟨gb102,_,none⟩) NB101_102.out _).trans (((cell_far (p := ⟨gb102,_,none⟩) NB101_102.out _).trans (((cell_far (p := ⟨gb102,_,none⟩) NB101_102.out _).trans (((cell_far (p := ⟨gb102,_,none⟩) NB101_102.out _).trans (((cell_far (p := ⟨gb102,_,none⟩) NB101_102.out _).trans (hHeld.2.1)))))))))),((cell_far (p := ⟨gb102,_,none⟩) NB101_102.out _).trans (((cell_far (p := ⟨gb102,_,none⟩) NB101_102.out _).trans (((cell_far (p := ⟨gb102,_,none⟩) NB101_102.out _).trans (((cell_far (p := ⟨gb102,_,none⟩) NB101_102.out _).trans (((cell_far (p := ⟨gb102,_,none⟩) NB101_102.out _).trans (hHeld.2.2.1)))))))))),((cell_far (p := ⟨gb102,_,none⟩) NB101_102.out _).trans (((cell_far (p := ⟨gb102,_,none⟩) NB101_102.out _).trans (((cell_far (p := ⟨gb102,_,none⟩) NB101_102.out _).trans (((cell_far (p := ⟨gb102,_,none⟩) NB101_102.out _).trans (((cell_far (p := ⟨gb102,_,none⟩) NB101_102.out _).trans (hHeld.2.2.2.1)))))))))),((cell_far (p := ⟨gb102,_,none⟩) NB101_102.out _).trans (((cell_far (p := ⟨gb102,_,none⟩) NB101_102.out _).trans (((cell_far (p := ⟨gb102,_,none⟩) NB101_102.out _).trans (((cell_far (p := ⟨gb102,_,none⟩) NB101_102.out _).trans (((cell_far (p := ⟨gb102,_,none⟩) NB101_102.out _).trans (hHeld.2.2.2.2))))))))))⟩ (fun hHeld => ?_)
  clear hK K
  refine done_ (done_of HT_.out (by kernel_rfl)) ?_
  try go_wp2
  refine bodyPost_ret (results_cell_row rfl _ _ gb102 27 #[.int .i64 a0_0,.string a0_1,.string (⟨#[]⟩ : ByteArray),.slice none 0 0,.slice Ao12 t104.length co12] (0,0) _ rfl (by (with_reducible repeat (first | refine zz ?_ _ | refine zj ?_ | refine zq ?_ _));refine blk_put (cs := #[.int .i64 a0_0,.string a0_1,.string (⟨#[]⟩ : ByteArray),.slice none 0 0,.slice none 0 0]) ?_ 4 _ rfl;(with_reducible repeat (first | refine zz ?_ _ | refine zj ?_ | refine zq ?_ _));refine blk_put (cs := #[.int .i64 a0_0,.string a0_1,.string (⟨#[]⟩ : ByteArray),.slice none 0 0,.slice none 0 0]) ?_ 3 _ rfl;(with_reducible repeat (first | refine zz ?_ _ | refine zj ?_ | refine zq ?_ _));refine blk_put (cs := #[.int .i64 a0_0,.string a0_1,.string (⟨#[]⟩ : ByteArray),.slice none 0 0,.slice none 0 0]) ?_ 2 _ rfl;(with_reducible repeat (first | refine zz ?_ _ | refine zj ?_ | refine zq ?_ _));refine blk_put (cs := #[.int .i64 a0_0,.string (⟨#[]⟩ : ByteArray),.string (⟨#[]⟩ : ByteArray),.slice none 0 0,.slice none 0 0]) ?_ 1 _ rfl;(with_reducible repeat (first | refine zz ?_ _ | refine zj ?_ | refine zq ?_ _));refine blk_put (cs := #[.int .i64 0,.string (⟨#[]⟩ : ByteArray),.string (⟨#[]⟩ : ByteArray),.slice none 0 0,.slice none 0 0]) ?_ 0 _ rfl;(with_reducible repeat (first | refine zz ?_ _ | refine zj ?_ | refine zq ?_ _));exact BK102.out) Try.underlying27 rfl (by kernel_rfl)) rfl ?_
  exact ⟨_,_,by first | rfl | (simp [*,kz,jx] <;> rfl),by first | exact Kd.R_nil _ _ _ _ _ | exact Kd.N_nil _ _ _ _ _ | exact Kd.V_nil _ _ _ _ _ | exact Kd.Q_nil _ _ _ _ _ | exact Kd.S_nil _ _ _ _ _,by (with_reducible repeat (first | apply Kd.jq | apply Kd.zx | apply Kd.jz));exact Kd.R_mono (Kd.R_far (p := ⟨gb102,4,none⟩) (Kd.R_far (p := ⟨gb102,3,none⟩) (Kd.R_far (p := ⟨gb102,2,none⟩) (Kd.R_far (p := ⟨gb102,1,none⟩) (Kd.R_far (p := ⟨gb102,0,none⟩) (Kd.R_types HO106.out BK102.out (by decide)) (fun _ hk => hk.2) (.int .i64 a0_0)) (fun _ hk => hk.2) (.string a0_1)) (fun _ hk => hk.2) (.string (⟨#[]⟩ : ByteArray))) (fun _ hk => hk.2) (.slice none 0 0)) (fun _ hk => hk.2) (.slice Ao12 t104.length co12)) (fun _ hk => (by simp [Value.ownBlock])),by repeat (first | (with_reducible first | exact HB.out | apply qj | apply qz | apply qk | refine qx ?_ GE101.out | refine qx ?_ GE102.out) | exact HB.out)⟩
 ·replace c3 := Bool.eq_false_iff.mpr c3
  subst c3
  have H1 : (some (0,(⟨#[]⟩ : ByteArray),(⟨#[]⟩ : ByteArray),([] : List Int),([] : List Int))) = some (r1,r2,r3,r4,r5) := by rw [if_neg (show ¬ (false = true) by decide)] at H;exact H
  clear H
  have H := H1
  clear H1
  simp only [Option.some.injEq,Prod.mk.injEq] at H
  obtain ⟨rfl,rfl,rfl,rfl,rfl⟩ := H
  go_enter Try.func31,Try.ntmps31
  go_wp2_with (first | ((with_reducible refine gate_dst (N := 1) rfl ?_);refine box_event ?hg (N := 1) ?hd (cs := #[.int .i64 a0_0,.string a0_1,.string a0_2,.slice A0_3 l0_3.length c0_3,.slice A0_4 l0_4.length c0_4]) (t := 27) ?hr ?_;(case hd => rfl);(case hg => rfl);(case hr => first | (go_simp;done) | (go_simp;rfl));intro gb101 hg w18 hbox hb;have n0_ := qq.mk (zv (by repeat (first | (with_reducible first | exact HB.out | apply qj | apply qz | apply qk) | exact HB.out)) hb);have n1_ := qq.mk (hbox);have n2_ := qq.mk ((by rw [hg];exact (zw (by repeat (first | (with_reducible first | exact HB.out | apply qj | apply qz | apply qk) | exact HB.out))) : w.heap.size ≤ gb101));have n3_ := qq.mk ((by rw [hg];exact (zw (by repeat (first | (with_reducible first | exact HB.out | apply qj | apply qz | apply qk) | exact HB.out))) : w.heap.size ≤ gb101));clear HB;have HB := n0_;have BK101 := n1_;have GW101 := n2_;have GE101 := n3_;clear n0_ n1_ n2_ n3_;clear hb hbox hg) | ((with_reducible refine gate_dst (N := 2) rfl ?_);refine box_event ?hg (N := 2) ?hd (cs := #[.int .i64 0,.string (⟨#[]⟩ : ByteArray),.string (⟨#[]⟩ : ByteArray),.slice none 0 0,.slice none 0 0]) (t := 27) ?hr ?_;(case hd => rfl);(case hg => rfl);(case hr => first | (go_simp;done) | (go_simp;rfl));intro gb102 hg w19 hbox hb;have n0_ := qq.mk (wj (g := gb101) (o := .cells #[.int .i64 a0_0,.string a0_1,.string a0_2,.slice A0_3 l0_3.length c0_3,.slice A0_4 l0_4.length c0_4] 27 (0,0)) (by (with_reducible repeat (first | refine zz ?_ _ | refine zj ?_ | refine zq ?_ _));exact BK101.out) hb);have n1_ := qq.mk (zv (by repeat (first | (with_reducible first | exact HB.out | apply qj | apply qz | apply qk | refine qx ?_ GE101.out) | exact HB.out)) hb);have n2_ := qq.mk (hbox);have n3_ := qq.mk ((by rw [hg];exact (zw (by repeat (first | (with_reducible first | exact HB.out | apply qj | apply qz | apply qk | refine qx ?_ GE101.out) | exact HB.out))) : w.heap.size ≤ gb102));have n4_ := qq.mk ((by rw [hg];exact (zw (by repeat (first | (with_reducible first | exact HB.out | apply qj | apply qz | apply qk | refine qx ?_ GE101.out) | exact HB.out))) : w.heap.size ≤ gb102));have n5_ := qq.mk ((by rw [hg];exact Nat.ne_of_lt (blk_lt (g := gb101) (o := .cells #[.int .i64 a0_0,.string a0_1,.string a0_2,.slice A0_3 l0_3.length c0_3,.slice A0_4 l0_4.length c0_4] 27 (0,0)) (by (with_reducible repeat (first | refine zz ?_ _ | refine zj ?_ | refine zq ?_ _));exact BK101.out)) : gb101 ≠ gb102));have n6_ := qq.mk ((by rw [hg];exact Nat.ne_of_gt (blk_lt (g := gb101) (o := .cells #[.int .i64 a0_0,.string a0_1,.string a0_2,.slice A0_3 l0_3.length c0_3,.slice A0_4 l0_4.length c0_4] 27 (0,0)) (by (with_reducible repeat (first | refine zz ?_ _ | refine zj ?_ | refine zq ?_ _));exact BK101.out)) : gb102 ≠ gb101));clear BK101;clear HB;have BK101 := n0_;have HB := n1_;have BK102 := n2_;have GW102 := n3_;have GE102 := n4_;have NB101_102 := n5_;have NB102_101 := n6_;clear n0_ n1_ n2_ n3_ n4_ n5_ n6_;clear hb hbox hg;have hnb20 := NB101_102.out;have hnc20 := NB102_101.out;have hcz21_0 : w19.cell? ⟨gb101,0,none⟩ = some (.int .i64 a0_0) := (qw BK101.out 0).trans rfl;have hcz21_1 : w19.cell? ⟨gb101,1,none⟩ = some (.string a0_1) := (qw BK101.out 1).trans rfl;have hcz21_2 : w19.cell? ⟨gb101,2,none⟩ = some (.string a0_2) := (qw BK101.out 2).trans rfl;have hcz21_3 : w19.cell? ⟨gb101,3,none⟩ = some (.slice A0_3 l0_3.length c0_3) := (qw BK101.out 3).trans rfl;have hcz21_4 : w19.cell? ⟨gb101,4,none⟩ = some (.slice A0_4 l0_4.length c0_4) := (qw BK101.out 4).trans rfl;have hfz21_0 := qv BK101.out 0;have hfz21_1 := qv BK101.out 1;have hfz21_2 := qv BK101.out 2;have hfz21_3 := qv BK101.out 3;have hfz21_4 := qv BK101.out 4) | ((with_reducible refine kj (f := 20) rfl ?_);refine goesL_ (some 4) rfl rfl Try.func20 (by kernel_rfl) rfl #[.agg #[.int .i64 a0_0,.string a0_1,.string a0_2,.slice A0_3 l0_3.length c0_3,.slice A0_4 l0_4.length c0_4]] rfl (by (try simp only [List.map_toArray,List.map_cons,List.map_nil]);first | done | rfl | (simp only [List.length_drop,List.length_take];rfl)) ?_;(with_reducible refine (qqz.calls k a0_0 a0_1 a0_2 _ _ l0_3 _ _ l0_4 false _ ?side1 ?side2 ?side3 ?side4 A2.out).mono ?_);(case side1 => repeat (first | exact (Kd.C_below HR0_3.out HB.out) | (with_reducible refine Kd.C_alloc ?_ _) | (with_reducible refine Kd.C_drewN ?_ _) | (with_reducible refine Kd.C_drew ?_)));(case side2 => exact HC0_3.out);(case side3 => repeat (first | exact (Kd.C_below HR0_4.out HB.out) | (with_reducible refine Kd.C_alloc ?_ _) | (with_reducible refine Kd.C_drewN ?_ _) | (with_reducible refine Kd.C_drew ?_)));(case side4 => exact HC0_4.out);rintro e w22 ⟨rfl,hb⟩;refine ⟨_,rfl,?_⟩;have n0_ := qq.mk (wj (g := gb101) (o := .cells #[.int .i64 a0_0,.string a0_1,.string a0_2,.slice A0_3 l0_3.length c0_3,.slice A0_4 l0_4.length c0_4] 27 (0,0)) (by (with_reducible repeat (first | refine zz ?_ _ | refine zj ?_ | refine zq ?_ _));exact BK101.out) hb);have n1_ := qq.mk (wj (g := gb102) (o := .cells #[.int .i64 0,.string (⟨#[]⟩ : ByteArray),.string (⟨#[]⟩ : ByteArray),.slice none 0 0,.slice none 0 0] 27 (0,0)) (by (with_reducible repeat (first | refine zz ?_ _ | refine zj ?_ | refine zq ?_ _));exact BK102.out) hb);have n2_ := qq.mk (zv (by repeat (first | (with_reducible first | exact HB.out | apply qj | apply qz | apply qk | refine qx ?_ GE101.out | refine qx ?_ GE102.out) | exact HB.out)) hb);clear BK101;clear BK102;clear HB;have BK101 := n0_;have BK102 := n1_;have HB := n2_;clear n0_ n1_ n2_;(try clear hb);(try clear hb2);(try clear hk);(try clear hi);have hcz23_0 : w22.cell? ⟨gb102,0,none⟩ = some (.int .i64 0) := (qw BK102.out 0).trans rfl;have hcz23_1 : w22.cell? ⟨gb102,1,none⟩ = some (.string (⟨#[]⟩ : ByteArray)) := (qw BK102.out 1).trans rfl;have hcz23_2 : w22.cell? ⟨gb102,2,none⟩ = some (.string (⟨#[]⟩ : ByteArray)) := (qw BK102.out 2).trans rfl;have hcz23_3 : w22.cell? ⟨gb102,3,none⟩ = some (.slice none 0 0) := (qw BK102.out 3).trans rfl;have hcz23_4 : w22.cell? ⟨gb102,4,none⟩ = some (.slice none 0 0) := (qw BK102.out 4).trans rfl;have hfz23_0 := qv BK102.out 0;have hfz23_1 := qv BK102.out 1;have hfz23_2 := qv BK102.out 2;have hfz23_3 := qv BK102.out 3;have hfz23_4 := qv BK102.out 4))
  refine bodyPost_ret (results_cell_row rfl _ _ gb102 27 #[.int .i64 0,.string (⟨#[]⟩ : ByteArray),.string (⟨#[]⟩ : ByteArray),.slice none 0 0,.slice none 0 0] (0,0) _ rfl (by (with_reducible repeat (first | refine zz ?_ _ | refine zj ?_ | refine zq ?_ _));refine blk_put (cs := #[.int .i64 0,.string (⟨#[]⟩ : ByteArray),.string (⟨#[]⟩ : ByteArray),.slice none 0 0,.slice none 0 0]) ?_ 4 _ rfl;(with_reducible repeat (first | refine zz ?_ _ | refine zj ?_ | refine zq ?_ _));refine blk_put (cs := #[.int .i64 0,.string (⟨#[]⟩ : ByteArray),.string (⟨#[]⟩ : ByteArray),.slice none 0 0,.slice none 0 0]) ?_ 3 _ rfl;(with_reducible repeat (first | refine zz ?_ _ | refine zj ?_ | refine zq ?_ _));refine blk_put (cs := #[.int .i64 0,.string (⟨#[]⟩ : ByteArray),.string (⟨#[]⟩ : ByteArray),.slice none 0 0,.slice none 0 0]) ?_ 2 _ rfl;(with_reducible repeat (first | refine zz ?_ _ | refine zj ?_ | refine zq ?_ _));refine blk_put (cs := #[.int .i64 0,.string (⟨#[]⟩ : ByteArray),.string (⟨#[]⟩ : ByteArray),.slice none 0 0,.slice none 0 0]) ?_ 1 _ rfl;(with_reducible repeat (first | refine zz ?_ _ | refine zj ?_ | refine zq ?_ _));refine blk_put (cs := #[.int .i64 0,.string (⟨#[]⟩ : ByteArray),.string (⟨#[]⟩ : ByteArray),.slice none 0 0,.slice none 0 0]) ?_ 0 _ rfl;(with_reducible repeat (first | refine zz ?_ _ | refine zj ?_ | refine zq ?_ _));exact BK102.out) Try.underlying27 rfl (by kernel_rfl)) rfl ?_
  exact ⟨_,_,by first | rfl | (simp [*,kz,jx] <;> rfl),by first | exact Kd.R_nil _ _ _ _ _ | exact Kd.N_nil _ _ _ _ _ | exact Kd.V_nil _ _ _ _ _ | exact Kd.Q_nil _ _ _ _ _ | exact Kd.S_nil _ _ _ _ _,by first | exact Kd.R_nil _ _ _ _ _ | exact Kd.N_nil _ _ _ _ _ | exact Kd.V_nil _ _ _ _ _ | exact Kd.Q_nil _ _ _ _ _ | exact Kd.S_nil _ _ _ _ _,by repeat (first | (with_reducible first | exact HB.out | apply qj | apply qz | apply qk | refine qx ?_ GE101.out | refine qx ?_ GE102.out) | exact HB.out)⟩
def qvv.l0 : Nat → ByteArray → Int → Option (Bool)
 | 0,_,_ => none
 | k + 1,x0,x3 => if x3 < (x0.size : Int) then (if 0 ≤ x3 then (if (bt x0 x3) < 32 then (some false) else (if (bt x0 x3) > 126 then (some false) else (qvv.l0 k x0 (wrap64 (x3 + 1))))) else (none)) else (some true)
def qvv.f (k : Nat) (a0 : ByteArray) : Option (Bool) := qvv.l0 k a0 0
set_option maxHeartbeats 8000000 in
set_option maxRecDepth 100000 in
theorem qvv.calls (k : Nat) (a0 : ByteArray) (r : Bool) (w : World) (h : qvv.f k a0 = some r) :
  Calls Try.prog 70 #[.string a0] w fun e w' => e = .returned (.bool r) ∧ Drawn0 w w' := by
 have H : (qvv.l0 k a0 0) = some r := h
 clear h
 have H' := qq.mk H
 clear H
 go_enter Try.func70,Try.ntmps70
 go_wp2
 go_loopg [3] k (fun kq v3 w' => ∃ (x3_1 : Int),v3 = .int .i64 x3_1 ∧ qq (qvv.l0 kq a0 x3_1 = some r) ∧ qq (kq ≤ k) ∧ Drawn0 w w')
 case atStart => exact ⟨(0),(by first | rfl | (simp;done) | (simp [*];done)),H',⟨Nat.le_refl _⟩,by repeat (first | exact Drawn0.refl _ | apply Drawn0.step)⟩
 case round =>
  clear H'
  obtain ⟨x3_1,rfl,HA,HK1,⟨m1,rfl⟩⟩ := hrel
  cases gk with
  | zero => exact absurd HA.out (by simp [qvv.l0])
  | succ k1 =>
   have H := HA.out
   clear HA
   simp only [qvv.l0] at H
   by_cases c2 : x3_1 < (a0.size : Int)
   ·rw [if_pos c2] at H
    have c2b0 : decide (x3_1 < (a0.size : Int)) = true := decide_eq_true c2
    clear c2
    by_cases c3 : 0 ≤ x3_1
    ·rw [if_pos c3] at H
     have c3b0 : decide (0 ≤ x3_1) = true := decide_eq_true c3
     clear c3
     by_cases c5 : (bt a0 x3_1) < 32
     ·rw [if_pos c5] at H
      have c5b0 : decide ((bt a0 x3_1) < 32) = true := decide_eq_true c5
      clear c5
      obtain rfl := Option.some.inj H
      have p4 : 0 ≤ (x3_1 : Int) := of_decide_eq_true (by assumption)
      have q4 : x3_1 < (a0.size : Int) := of_decide_eq_true (by assumption)
      have hx4 := bt_at a0 x3_1
      replace p4 := eq_true p4
      replace q4 := eq_true q4
      go_wp2
      go_ret
      exact ⟨by first | rfl | (simp;done) | (simp [*];done),by repeat (first | exact Drawn0.refl _ | apply Drawn0.step)⟩
     ·rw [if_neg c5] at H
      have c5b0 : decide ((bt a0 x3_1) < 32) = false := decide_eq_false c5
      clear c5
      by_cases c7 : (bt a0 x3_1) > 126
      ·rw [if_pos c7] at H
       have c7b0 : decide (126 < (bt a0 x3_1)) = true := decide_eq_true c7
       clear c7
       obtain rfl := Option.some.inj H
       have p4 : 0 ≤ (x3_1 : Int) := of_decide_eq_true (by assumption)
       have q4 : x3_1 < (a0.size : Int) := of_decide_eq_true (by assumption)
       have hx4 := bt_at a0 x3_1
       replace p4 := eq_true p4
       replace q4 := eq_true q4
       have p6 : 0 ≤ (x3_1 : Int) := of_decide_eq_true (by assumption)
       have q6 : x3_1 < (a0.size : Int) := of_decide_eq_true (by assumption)
       have hx6 := bt_at a0 x3_1
       replace p6 := eq_true p6
       replace q6 := eq_true q6
       go_wp2
       go_ret
       exact ⟨by first | rfl | (simp;done) | (simp [*];done),by repeat (first | exact Drawn0.refl _ | apply Drawn0.step)⟩
      ·rw [if_neg c7] at H
       have c7b0 : decide (126 < (bt a0 x3_1)) = false := decide_eq_false c7
       clear c7
       have H' := qq.mk H
       clear H
       have p4 : 0 ≤ (x3_1 : Int) := of_decide_eq_true (by assumption)
       have q4 : x3_1 < (a0.size : Int) := of_decide_eq_true (by assumption)
       have hx4 := bt_at a0 x3_1
       replace p4 := eq_true p4
       replace q4 := eq_true q4
       have p6 : 0 ≤ (x3_1 : Int) := of_decide_eq_true (by assumption)
       have q6 : x3_1 < (a0.size : Int) := of_decide_eq_true (by assumption)
       have hx6 := bt_at a0 x3_1
       replace p6 := eq_true p6
       replace q6 := eq_true q6
       go_wp2
       go_roundg k1
       case measure => have := HK1.out;omega
       case rel => exact ⟨(wrap64 (x3_1 + 1)),(by first | rfl | (simp;done) | (simp [*];done)),H',⟨by have := HK1.out;omega⟩,by repeat (first | exact Drawn0.refl _ | apply Drawn0.step)⟩
    ·rw [if_neg c3] at H
     exact absurd H (by simp)
   ·rw [if_neg c2] at H
    have c2b0 : decide (x3_1 < (a0.size : Int)) = false := decide_eq_false c2
    clear c2
    obtain rfl := Option.some.inj H
    go_wp2
    go_ret
    exact ⟨by first | rfl | (simp;done) | (simp [*];done),by repeat (first | exact Drawn0.refl _ | apply Drawn0.step)⟩
def qwk.f (a0_0 : Int) (a0_1 : ByteArray) (a0_2 : ByteArray) (l0_3 : List Int) (l0_4 : List Int) : Option (Bool) := some ((l0_4.length : Int) == 0)
set_option maxHeartbeats 8000000 in
set_option maxRecDepth 100000 in
theorem qwk.calls (a0_0 : Int) (a0_1 : ByteArray) (a0_2 : ByteArray) (A0_3 : Option Addr) (c0_3 : Nat) (l0_3 : List Int) (A0_4 : Option Addr) (c0_4 : Nat) (l0_4 : List Int) (r : Bool) (w : World) (hr0_3 : Kd.C (Kd.int .u8) w A0_3 l0_3.length l0_3) (hc0_3 : l0_3.length ≤ c0_3) (hr0_4 : Kd.C (Kd.int .u8) w A0_4 l0_4.length l0_4) (hc0_4 : l0_4.length ≤ c0_4) (h : qwk.f a0_0 a0_1 a0_2 l0_3 l0_4 = some r) :
  Calls Try.prog 71 #[.agg #[.int .i64 a0_0,.string a0_1,.string a0_2,.slice A0_3 l0_3.length c0_3,.slice A0_4 l0_4.length c0_4]] w fun e w' => e = .returned (.bool r) ∧ Below w.heap.size w w' := by
 have hu27 := Try.underlying27
 have HR0_3 := qq.mk hr0_3
 have HC0_3 := qq.mk hc0_3
 clear hr0_3 hc0_3
 have HR0_4 := qq.mk hr0_4
 have HC0_4 := qq.mk hc0_4
 clear hr0_4 hc0_4
 have HB := qq.mk (Below.refl w.heap.size w)
 have H : (some ((l0_4.length : Int) == 0)) = some r := h
 clear h
 obtain rfl := Option.some.inj H
 go_enter Try.func71,Try.ntmps71
 go_wp2_with (first | ((with_reducible refine gate_dst (N := 1) rfl ?_);refine box_event ?hg (N := 1) ?hd (cs := #[.int .i64 a0_0,.string a0_1,.string a0_2,.slice A0_3 l0_3.length c0_3,.slice A0_4 l0_4.length c0_4]) (t := 27) ?hr ?_;(case hd => rfl);(case hg => rfl);(case hr => first | (go_simp;done) | (go_simp;rfl));intro gb101 hg w2 hbox hb;have n0_ := qq.mk (zv (by repeat (first | (with_reducible first | exact HB.out | apply qj | apply qz | apply qk) | exact HB.out)) hb);have n1_ := qq.mk (hbox);have n2_ := qq.mk ((by rw [hg];exact (zw (by repeat (first | (with_reducible first | exact HB.out | apply qj | apply qz | apply qk) | exact HB.out))) : w.heap.size ≤ gb101));have n3_ := qq.mk ((by rw [hg];exact (zw (by repeat (first | (with_reducible first | exact HB.out | apply qj | apply qz | apply qk) | exact HB.out))) : w.heap.size ≤ gb101));clear HB;have HB := n0_;have BK101 := n1_;have GW101 := n2_;have GE101 := n3_;clear n0_ n1_ n2_ n3_;clear hb hbox hg;have hcz3_0 : w2.cell? ⟨gb101,0,none⟩ = some (.int .i64 a0_0) := (qw BK101.out 0).trans rfl;have hcz3_1 : w2.cell? ⟨gb101,1,none⟩ = some (.string a0_1) := (qw BK101.out 1).trans rfl;have hcz3_2 : w2.cell? ⟨gb101,2,none⟩ = some (.string a0_2) := (qw BK101.out 2).trans rfl;have hcz3_3 : w2.cell? ⟨gb101,3,none⟩ = some (.slice A0_3 l0_3.length c0_3) := (qw BK101.out 3).trans rfl;have hcz3_4 : w2.cell? ⟨gb101,4,none⟩ = some (.slice A0_4 l0_4.length c0_4) := (qw BK101.out 4).trans rfl;have hfz3_0 := qv BK101.out 0;have hfz3_1 := qv BK101.out 1;have hfz3_2 := qv BK101.out 2;have hfz3_3 := qv BK101.out 3;have hfz3_4 := qv BK101.out 4))
 go_ret
 exact ⟨by first | rfl | (simp [*,kz,jx] <;> rfl),by repeat (first | (with_reducible first | exact HB.out | apply qj | apply qz | apply qk | refine qx ?_ GE101.out) | exact HB.out)⟩
def qjx.j0 : Nat → Bool → Int → ByteArray → ByteArray → List Int → List Int → Option (Bool)
 | 0,_,_,_,_,_,_ => none
 | k + 1,x22,x102000,x102001,x102002,x102003,x102004 => if x22 = true then (some false) else ((qwk.f x102000 x102001 x102002 x102003 x102004).bind fun t103 => (if t103 = true then (if (x102002.size : Int) ≤ 200 then ((qvv.f k x102002).bind fun t104 => (if t104 = true then (some (decide ((x102003.length : Int) ≤ 20))) else (some false))) else (some false)) else (if (x102004.length : Int) = 16 then (if x102002.toList = ([] : List UInt8) then (some ((x102003.length : Int) == 0)) else (some false)) else (some false))))
def qjx.f (k : Nat) (a0_0 : Int) (a0_1 : ByteArray) (a0_2 : ByteArray) (l0_3 : List Int) (l0_4 : List Int) : Option (Bool) := if a0_0 < 0 then (qjx.j0 k true a0_0 a0_1 a0_2 l0_3 l0_4) else (if a0_0 > 100000000000 then (qjx.j0 k true a0_0 a0_1 a0_2 l0_3 l0_4) else (if (a0_1.size : Int) > 60 then (qjx.j0 k true a0_0 a0_1 a0_2 l0_3 l0_4) else ((qvv.f k a0_1).bind fun t102 => (qjx.j0 k (!t102) a0_0 a0_1 a0_2 l0_3 l0_4))))
set_option maxHeartbeats 8000000 in
set_option maxRecDepth 100000 in
theorem qjx.calls (k : Nat) (a0_0 : Int) (a0_1 : ByteArray) (a0_2 : ByteArray) (A0_3 : Option Addr) (c0_3 : Nat) (l0_3 : List Int) (A0_4 : Option Addr) (c0_4 : Nat) (l0_4 : List Int) (r : Bool) (w : World) (hr0_3 : Kd.C (Kd.int .u8) w A0_3 l0_3.length l0_3) (hc0_3 : l0_3.length ≤ c0_3) (hr0_4 : Kd.C (Kd.int .u8) w A0_4 l0_4.length l0_4) (hc0_4 : l0_4.length ≤ c0_4) (h : qjx.f k a0_0 a0_1 a0_2 l0_3 l0_4 = some r) :
  Calls Try.prog 18 #[.agg #[.int .i64 a0_0,.string a0_1,.string a0_2,.slice A0_3 l0_3.length c0_3,.slice A0_4 l0_4.length c0_4]] w fun e w' => e = .returned (.bool r) ∧ Below w.heap.size w w' := by
 have hu27 := Try.underlying27
 have HR0_3 := qq.mk hr0_3
 have HC0_3 := qq.mk hc0_3
 clear hr0_3 hc0_3
 have HR0_4 := qq.mk hr0_4
 have HC0_4 := qq.mk hc0_4
 clear hr0_4 hc0_4
 have HB := qq.mk (Below.refl w.heap.size w)
 have H : (if a0_0 < 0 then (qjx.j0 k true a0_0 a0_1 a0_2 l0_3 l0_4) else (if a0_0 > 100000000000 then (qjx.j0 k true a0_0 a0_1 a0_2 l0_3 l0_4) else (if (a0_1.size : Int) > 60 then (qjx.j0 k true a0_0 a0_1 a0_2 l0_3 l0_4) else ((qvv.f k a0_1).bind fun t102 => (qjx.j0 k (!t102) a0_0 a0_1 a0_2 l0_3 l0_4))))) = some r := h
 clear h
 have HC2 := qq.mk H
 clear H
 go_enter Try.func18,Try.ntmps18
 go_upto_region 1 with (first | ((with_reducible refine gate_dst (N := 1) rfl ?_);(try (refine gate_guard (by rfl) ?_;dsimp only));refine box_event ?hg (N := 1) ?hd (cs := #[.int .i64 a0_0,.string a0_1,.string a0_2,.slice A0_3 l0_3.length c0_3,.slice A0_4 l0_4.length c0_4]) (t := 27) ?hr ?_;(case hd => rfl);(case hg => rfl);(case hr => first | (go_simp;done) | (go_simp;rfl));intro gb101 hg w3 hbox hb;have n0_ := qq.mk (zv (by repeat (first | (with_reducible first | exact HB.out | apply qj | apply qz | apply qk) | exact HB.out)) hb);have n1_ := qq.mk (hbox);have n2_ := qq.mk ((by rw [hg];exact (zw (by repeat (first | (with_reducible first | exact HB.out | apply qj | apply qz | apply qk) | exact HB.out))) : w.heap.size ≤ gb101));have n3_ := qq.mk ((by rw [hg];exact (zw (by repeat (first | (with_reducible first | exact HB.out | apply qj | apply qz | apply qk) | exact HB.out))) : w.heap.size ≤ gb101));clear HB;have HB := n0_;have BK101 := n1_;have GW101 := n2_;have GE101 := n3_;clear n0_ n1_ n2_ n3_;clear hb hbox hg))
 (try simp only [Act.put,List.setIfInBounds_toArray,List.set_cons_zero,List.set_cons_succ])
 go_cut [22] (fun v22 wc => ∃ (kq : Nat) (x22_1 : Bool),v22 = .bool x22_1 ∧ qq (qjx.j0 kq x22_1 a0_0 a0_1 a0_2 l0_3 l0_4 = some r) ∧ qq (kq ≤ k) ∧ qq (wc.heap[gb101]? = some (.cells #[.int .i64 a0_0,.string a0_1,.string a0_2,(.slice A0_3 l0_3.length c0_3),(.slice A0_4 l0_4.length c0_4)] 27 (0,0))) ∧ qq (Below w.heap.size w wc))
 case first =>
  have H := HC2.out
  clear HC2
  by_cases c4 : a0_0 < 0
  ·rw [if_pos c4] at H
   have c4b0 : decide (a0_0 < 0) = true := decide_eq_true c4
   clear c4
   (first | rw [c4b0] | (simp only [i64_w,i32_w];rw [c4b0]) | skip)
   have H' := qq.mk H
   clear H
   have hcz5_0 : w3.cell? ⟨gb101,0,none⟩ = some (.int .i64 a0_0) := (qw BK101.out 0).trans rfl
   have hcz5_1 : w3.cell? ⟨gb101,1,none⟩ = some (.string a0_1) := (qw BK101.out 1).trans rfl
   have hcz5_2 : w3.cell? ⟨gb101,2,none⟩ = some (.string a0_2) := (qw BK101.out 2).trans rfl
   have hcz5_3 : w3.cell? ⟨gb101,3,none⟩ = some (.slice A0_3 l0_3.length c0_3) := (qw BK101.out 3).trans rfl
   have hcz5_4 : w3.cell? ⟨gb101,4,none⟩ = some (.slice A0_4 l0_4.length c0_4) := (qw BK101.out 4).trans rfl
   have hfz5_0 := qv BK101.out 0
   have hfz5_1 := qv BK101.out 1
   have hfz5_2 := qv BK101.out 2
   have hfz5_3 := qv BK101.out 3
   have hfz5_4 := qv BK101.out 4
   go_wp2
   go_meet
   case rel => exact ⟨_,(true),(by first | rfl | (simp;done) | (simp [*];done) | (generalize ByteArray.toList _ = l_;cases l_ <;> first | rfl | (simp;done))),H',⟨by first | omega | exact Nat.le_refl _⟩,⟨by (with_reducible repeat (first | refine zz ?_ _ | refine zj ?_ | refine zq ?_ _));exact BK101.out⟩,⟨by repeat (first | (with_reducible first | exact HB.out | apply qj | apply qz | apply qk | refine qx ?_ GE101.out) | exact HB.out)⟩⟩
  ·rw [if_neg c4] at H
   have c4b0 : decide (a0_0 < 0) = false := decide_eq_false c4
   clear c4
   (first | rw [c4b0] | (simp only [i64_w,i32_w];rw [c4b0]) | skip)
   by_cases c6 : a0_0 > 100000000000
   ·rw [if_pos c6] at H
    have c6b0 : decide (100000000000 < a0_0) = true := decide_eq_true c6
    clear c6
    have H' := qq.mk H
    clear H
    have hcz7_0 : w3.cell? ⟨gb101,0,none⟩ = some (.int .i64 a0_0) := (qw BK101.out 0).trans rfl
    have hcz7_1 : w3.cell? ⟨gb101,1,none⟩ = some (.string a0_1) := (qw BK101.out 1).trans rfl
    have hcz7_2 : w3.cell? ⟨gb101,2,none⟩ = some (.string a0_2) := (qw BK101.out 2).trans rfl
    have hcz7_3 : w3.cell? ⟨gb101,3,none⟩ = some (.slice A0_3 l0_3.length c0_3) := (qw BK101.out 3).trans rfl
    have hcz7_4 : w3.cell? ⟨gb101,4,none⟩ = some (.slice A0_4 l0_4.length c0_4) := (qw BK101.out 4).trans rfl
    have hfz7_0 := qv BK101.out 0
    have hfz7_1 := qv BK101.out 1
    have hfz7_2 := qv BK101.out 2
    have hfz7_3 := qv BK101.out 3
    have hfz7_4 := qv BK101.out 4
    go_wp2
    go_meet
    case rel => exact ⟨_,(true),(by first | rfl | (simp;done) | (simp [*];done) | (generalize ByteArray.toList _ = l_;cases l_ <;> first | rfl | (simp;done))),H',⟨by first | omega | exact Nat.le_refl _⟩,⟨by (with_reducible repeat (first | refine zz ?_ _ | refine zj ?_ | refine zq ?_ _));exact BK101.out⟩,⟨by repeat (first | (with_reducible first | exact HB.out | apply qj | apply qz | apply qk | refine qx ?_ GE101.out) | exact HB.out)⟩⟩
   ·rw [if_neg c6] at H
    have c6b0 : decide (100000000000 < a0_0) = false := decide_eq_false c6
    clear c6
    by_cases c8 : (a0_1.size : Int) > 60
    ·rw [if_pos c8] at H
     have c8b0 : decide (60 < (a0_1.size : Int)) = true := decide_eq_true c8
     have c8b1 : decide (60 < a0_1.size) = true := decide_eq_true (by omega)
     clear c8
     have H' := qq.mk H
     clear H
     have hcz9_0 : w3.cell? ⟨gb101,0,none⟩ = some (.int .i64 a0_0) := (qw BK101.out 0).trans rfl
     have hcz9_1 : w3.cell? ⟨gb101,1,none⟩ = some (.string a0_1) := (qw BK101.out 1).trans rfl
     have hcz9_2 : w3.cell? ⟨gb101,2,none⟩ = some (.string a0_2) := (qw BK101.out 2).trans rfl
     have hcz9_3 : w3.cell? ⟨gb101,3,none⟩ = some (.slice A0_3 l0_3.length c0_3) := (qw BK101.out 3).trans rfl
     have hcz9_4 : w3.cell? ⟨gb101,4,none⟩ = some (.slice A0_4 l0_4.length c0_4) := (qw BK101.out 4).trans rfl
     have hfz9_0 := qv BK101.out 0
     have hfz9_1 := qv BK101.out 1
     have hfz9_2 := qv BK101.out 2
     have hfz9_3 := qv BK101.out 3
     have hfz9_4 := qv BK101.out 4
     go_wp2
     go_meet
     case rel => exact ⟨_,(true),(by first | rfl | (simp;done) | (simp [*];done) | (generalize ByteArray.toList _ = l_;cases l_ <;> first | rfl | (simp;done))),H',⟨by first | omega | exact Nat.le_refl _⟩,⟨by (with_reducible repeat (first | refine zz ?_ _ | refine zj ?_ | refine zq ?_ _));exact BK101.out⟩,⟨by repeat (first | (with_reducible first | exact HB.out | apply qj | apply qz | apply qk | refine qx ?_ GE101.out) | exact HB.out)⟩⟩
    ·rw [if_neg c8] at H
     have c8b0 : decide (60 < (a0_1.size : Int)) = false := decide_eq_false c8
     have c8b1 : decide (60 < a0_1.size) = false := decide_eq_false (by omega)
     clear c8
     replace H := Option.bind_eq_some_iff.mp H
     obtain ⟨t102,A100,H⟩ := H
     replace H : (qjx.j0 k (!t102) a0_0 a0_1 a0_2 l0_3 l0_4) = some r := H
     have A10 := qq.mk A100
     clear A100
     have H' := qq.mk H
     clear H
     have hcz11_0 : w3.cell? ⟨gb101,0,none⟩ = some (.int .i64 a0_0) := (qw BK101.out 0).trans rfl
     have hcz11_1 : w3.cell? ⟨gb101,1,none⟩ = some (.string a0_1) := (qw BK101.out 1).trans rfl
     have hcz11_2 : w3.cell? ⟨gb101,2,none⟩ = some (.string a0_2) := (qw BK101.out 2).trans rfl
     have hcz11_3 : w3.cell? ⟨gb101,3,none⟩ = some (.slice A0_3 l0_3.length c0_3) := (qw BK101.out 3).trans rfl
     have hcz11_4 : w3.cell? ⟨gb101,4,none⟩ = some (.slice A0_4 l0_4.length c0_4) := (qw BK101.out 4).trans rfl
     have hfz11_0 := qv BK101.out 0
     have hfz11_1 := qv BK101.out 1
     have hfz11_2 := qv BK101.out 2
     have hfz11_3 := qv BK101.out 3
     have hfz11_4 := qv BK101.out 4
     go_wp2_with (first | (go_at_call 70;(with_reducible refine (qvv.calls k a0_1 t102 _ A10.out).mono ?_);rintro e w' ⟨rfl,⟨nd,rfl⟩⟩))
     go_meet
     case rel => exact ⟨_,(!t102),(by first | rfl | (simp;done) | (simp [*];done) | (generalize ByteArray.toList _ = l_;cases l_ <;> first | rfl | (simp;done))),H',⟨by first | omega | exact Nat.le_refl _⟩,⟨by (with_reducible repeat (first | refine zz ?_ _ | refine zj ?_ | refine zq ?_ _));exact BK101.out⟩,⟨by repeat (first | (with_reducible first | exact HB.out | apply qj | apply qz | apply qk | refine qx ?_ GE101.out) | exact HB.out)⟩⟩
 case rest =>
  clear HC2
  try clear c1
  try clear p2
  try clear c4
  try clear c4b0
  try clear c6
  try clear c6b0
  try clear c8
  try clear c8b0
  try clear c8b1
  try clear hcz11_0
  try clear hcz11_1
  try clear hcz11_2
  try clear hcz11_3
  try clear hcz11_4
  try clear hcz5_0
  try clear hcz5_1
  try clear hcz5_2
  try clear hcz5_3
  try clear hcz5_4
  try clear hcz7_0
  try clear hcz7_1
  try clear hcz7_2
  try clear hcz7_3
  try clear hcz7_4
  try clear hcz9_0
  try clear hcz9_1
  try clear hcz9_2
  try clear hcz9_3
  try clear hcz9_4
  try clear hfz11_0
  try clear hfz11_1
  try clear hfz11_2
  try clear hfz11_3
  try clear hfz11_4
  try clear hfz5_0
  try clear hfz5_1
  try clear hfz5_2
  try clear hfz5_3
  try clear hfz5_4
  try clear hfz7_0
  try clear hfz7_1
  try clear hfz7_2
  try clear hfz7_3
  try clear hfz7_4
  try clear hfz9_0
  try clear hfz9_1
  try clear hfz9_2
  try clear hfz9_3
  try clear hfz9_4
  obtain ⟨kq,x22_1,rfl,HA,HJ1,BK101,HB⟩ := hcut
  cases kq with
  | zero => exact absurd HA.out (by simp [qjx.j0])
  | succ kj1 =>
   have H := HA.out
   clear HA
   simp only [qjx.j0] at H
   by_cases c12 : x22_1 = true
   ·subst c12
    have H1 : (some false) = some r := by rw [if_pos rfl] at H;exact H
    clear H
    have H := H1
    clear H1
    obtain rfl := Option.some.inj H
    go_wp2
    go_ret
    exact ⟨by first | rfl | (simp [*,kz,jx] <;> rfl),by repeat (first | (with_reducible first | exact HB.out | apply qj | apply qz | apply qk | refine qx ?_ GE101.out) | exact HB.out)⟩
   ·replace c12 := Bool.eq_false_iff.mpr c12
    subst c12
    have H1 : ((qwk.f a0_0 a0_1 a0_2 l0_3 l0_4).bind fun t103 => (if t103 = true then (if (a0_2.size : Int) ≤ 200 then ((qvv.f kj1 a0_2).bind fun t104 => (if t104 = true then (some (decide ((l0_3.length : Int) ≤ 20))) else (some false))) else (some false)) else (if (l0_4.length : Int) = 16 then (if a0_2.toList = ([] : List UInt8) then (some ((l0_3.length : Int) == 0)) else (some false)) else (some false)))) = some r := by rw [if_neg (show ¬ (false = true) by decide)] at H;exact H
    clear H
    have H := H1
    clear H1
    replace H := Option.bind_eq_some_iff.mp H
    obtain ⟨t103,A130,H⟩ := H
    replace H : (if t103 = true then (if (a0_2.size : Int) ≤ 200 then ((qvv.f kj1 a0_2).bind fun t104 => (if t104 = true then (some (decide ((l0_3.length : Int) ≤ 20))) else (some false))) else (some false)) else (if (l0_4.length : Int) = 16 then (if a0_2.toList = ([] : List UInt8) then (some ((l0_3.length : Int) == 0)) else (some false)) else (some false))) = some r := H
    have A13 := qq.mk A130
    clear A130
    by_cases c14 : t103 = true
    ·subst c14
     have H1 : (if (a0_2.size : Int) ≤ 200 then ((qvv.f kj1 a0_2).bind fun t104 => (if t104 = true then (some (decide ((l0_3.length : Int) ≤ 20))) else (some false))) else (some false)) = some r := by rw [if_pos rfl] at H;exact H
     clear H
     have H := H1
     clear H1
     by_cases c15 : (a0_2.size : Int) ≤ 200
     ·rw [if_pos c15] at H
      have c15b0 : decide ((a0_2.size : Int) ≤ 200) = true := decide_eq_true c15
      have c15b1 : decide (a0_2.size ≤ 200) = true := decide_eq_true (by omega)
      clear c15
      replace H := Option.bind_eq_some_iff.mp H
      obtain ⟨t104,A160,H⟩ := H
      replace H : (if t104 = true then (some (decide ((l0_3.length : Int) ≤ 20))) else (some false)) = some r := H
      have A16 := qq.mk A160
      clear A160
      by_cases c17 : t104 = true
      ·subst c17
       have H1 : (some (decide ((l0_3.length : Int) ≤ 20))) = some r := by rw [if_pos rfl] at H;exact H
       clear H
       have H := H1
       clear H1
       obtain rfl := Option.some.inj H
       have hcz18_0 : wc.cell? ⟨gb101,0,none⟩ = some (.int .i64 a0_0) := (qw BK101.out 0).trans rfl
       have hcz18_1 : wc.cell? ⟨gb101,1,none⟩ = some (.string a0_1) := (qw BK101.out 1).trans rfl
       have hcz18_2 : wc.cell? ⟨gb101,2,none⟩ = some (.string a0_2) := (qw BK101.out 2).trans rfl
       have hcz18_3 : wc.cell? ⟨gb101,3,none⟩ = some (.slice A0_3 l0_3.length c0_3) := (qw BK101.out 3).trans rfl
       have hcz18_4 : wc.cell? ⟨gb101,4,none⟩ = some (.slice A0_4 l0_4.length c0_4) := (qw BK101.out 4).trans rfl
       have hfz18_0 := qv BK101.out 0
       have hfz18_1 := qv BK101.out 1
       have hfz18_2 := qv BK101.out 2
       have hfz18_3 := qv BK101.out 3
       have hfz18_4 := qv BK101.out 4
       go_wp2_with (first | ((with_reducible refine kj (f := 71) rfl ?_);refine goesL_ (some 24) rfl rfl Try.func71 (by kernel_rfl) rfl #[.agg #[.int .i64 a0_0,.string a0_1,.string a0_2,.slice A0_3 l0_3.length c0_3,.slice A0_4 l0_4.length c0_4]] rfl (by (try simp only [List.map_toArray,List.map_cons,List.map_nil]);first | done | rfl | (simp only [List.length_drop,List.length_take];rfl)) ?_;(with_reducible refine (qwk.calls a0_0 a0_1 a0_2 _ _ l0_3 _ _ l0_4 true _ ?side1 ?side2 ?side3 ?side4 A13.out).mono ?_);(case side1 => repeat (first | exact (Kd.C_below HR0_3.out HB.out) | (with_reducible refine Kd.C_alloc ?_ _) | (with_reducible refine Kd.C_drewN ?_ _) | (with_reducible refine Kd.C_drew ?_)));(case side2 => exact HC0_3.out);(case side3 => repeat (first | exact (Kd.C_below HR0_4.out HB.out) | (with_reducible refine Kd.C_alloc ?_ _) | (with_reducible refine Kd.C_drewN ?_ _) | (with_reducible refine Kd.C_drew ?_)));(case side4 => exact HC0_4.out);rintro e w19 ⟨rfl,hb⟩;refine ⟨_,rfl,?_⟩;have n0_ := qq.mk (wj (g := gb101) (o := .cells #[.int .i64 a0_0,.string a0_1,.string a0_2,.slice A0_3 l0_3.length c0_3,.slice A0_4 l0_4.length c0_4] 27 (0,0)) (by (with_reducible repeat (first | refine zz ?_ _ | refine zj ?_ | refine zq ?_ _));exact BK101.out) hb);have n1_ := qq.mk (zv (by repeat (first | (with_reducible first | exact HB.out | apply qj | apply qz | apply qk | refine qx ?_ GE101.out) | exact HB.out)) hb);clear BK101;clear HB;have BK101 := n0_;have HB := n1_;clear n0_ n1_;(try clear hb);(try clear hb2);(try clear hk);(try clear hi);have hcz20_0 : w19.cell? ⟨gb101,0,none⟩ = some (.int .i64 a0_0) := (qw BK101.out 0).trans rfl;have hcz20_1 : w19.cell? ⟨gb101,1,none⟩ = some (.string a0_1) := (qw BK101.out 1).trans rfl;have hcz20_2 : w19.cell? ⟨gb101,2,none⟩ = some (.string a0_2) := (qw BK101.out 2).trans rfl;have hcz20_3 : w19.cell? ⟨gb101,3,none⟩ = some (.slice A0_3 l0_3.length c0_3) := (qw BK101.out 3).trans rfl;have hcz20_4 : w19.cell? ⟨gb101,4,none⟩ = some (.slice A0_4 l0_4.length c0_4) := (qw BK101.out 4).trans rfl;have hfz20_0 := qv BK101.out 0;have hfz20_1 := qv BK101.out 1;have hfz20_2 := qv BK101.out 2;have hfz20_3 := qv BK101.out 3;have hfz20_4 := qv BK101.out 4) | (go_at_call 70;(with_reducible refine (qvv.calls kj1 a0_2 true _ A16.out).mono ?_);rintro e w' ⟨rfl,⟨nd,rfl⟩⟩))
       go_ret
       exact ⟨by first | rfl | (simp [*,kz,jx] <;> rfl),by repeat (first | (with_reducible first | exact HB.out | apply qj | apply qz | apply qk | refine qx ?_ GE101.out) | exact HB.out)⟩
      ·replace c17 := Bool.eq_false_iff.mpr c17
       subst c17
       have H1 : (some false) = some r := by rw [if_neg (show ¬ (false = true) by decide)] at H;exact H
       clear H
       have H := H1
       clear H1
       obtain rfl := Option.some.inj H
       have hcz21_0 : wc.cell? ⟨gb101,0,none⟩ = some (.int .i64 a0_0) := (qw BK101.out 0).trans rfl
       have hcz21_1 : wc.cell? ⟨gb101,1,none⟩ = some (.string a0_1) := (qw BK101.out 1).trans rfl
       have hcz21_2 : wc.cell? ⟨gb101,2,none⟩ = some (.string a0_2) := (qw BK101.out 2).trans rfl
       have hcz21_3 : wc.cell? ⟨gb101,3,none⟩ = some (.slice A0_3 l0_3.length c0_3) := (qw BK101.out 3).trans rfl
       have hcz21_4 : wc.cell? ⟨gb101,4,none⟩ = some (.slice A0_4 l0_4.length c0_4) := (qw BK101.out 4).trans rfl
       have hfz21_0 := qv BK101.out 0
       have hfz21_1 := qv BK101.out 1
       have hfz21_2 := qv BK101.out 2
       have hfz21_3 := qv BK101.out 3
       have hfz21_4 := qv BK101.out 4
       go_wp2_with (first | ((with_reducible refine kj (f := 71) rfl ?_);refine goesL_ (some 24) rfl rfl Try.func71 (by kernel_rfl) rfl #[.agg #[.int .i64 a0_0,.string a0_1,.string a0_2,.slice A0_3 l0_3.length c0_3,.slice A0_4 l0_4.length c0_4]] rfl (by (try simp only [List.map_toArray,List.map_cons,List.map_nil]);first | done | rfl | (simp only [List.length_drop,List.length_take];rfl)) ?_;(with_reducible refine (qwk.calls a0_0 a0_1 a0_2 _ _ l0_3 _ _ l0_4 true _ ?side1 ?side2 ?side3 ?side4 A13.out).mono ?_);(case side1 => repeat (first | exact (Kd.C_below HR0_3.out HB.out) | (with_reducible refine Kd.C_alloc ?_ _) | (with_reducible refine Kd.C_drewN ?_ _) | (with_reducible refine Kd.C_drew ?_)));(case side2 => exact HC0_3.out);(case side3 => repeat (first | exact (Kd.C_below HR0_4.out HB.out) | (with_reducible refine Kd.C_alloc ?_ _) | (with_reducible refine Kd.C_drewN ?_ _) | (with_reducible refine Kd.C_drew ?_)));(case side4 => exact HC0_4.out);rintro e w22 ⟨rfl,hb⟩;refine ⟨_,rfl,?_⟩;have n0_ := qq.mk (wj (g := gb101) (o := .cells #[.int .i64 a0_0,.string a0_1,.string a0_2,.slice A0_3 l0_3.length c0_3,.slice A0_4 l0_4.length c0_4] 27 (0,0)) (by (with_reducible repeat (first | refine zz ?_ _ | refine zj ?_ | refine zq ?_ _));exact BK101.out) hb);have n1_ := qq.mk (zv (by repeat (first | (with_reducible first | exact HB.out | apply qj | apply qz | apply qk | refine qx ?_ GE101.out) | exact HB.out)) hb);clear BK101;clear HB;have BK101 := n0_;have HB := n1_;clear n0_ n1_;(try clear hb);(try clear hb2);(try clear hk);(try clear hi);have hcz23_0 : w22.cell? ⟨gb101,0,none⟩ = some (.int .i64 a0_0) := (qw BK101.out 0).trans rfl;have hcz23_1 : w22.cell? ⟨gb101,1,none⟩ = some (.string a0_1) := (qw BK101.out 1).trans rfl;have hcz23_2 : w22.cell? ⟨gb101,2,none⟩ = some (.string a0_2) := (qw BK101.out 2).trans rfl;have hcz23_3 : w22.cell? ⟨gb101,3,none⟩ = some (.slice A0_3 l0_3.length c0_3) := (qw BK101.out 3).trans rfl;have hcz23_4 : w22.cell? ⟨gb101,4,none⟩ = some (.slice A0_4 l0_4.length c0_4) := (qw BK101.out 4).trans rfl;have hfz23_0 := qv BK101.out 0;have hfz23_1 := qv BK101.out 1;have hfz23_2 := qv BK101.out 2;have hfz23_3 := qv BK101.out 3;have hfz23_4 := qv BK101.out 4) | (go_at_call 70;(with_reducible refine (qvv.calls kj1 a0_2 false _ A16.out).mono ?_);rintro e w' ⟨rfl,⟨nd,rfl⟩⟩))
       go_ret
       exact ⟨by first | rfl | (simp [*,kz,jx] <;> rfl),by repeat (first | (with_reducible first | exact HB.out | apply qj | apply qz | apply qk | refine qx ?_ GE101.out) | exact HB.out)⟩
     ·rw [if_neg c15] at H
      have c15b0 : decide ((a0_2.size : Int) ≤ 200) = false := decide_eq_false c15
      have c15b1 : decide (a0_2.size ≤ 200) = false := decide_eq_false (by omega)
      clear c15
      obtain rfl := Option.some.inj H
      have hcz24_0 : wc.cell? ⟨gb101,0,none⟩ = some (.int .i64 a0_0) := (qw BK101.out 0).trans rfl
      have hcz24_1 : wc.cell? ⟨gb101,1,none⟩ = some (.string a0_1) := (qw BK101.out 1).trans rfl
      have hcz24_2 : wc.cell? ⟨gb101,2,none⟩ = some (.string a0_2) := (qw BK101.out 2).trans rfl
      have hcz24_3 : wc.cell? ⟨gb101,3,none⟩ = some (.slice A0_3 l0_3.length c0_3) := (qw BK101.out 3).trans rfl
      have hcz24_4 : wc.cell? ⟨gb101,4,none⟩ = some (.slice A0_4 l0_4.length c0_4) := (qw BK101.out 4).trans rfl
      have hfz24_0 := qv BK101.out 0
      have hfz24_1 := qv BK101.out 1
      have hfz24_2 := qv BK101.out 2
      have hfz24_3 := qv BK101.out 3
      have hfz24_4 := qv BK101.out 4
      go_wp2_with (first | ((with_reducible refine kj (f := 71) rfl ?_);refine goesL_ (some 24) rfl rfl Try.func71 (by kernel_rfl) rfl #[.agg #[.int .i64 a0_0,.string a0_1,.string a0_2,.slice A0_3 l0_3.length c0_3,.slice A0_4 l0_4.length c0_4]] rfl (by (try simp only [List.map_toArray,List.map_cons,List.map_nil]);first | done | rfl | (simp only [List.length_drop,List.length_take];rfl)) ?_;(with_reducible refine (qwk.calls a0_0 a0_1 a0_2 _ _ l0_3 _ _ l0_4 true _ ?side1 ?side2 ?side3 ?side4 A13.out).mono ?_);(case side1 => repeat (first | exact (Kd.C_below HR0_3.out HB.out) | (with_reducible refine Kd.C_alloc ?_ _) | (with_reducible refine Kd.C_drewN ?_ _) | (with_reducible refine Kd.C_drew ?_)));(case side2 => exact HC0_3.out);(case side3 => repeat (first | exact (Kd.C_below HR0_4.out HB.out) | (with_reducible refine Kd.C_alloc ?_ _) | (with_reducible refine Kd.C_drewN ?_ _) | (with_reducible refine Kd.C_drew ?_)));(case side4 => exact HC0_4.out);rintro e w25 ⟨rfl,hb⟩;refine ⟨_,rfl,?_⟩;have n0_ := qq.mk (wj (g := gb101) (o := .cells #[.int .i64 a0_0,.string a0_1,.string a0_2,.slice A0_3 l0_3.length c0_3,.slice A0_4 l0_4.length c0_4] 27 (0,0)) (by (with_reducible repeat (first | refine zz ?_ _ | refine zj ?_ | refine zq ?_ _));exact BK101.out) hb);have n1_ := qq.mk (zv (by repeat (first | (with_reducible first | exact HB.out | apply qj | apply qz | apply qk | refine qx ?_ GE101.out) | exact HB.out)) hb);clear BK101;clear HB;have BK101 := n0_;have HB := n1_;clear n0_ n1_;(try clear hb);(try clear hb2);(try clear hk);(try clear hi);have hcz26_0 : w25.cell? ⟨gb101,0,none⟩ = some (.int .i64 a0_0) := (qw BK101.out 0).trans rfl;have hcz26_1 : w25.cell? ⟨gb101,1,none⟩ = some (.string a0_1) := (qw BK101.out 1).trans rfl;have hcz26_2 : w25.cell? ⟨gb101,2,none⟩ = some (.string a0_2) := (qw BK101.out 2).trans rfl;have hcz26_3 : w25.cell? ⟨gb101,3,none⟩ = some (.slice A0_3 l0_3.length c0_3) := (qw BK101.out 3).trans rfl;have hcz26_4 : w25.cell? ⟨gb101,4,none⟩ = some (.slice A0_4 l0_4.length c0_4) := (qw BK101.out 4).trans rfl;have hfz26_0 := qv BK101.out 0;have hfz26_1 := qv BK101.out 1;have hfz26_2 := qv BK101.out 2;have hfz26_3 := qv BK101.out 3;have hfz26_4 := qv BK101.out 4))
      go_ret
      exact ⟨by first | rfl | (simp [*,kz,jx] <;> rfl),by repeat (first | (with_reducible first | exact HB.out | apply qj | apply qz | apply qk | refine qx ?_ GE101.out) | exact HB.out)⟩
    ·replace c14 := Bool.eq_false_iff.mpr c14
     subst c14
     have H1 : (if (l0_4.length : Int) = 16 then (if a0_2.toList = ([] : List UInt8) then (some ((l0_3.length : Int) == 0)) else (some false)) else (some false)) = some r := by rw [if_neg (show ¬ (false = true) by decide)] at H;exact H
     clear H
     have H := H1
     clear H1
     by_cases c27 : (l0_4.length : Int) = 16
     ·rw [if_pos c27] at H
      have c27b0 : ((l0_4.length : Int) == 16) = true := beq_iff_eq.mpr c27
      have c27b1 : ((l0_4.length : Int) != 16) = false := bne_eq_false_iff_eq.mpr c27
      clear c27
      by_cases c28 : a0_2.toList = ([] : List UInt8)
      ·rw [if_pos c28] at H
       have c28b0 : (a0_2.toList == ([] : List UInt8)) = true := beq_iff_eq.mpr c28
       have c28b1 : (a0_2.toList != ([] : List UInt8)) = false := bne_eq_false_iff_eq.mpr c28
       clear c28
       obtain rfl := Option.some.inj H
       have hcz29_0 : wc.cell? ⟨gb101,0,none⟩ = some (.int .i64 a0_0) := (qw BK101.out 0).trans rfl
       have hcz29_1 : wc.cell? ⟨gb101,1,none⟩ = some (.string a0_1) := (qw BK101.out 1).trans rfl
       have hcz29_2 : wc.cell? ⟨gb101,2,none⟩ = some (.string a0_2) := (qw BK101.out 2).trans rfl
       have hcz29_3 : wc.cell? ⟨gb101,3,none⟩ = some (.slice A0_3 l0_3.length c0_3) := (qw BK101.out 3).trans rfl
       have hcz29_4 : wc.cell? ⟨gb101,4,none⟩ = some (.slice A0_4 l0_4.length c0_4) := (qw BK101.out 4).trans rfl
       have hfz29_0 := qv BK101.out 0
       have hfz29_1 := qv BK101.out 1
       have hfz29_2 := qv BK101.out 2
       have hfz29_3 := qv BK101.out 3
       have hfz29_4 := qv BK101.out 4
       go_wp2_with (first | ((with_reducible refine kj (f := 71) rfl ?_);refine goesL_ (some 24) rfl rfl Try.func71 (by kernel_rfl) rfl #[.agg #[.int .i64 a0_0,.string a0_1,.string a0_2,.slice A0_3 l0_3.length c0_3,.slice A0_4 l0_4.length c0_4]] rfl (by (try simp only [List.map_toArray,List.map_cons,List.map_nil]);first | done | rfl | (simp only [List.length_drop,List.length_take];rfl)) ?_;(with_reducible refine (qwk.calls a0_0 a0_1 a0_2 _ _ l0_3 _ _ l0_4 false _ ?side1 ?side2 ?side3 ?side4 A13.out).mono ?_);(case side1 => repeat (first | exact (Kd.C_below HR0_3.out HB.out) | (with_reducible refine Kd.C_alloc ?_ _) | (with_reducible refine Kd.C_drewN ?_ _) | (with_reducible refine Kd.C_drew ?_)));(case side2 => exact HC0_3.out);(case side3 => repeat (first | exact (Kd.C_below HR0_4.out HB.out) | (with_reducible refine Kd.C_alloc ?_ _) | (with_reducible refine Kd.C_drewN ?_ _) | (with_reducible refine Kd.C_drew ?_)));(case side4 => exact HC0_4.out);rintro e w30 ⟨rfl,hb⟩;refine ⟨_,rfl,?_⟩;have n0_ := qq.mk (wj (g := gb101) (o := .cells #[.int .i64 a0_0,.string a0_1,.string a0_2,.slice A0_3 l0_3.length c0_3,.slice A0_4 l0_4.length c0_4] 27 (0,0)) (by (with_reducible repeat (first | refine zz ?_ _ | refine zj ?_ | refine zq ?_ _));exact BK101.out) hb);have n1_ := qq.mk (zv (by repeat (first | (with_reducible first | exact HB.out | apply qj | apply qz | apply qk | refine qx ?_ GE101.out) | exact HB.out)) hb);clear BK101;clear HB;have BK101 := n0_;have HB := n1_;clear n0_ n1_;(try clear hb);(try clear hb2);(try clear hk);(try clear hi);have hcz31_0 : w30.cell? ⟨gb101,0,none⟩ = some (.int .i64 a0_0) := (qw BK101.out 0).trans rfl;have hcz31_1 : w30.cell? ⟨gb101,1,none⟩ = some (.string a0_1) := (qw BK101.out 1).trans rfl;have hcz31_2 : w30.cell? ⟨gb101,2,none⟩ = some (.string a0_2) := (qw BK101.out 2).trans rfl;have hcz31_3 : w30.cell? ⟨gb101,3,none⟩ = some (.slice A0_3 l0_3.length c0_3) := (qw BK101.out 3).trans rfl;have hcz31_4 : w30.cell? ⟨gb101,4,none⟩ = some (.slice A0_4 l0_4.length c0_4) := (qw BK101.out 4).trans rfl;have hfz31_0 := qv BK101.out 0;have hfz31_1 := qv BK101.out 1;have hfz31_2 := qv BK101.out 2;have hfz31_3 := qv BK101.out 3;have hfz31_4 := qv BK101.out 4))
       go_ret
       exact ⟨by first | rfl | (simp [*,kz,jx] <;> rfl),by repeat (first | (with_reducible first | exact HB.out | apply qj | apply qz | apply qk | refine qx ?_ GE101.out) | exact HB.out)⟩
      ·rw [if_neg c28] at H
       have c28b0 : (a0_2.toList == ([] : List UInt8)) = false := beq_eq_false_iff_ne.mpr c28
       have c28b1 : (a0_2.toList != ([] : List UInt8)) = true := bne_iff_ne.mpr c28
       obtain rfl := Option.some.inj H
       have hcz32_0 : wc.cell? ⟨gb101,0,none⟩ = some (.int .i64 a0_0) := (qw BK101.out 0).trans rfl
       have hcz32_1 : wc.cell? ⟨gb101,1,none⟩ = some (.string a0_1) := (qw BK101.out 1).trans rfl
       have hcz32_2 : wc.cell? ⟨gb101,2,none⟩ = some (.string a0_2) := (qw BK101.out 2).trans rfl
       have hcz32_3 : wc.cell? ⟨gb101,3,none⟩ = some (.slice A0_3 l0_3.length c0_3) := (qw BK101.out 3).trans rfl
       have hcz32_4 : wc.cell? ⟨gb101,4,none⟩ = some (.slice A0_4 l0_4.length c0_4) := (qw BK101.out 4).trans rfl
       have hfz32_0 := qv BK101.out 0
       have hfz32_1 := qv BK101.out 1
       have hfz32_2 := qv BK101.out 2
       have hfz32_3 := qv BK101.out 3
       have hfz32_4 := qv BK101.out 4
       go_wp2_with (first | ((with_reducible refine kj (f := 71) rfl ?_);refine goesL_ (some 24) rfl rfl Try.func71 (by kernel_rfl) rfl #[.agg #[.int .i64 a0_0,.string a0_1,.string a0_2,.slice A0_3 l0_3.length c0_3,.slice A0_4 l0_4.length c0_4]] rfl (by (try simp only [List.map_toArray,List.map_cons,List.map_nil]);first | done | rfl | (simp only [List.length_drop,List.length_take];rfl)) ?_;(with_reducible refine (qwk.calls a0_0 a0_1 a0_2 _ _ l0_3 _ _ l0_4 false _ ?side1 ?side2 ?side3 ?side4 A13.out).mono ?_);(case side1 => repeat (first | exact (Kd.C_below HR0_3.out HB.out) | (with_reducible refine Kd.C_alloc ?_ _) | (with_reducible refine Kd.C_drewN ?_ _) | (with_reducible refine Kd.C_drew ?_)));(case side2 => exact HC0_3.out);(case side3 => repeat (first | exact (Kd.C_below HR0_4.out HB.out) | (with_reducible refine Kd.C_alloc ?_ _) | (with_reducible refine Kd.C_drewN ?_ _) | (with_reducible refine Kd.C_drew ?_)));(case side4 => exact HC0_4.out);rintro e w33 ⟨rfl,hb⟩;refine ⟨_,rfl,?_⟩;have n0_ := qq.mk (wj (g := gb101) (o := .cells #[.int .i64 a0_0,.string a0_1,.string a0_2,.slice A0_3 l0_3.length c0_3,.slice A0_4 l0_4.length c0_4] 27 (0,0)) (by (with_reducible repeat (first | refine zz ?_ _ | refine zj ?_ | refine zq ?_ _));exact BK101.out) hb);have n1_ := qq.mk (zv (by repeat (first | (with_reducible first | exact HB.out | apply qj | apply qz | apply qk | refine qx ?_ GE101.out) | exact HB.out)) hb);clear BK101;clear HB;have BK101 := n0_;have HB := n1_;clear n0_ n1_;(try clear hb);(try clear hb2);(try clear hk);(try clear hi);have hcz34_0 : w33.cell? ⟨gb101,0,none⟩ = some (.int .i64 a0_0) := (qw BK101.out 0).trans rfl;have hcz34_1 : w33.cell? ⟨gb101,1,none⟩ = some (.string a0_1) := (qw BK101.out 1).trans rfl;have hcz34_2 : w33.cell? ⟨gb101,2,none⟩ = some (.string a0_2) := (qw BK101.out 2).trans rfl;have hcz34_3 : w33.cell? ⟨gb101,3,none⟩ = some (.slice A0_3 l0_3.length c0_3) := (qw BK101.out 3).trans rfl;have hcz34_4 : w33.cell? ⟨gb101,4,none⟩ = some (.slice A0_4 l0_4.length c0_4) := (qw BK101.out 4).trans rfl;have hfz34_0 := qv BK101.out 0;have hfz34_1 := qv BK101.out 1;have hfz34_2 := qv BK101.out 2;have hfz34_3 := qv BK101.out 3;have hfz34_4 := qv BK101.out 4))
       go_ret
       exact ⟨by first | rfl | (simp [*,kz,jx] <;> rfl),by repeat (first | (with_reducible first | exact HB.out | apply qj | apply qz | apply qk | refine qx ?_ GE101.out) | exact HB.out)⟩
     ·rw [if_neg c27] at H
      have c27b0 : ((l0_4.length : Int) == 16) = false := beq_eq_false_iff_ne.mpr c27
      have c27b1 : ((l0_4.length : Int) != 16) = true := bne_iff_ne.mpr c27
      obtain rfl := Option.some.inj H
      have hcz35_0 : wc.cell? ⟨gb101,0,none⟩ = some (.int .i64 a0_0) := (qw BK101.out 0).trans rfl
      have hcz35_1 : wc.cell? ⟨gb101,1,none⟩ = some (.string a0_1) := (qw BK101.out 1).trans rfl
      have hcz35_2 : wc.cell? ⟨gb101,2,none⟩ = some (.string a0_2) := (qw BK101.out 2).trans rfl
      have hcz35_3 : wc.cell? ⟨gb101,3,none⟩ = some (.slice A0_3 l0_3.length c0_3) := (qw BK101.out 3).trans rfl
      have hcz35_4 : wc.cell? ⟨gb101,4,none⟩ = some (.slice A0_4 l0_4.length c0_4) := (qw BK101.out 4).trans rfl
      have hfz35_0 := qv BK101.out 0
      have hfz35_1 := qv BK101.out 1
      have hfz35_2 := qv BK101.out 2
      have hfz35_3 := qv BK101.out 3
      have hfz35_4 := qv BK101.out 4
      go_wp2_with (first | ((with_reducible refine kj (f := 71) rfl ?_);refine goesL_ (some 24) rfl rfl Try.func71 (by kernel_rfl) rfl #[.agg #[.int .i64 a0_0,.string a0_1,.string a0_2,.slice A0_3 l0_3.length c0_3,.slice A0_4 l0_4.length c0_4]] rfl (by (try simp only [List.map_toArray,List.map_cons,List.map_nil]);first | done | rfl | (simp only [List.length_drop,List.length_take];rfl)) ?_;(with_reducible refine (qwk.calls a0_0 a0_1 a0_2 _ _ l0_3 _ _ l0_4 false _ ?side1 ?side2 ?side3 ?side4 A13.out).mono ?_);(case side1 => repeat (first | exact (Kd.C_below HR0_3.out HB.out) | (with_reducible refine Kd.C_alloc ?_ _) | (with_reducible refine Kd.C_drewN ?_ _) | (with_reducible refine Kd.C_drew ?_)));(case side2 => exact HC0_3.out);(case side3 => repeat (first | exact (Kd.C_below HR0_4.out HB.out) | (with_reducible refine Kd.C_alloc ?_ _) | (with_reducible refine Kd.C_drewN ?_ _) | (with_reducible refine Kd.C_drew ?_)));(case side4 => exact HC0_4.out);rintro e w36 ⟨rfl,hb⟩;refine ⟨_,rfl,?_⟩;have n0_ := qq.mk (wj (g := gb101) (o := .cells #[.int .i64 a0_0,.string a0_1,.string a0_2,.slice A0_3 l0_3.length c0_3,.slice A0_4 l0_4.length c0_4] 27 (0,0)) (by (with_reducible repeat (first | refine zz ?_ _ | refine zj ?_ | refine zq ?_ _));exact BK101.out) hb);have n1_ := qq.mk (zv (by repeat (first | (with_reducible first | exact HB.out | apply qj | apply qz | apply qk | refine qx ?_ GE101.out) | exact HB.out)) hb);clear BK101;clear HB;have BK101 := n0_;have HB := n1_;clear n0_ n1_;(try clear hb);(try clear hb2);(try clear hk);(try clear hi);have hcz37_0 : w36.cell? ⟨gb101,0,none⟩ = some (.int .i64 a0_0) := (qw BK101.out 0).trans rfl;have hcz37_1 : w36.cell? ⟨gb101,1,none⟩ = some (.string a0_1) := (qw BK101.out 1).trans rfl;have hcz37_2 : w36.cell? ⟨gb101,2,none⟩ = some (.string a0_2) := (qw BK101.out 2).trans rfl;have hcz37_3 : w36.cell? ⟨gb101,3,none⟩ = some (.slice A0_3 l0_3.length c0_3) := (qw BK101.out 3).trans rfl;have hcz37_4 : w36.cell? ⟨gb101,4,none⟩ = some (.slice A0_4 l0_4.length c0_4) := (qw BK101.out 4).trans rfl;have hfz37_0 := qv BK101.out 0;have hfz37_1 := qv BK101.out 1;have hfz37_2 := qv BK101.out 2;have hfz37_3 := qv BK101.out 3;have hfz37_4 := qv BK101.out 4))
      go_ret
      exact ⟨by first | rfl | (simp [*,kz,jx] <;> rfl),by repeat (first | (with_reducible first | exact HB.out | apply qj | apply qz | apply qk | refine qx ?_ GE101.out) | exact HB.out)⟩
def qvw.f (k : Nat) (a0_0 : Int) (a0_1 : ByteArray) (a0_2 : ByteArray) (l0_3 : List Int) (l0_4 : List Int) : Option (List Int) := (qwk.f a0_0 a0_1 a0_2 l0_3 l0_4).bind fun t102 => (if t102 = true then ((bytesOfS.f a0_2).bind fun t103 => ((qxz.f k l0_3 t103).bind fun t106 => (some t106))) else (if ([] : List Int).length + l0_4.length < 140737488355328 then (some (([] : List Int) ++ l0_4)) else (none)))
set_option maxHeartbeats 8000000 in
set_option maxRecDepth 100000 in
theorem qvw.calls (k : Nat) (a0_0 : Int) (a0_1 : ByteArray) (a0_2 : ByteArray) (A0_3 : Option Addr) (c0_3 : Nat) (l0_3 : List Int) (A0_4 : Option Addr) (c0_4 : Nat) (l0_4 : List Int) (r : List Int) (w : World) (hr0_3 : Kd.C (Kd.int .u8) w A0_3 l0_3.length l0_3) (hc0_3 : l0_3.length ≤ c0_3) (hr0_4 : Kd.C (Kd.int .u8) w A0_4 l0_4.length l0_4) (hc0_4 : l0_4.length ≤ c0_4) (h : qvw.f k a0_0 a0_1 a0_2 l0_3 l0_4 = some r) :
  Calls Try.prog 73 #[.agg #[.int .i64 a0_0,.string a0_1,.string a0_2,.slice A0_3 l0_3.length c0_3,.slice A0_4 l0_4.length c0_4]] w fun e w' => ∃ v0_ : Value,e = .returned (v0_) ∧ Kd.R (Kd.int .u8) 5 w' w.heap.size (fun _ => True) v0_ r ∧ Below w.heap.size w w' := by
 have hu27 := Try.underlying27
 have HR0_3 := qq.mk hr0_3
 have HC0_3 := qq.mk hc0_3
 clear hr0_3 hc0_3
 have HR0_4 := qq.mk hr0_4
 have HC0_4 := qq.mk hc0_4
 clear hr0_4 hc0_4
 have HB := qq.mk (Below.refl w.heap.size w)
 have H : ((qwk.f a0_0 a0_1 a0_2 l0_3 l0_4).bind fun t102 => (if t102 = true then ((bytesOfS.f a0_2).bind fun t103 => ((qxz.f k l0_3 t103).bind fun t106 => (some t106))) else (if ([] : List Int).length + l0_4.length < 140737488355328 then (some (([] : List Int) ++ l0_4)) else (none)))) = some r := h
 clear h
 replace H := Option.bind_eq_some_iff.mp H
 obtain ⟨t102,A20,H⟩ := H
 replace H : (if t102 = true then ((bytesOfS.f a0_2).bind fun t103 => ((qxz.f k l0_3 t103).bind fun t106 => (some t106))) else (if ([] : List Int).length + l0_4.length < 140737488355328 then (some (([] : List Int) ++ l0_4)) else (none))) = some r := H
 have A2 := qq.mk A20
 clear A20
 by_cases c3 : t102 = true
 ·subst c3
  have H1 : ((bytesOfS.f a0_2).bind fun t103 => ((qxz.f k l0_3 t103).bind fun t106 => (some t106))) = some r := by rw [if_pos rfl] at H;exact H
  clear H
  have H := H1
  clear H1
  replace H := Option.bind_eq_some_iff.mp H
  obtain ⟨t103,A40,H⟩ := H
  replace H : ((qxz.f k l0_3 t103).bind fun t106 => (some t106)) = some r := H
  have A4 := qq.mk A40
  clear A40
  replace H := Option.bind_eq_some_iff.mp H
  obtain ⟨t106,A50,H⟩ := H
  replace H : (some t106) = some r := H
  have A5 := qq.mk A50
  clear A50
  obtain rfl := Option.some.inj H
  go_enter Try.func73,Try.ntmps73
  go_wp2_with (first | ((with_reducible refine gate_dst (N := 1) rfl ?_);refine box_event ?hg (N := 1) ?hd (cs := #[.int .i64 a0_0,.string a0_1,.string a0_2,.slice A0_3 l0_3.length c0_3,.slice A0_4 l0_4.length c0_4]) (t := 27) ?hr ?_;(case hd => rfl);(case hg => rfl);(case hr => first | (go_simp;done) | (go_simp;rfl));intro gb101 hg w6 hbox hb;have n0_ := qq.mk (zv (by repeat (first | (with_reducible first | exact HB.out | apply qj | apply qz | apply qk) | exact HB.out)) hb);have n1_ := qq.mk (hbox);have n2_ := qq.mk ((by rw [hg];exact (zw (by repeat (first | (with_reducible first | exact HB.out | apply qj | apply qz | apply qk) | exact HB.out))) : w.heap.size ≤ gb101));have n3_ := qq.mk ((by rw [hg];exact (zw (by repeat (first | (with_reducible first | exact HB.out | apply qj | apply qz | apply qk) | exact HB.out))) : w.heap.size ≤ gb101));clear HB;have HB := n0_;have BK101 := n1_;have GW101 := n2_;have GE101 := n3_;clear n0_ n1_ n2_ n3_;clear hb hbox hg;have hcz7_0 : w6.cell? ⟨gb101,0,none⟩ = some (.int .i64 a0_0) := (qw BK101.out 0).trans rfl;have hcz7_1 : w6.cell? ⟨gb101,1,none⟩ = some (.string a0_1) := (qw BK101.out 1).trans rfl;have hcz7_2 : w6.cell? ⟨gb101,2,none⟩ = some (.string a0_2) := (qw BK101.out 2).trans rfl;have hcz7_3 : w6.cell? ⟨gb101,3,none⟩ = some (.slice A0_3 l0_3.length c0_3) := (qw BK101.out 3).trans rfl;have hcz7_4 : w6.cell? ⟨gb101,4,none⟩ = some (.slice A0_4 l0_4.length c0_4) := (qw BK101.out 4).trans rfl;have hfz7_0 := qv BK101.out 0;have hfz7_1 := qv BK101.out 1;have hfz7_2 := qv BK101.out 2;have hfz7_3 := qv BK101.out 3;have hfz7_4 := qv BK101.out 4) | ((with_reducible refine kj (f := 71) rfl ?_);refine goesL_ (some 5) rfl rfl Try.func71 (by kernel_rfl) rfl #[.agg #[.int .i64 a0_0,.string a0_1,.string a0_2,.slice A0_3 l0_3.length c0_3,.slice A0_4 l0_4.length c0_4]] rfl (by (try simp only [List.map_toArray,List.map_cons,List.map_nil]);first | done | rfl | (simp only [List.length_drop,List.length_take];rfl)) ?_;(with_reducible refine (qwk.calls a0_0 a0_1 a0_2 _ _ l0_3 _ _ l0_4 true _ ?side1 ?side2 ?side3 ?side4 A2.out).mono ?_);(case side1 => repeat (first | exact (Kd.C_below HR0_3.out HB.out) | (with_reducible refine Kd.C_alloc ?_ _) | (with_reducible refine Kd.C_drewN ?_ _) | (with_reducible refine Kd.C_drew ?_)));(case side2 => exact HC0_3.out);(case side3 => repeat (first | exact (Kd.C_below HR0_4.out HB.out) | (with_reducible refine Kd.C_alloc ?_ _) | (with_reducible refine Kd.C_drewN ?_ _) | (with_reducible refine Kd.C_drew ?_)));(case side4 => exact HC0_4.out);rintro e w8 ⟨rfl,hb⟩;refine ⟨_,rfl,?_⟩;have n0_ := qq.mk (wj (g := gb101) (o := .cells #[.int .i64 a0_0,.string a0_1,.string a0_2,.slice A0_3 l0_3.length c0_3,.slice A0_4 l0_4.length c0_4] 27 (0,0)) (by (with_reducible repeat (first | refine zz ?_ _ | refine zj ?_ | refine zq ?_ _));exact BK101.out) hb);have n1_ := qq.mk (zv (by repeat (first | (with_reducible first | exact HB.out | apply qj | apply qz | apply qk | refine qx ?_ GE101.out) | exact HB.out)) hb);clear BK101;clear HB;have BK101 := n0_;have HB := n1_;clear n0_ n1_;(try clear hb);(try clear hb2);(try clear hk);(try clear hi);have hcz9_0 : w8.cell? ⟨gb101,0,none⟩ = some (.int .i64 a0_0) := (qw BK101.out 0).trans rfl;have hcz9_1 : w8.cell? ⟨gb101,1,none⟩ = some (.string a0_1) := (qw BK101.out 1).trans rfl;have hcz9_2 : w8.cell? ⟨gb101,2,none⟩ = some (.string a0_2) := (qw BK101.out 2).trans rfl;have hcz9_3 : w8.cell? ⟨gb101,3,none⟩ = some (.slice A0_3 l0_3.length c0_3) := (qw BK101.out 3).trans rfl;have hcz9_4 : w8.cell? ⟨gb101,4,none⟩ = some (.slice A0_4 l0_4.length c0_4) := (qw BK101.out 4).trans rfl;have hfz9_0 := qv BK101.out 0;have hfz9_1 := qv BK101.out 1;have hfz9_2 := qv BK101.out 2;have hfz9_3 := qv BK101.out 3;have hfz9_4 := qv BK101.out 4) | ((with_reducible refine gate_convert (src := 9) (dst := 22) rfl ?_);refine bytesGoesL_ (some 10) rfl rfl (s := a0_2) rfl rfl ?_;(with_reducible refine (bytesOfS.calls a0_2 t103 _ A4.out).mono ?_);rintro e w10 ⟨v104,rfl,ho0,hb⟩;refine ⟨_,rfl,?_⟩;have n0_ := qq.mk (Kd.V_lower (Kd.V_mono (ok' := fun k_ => k_ ≠ gb101) ho0 (fun k_ hk_ => (Kd.freshB (g := gb101) (o := .cells #[.int .i64 a0_0,.string a0_1,.string a0_2,.slice A0_3 l0_3.length c0_3,.slice A0_4 l0_4.length c0_4] 27 (0,0)) (by (with_reducible repeat (first | refine zz ?_ _ | refine zj ?_ | refine zq ?_ _));exact BK101.out) k_ hk_))) (zw (by repeat (first | (with_reducible first | exact HB.out | apply qj | apply qz | apply qk | refine qx ?_ GE101.out) | exact HB.out))));have n1_ := qq.mk (wj (g := gb101) (o := .cells #[.int .i64 a0_0,.string a0_1,.string a0_2,.slice A0_3 l0_3.length c0_3,.slice A0_4 l0_4.length c0_4] 27 (0,0)) (by (with_reducible repeat (first | refine zz ?_ _ | refine zj ?_ | refine zq ?_ _));exact BK101.out) hb);have n2_ := qq.mk (zv (by repeat (first | (with_reducible first | exact HB.out | apply qj | apply qz | apply qk | refine qx ?_ GE101.out) | exact HB.out)) hb);clear BK101;clear HB;have HO105 := n0_;have BK101 := n1_;have HB := n2_;clear n0_ n1_ n2_;(try clear hb);(try clear hb2);(try clear hk);(try clear hi);(try clear ho0);obtain ⟨Ao11,co11,eo11⟩ := Kd.V_slice HO105.out;subst eo11) | ((with_reducible refine kj (f := 114) rfl ?_);refine goesL_ (some 11) rfl rfl Try.func114 (by kernel_rfl) rfl #[.slice A0_3 l0_3.length c0_3,.slice Ao11 t103.length co11] rfl (by (try simp only [List.map_toArray,List.map_cons,List.map_nil]);first | done | rfl | (simp only [List.length_drop,List.length_take];rfl)) ?_;(with_reducible refine (qxz.calls k _ _ l0_3 _ _ t103 t106 _ ?side1 ?side2 ?side3 ?side4 A5.out).mono ?_);(case side1 => repeat (first | exact (Kd.C_below HR0_3.out HB.out) | (with_reducible refine Kd.C_alloc ?_ _) | (with_reducible refine Kd.C_drewN ?_ _) | (with_reducible refine Kd.C_drew ?_)));(case side2 => exact HC0_3.out);(case side3 => repeat (first | exact (Kd.V_reads' HO105.out).2.2 | (with_reducible refine Kd.C_alloc ?_ _) | (with_reducible refine Kd.C_drewN ?_ _) | (with_reducible refine Kd.C_drew ?_)));(case side4 => exact (Kd.V_reads' HO105.out).2.1);rintro e w12 ⟨v107,rfl,ho0,hb⟩;refine ⟨_,rfl,?_⟩;have n0_ := qq.mk (Kd.V_elder' (by (with_reducible repeat (first | apply Kd.wq | apply Kd.vx | apply Kd.wz));exact HO105.out) (Kd.R_base ho0) hb);have n1_ := qq.mk (Kd.R_lower ho0 (zw (by repeat (first | (with_reducible first | exact HB.out | apply qj | apply qz | apply qk | refine qx ?_ GE101.out) | exact HB.out))));have n2_ := qq.mk (wj (g := gb101) (o := .cells #[.int .i64 a0_0,.string a0_1,.string a0_2,.slice A0_3 l0_3.length c0_3,.slice A0_4 l0_4.length c0_4] 27 (0,0)) (by (with_reducible repeat (first | refine zz ?_ _ | refine zj ?_ | refine zq ?_ _));exact BK101.out) hb);have n3_ := qq.mk (zv (by repeat (first | (with_reducible first | exact HB.out | apply qj | apply qz | apply qk | refine qx ?_ GE101.out) | exact HB.out)) hb);clear HO105;clear BK101;clear HB;have HO105 := n0_;have HO108 := n1_;have BK101 := n2_;have HB := n3_;clear n0_ n1_ n2_ n3_;(try clear hb);(try clear hb2);(try clear hk);(try clear hi);(try clear ho0)))
  go_ret
  exact ⟨_,by first | rfl | (simp [*,kz,jx] <;> rfl),by (with_reducible repeat (first | apply Kd.jq | apply Kd.zx | apply Kd.jz));exact HO108.out,by repeat (first | (with_reducible first | exact HB.out | apply qj | apply qz | apply qk | refine qx ?_ GE101.out) | exact HB.out)⟩
 ·replace c3 := Bool.eq_false_iff.mpr c3
  subst c3
  have H1 : (if ([] : List Int).length + l0_4.length < 140737488355328 then (some (([] : List Int) ++ l0_4)) else (none)) = some r := by rw [if_neg (show ¬ (false = true) by decide)] at H;exact H
  clear H
  have H := H1
  clear H1
  by_cases c13 : ([] : List Int).length + l0_4.length < 140737488355328
  ·rw [if_pos c13] at H
   have LMc13 := qq.mk c13
   clear c13
   obtain ⟨y109,hy109⟩ : ∃ y_ : List Int,y_ = (([] : List Int) ++ l0_4) := ⟨_,rfl⟩
   replace H : (some y109) = some r := by first | (rw [hy109];with_reducible exact H) | (have H2_ := (Option.bind_some _ _).symm.trans H;rw [hy109];with_reducible exact H2_) | (have H2_ := (Option.bind_some _ _).symm.trans H;with_reducible exact H2_) | with_reducible exact H | (rw [hy109];exact H) | exact H
   have Ny109 := qq.mk hy109
   clear hy109
   obtain rfl := Option.some.inj H
   go_enter Try.func73,Try.ntmps73
   go_wp2_with (first | ((with_reducible refine gate_dst (N := 1) rfl ?_);refine box_event ?hg (N := 1) ?hd (cs := #[.int .i64 a0_0,.string a0_1,.string a0_2,.slice A0_3 l0_3.length c0_3,.slice A0_4 l0_4.length c0_4]) (t := 27) ?hr ?_;(case hd => rfl);(case hg => rfl);(case hr => first | (go_simp;done) | (go_simp;rfl));intro gb101 hg w14 hbox hb;have n0_ := qq.mk (zv (by repeat (first | (with_reducible first | exact HB.out | apply qj | apply qz | apply qk) | exact HB.out)) hb);have n1_ := qq.mk (hbox);have n2_ := qq.mk ((by rw [hg];exact (zw (by repeat (first | (with_reducible first | exact HB.out | apply qj | apply qz | apply qk) | exact HB.out))) : w.heap.size ≤ gb101));have n3_ := qq.mk ((by rw [hg];exact (zw (by repeat (first | (with_reducible first | exact HB.out | apply qj | apply qz | apply qk) | exact HB.out))) : w.heap.size ≤ gb101));clear HB;have HB := n0_;have BK101 := n1_;have GW101 := n2_;have GE101 := n3_;clear n0_ n1_ n2_ n3_;clear hb hbox hg;have hcz15_0 : w14.cell? ⟨gb101,0,none⟩ = some (.int .i64 a0_0) := (qw BK101.out 0).trans rfl;have hcz15_1 : w14.cell? ⟨gb101,1,none⟩ = some (.string a0_1) := (qw BK101.out 1).trans rfl;have hcz15_2 : w14.cell? ⟨gb101,2,none⟩ = some (.string a0_2) := (qw BK101.out 2).trans rfl;have hcz15_3 : w14.cell? ⟨gb101,3,none⟩ = some (.slice A0_3 l0_3.length c0_3) := (qw BK101.out 3).trans rfl;have hcz15_4 : w14.cell? ⟨gb101,4,none⟩ = some (.slice A0_4 l0_4.length c0_4) := (qw BK101.out 4).trans rfl;have hfz15_0 := qv BK101.out 0;have hfz15_1 := qv BK101.out 1;have hfz15_2 := qv BK101.out 2;have hfz15_3 := qv BK101.out 3;have hfz15_4 := qv BK101.out 4) | ((with_reducible refine kj (f := 71) rfl ?_);refine goesL_ (some 5) rfl rfl Try.func71 (by kernel_rfl) rfl #[.agg #[.int .i64 a0_0,.string a0_1,.string a0_2,.slice A0_3 l0_3.length c0_3,.slice A0_4 l0_4.length c0_4]] rfl (by (try simp only [List.map_toArray,List.map_cons,List.map_nil]);first | done | rfl | (simp only [List.length_drop,List.length_take];rfl)) ?_;(with_reducible refine (qwk.calls a0_0 a0_1 a0_2 _ _ l0_3 _ _ l0_4 false _ ?side1 ?side2 ?side3 ?side4 A2.out).mono ?_);(case side1 => repeat (first | exact (Kd.C_below HR0_3.out HB.out) | (with_reducible refine Kd.C_alloc ?_ _) | (with_reducible refine Kd.C_drewN ?_ _) | (with_reducible refine Kd.C_drew ?_)));(case side2 => exact HC0_3.out);(case side3 => repeat (first | exact (Kd.C_below HR0_4.out HB.out) | (with_reducible refine Kd.C_alloc ?_ _) | (with_reducible refine Kd.C_drewN ?_ _) | (with_reducible refine Kd.C_drew ?_)));(case side4 => exact HC0_4.out);rintro e w16 ⟨rfl,hb⟩;refine ⟨_,rfl,?_⟩;have n0_ := qq.mk (wj (g := gb101) (o := .cells #[.int .i64 a0_0,.string a0_1,.string a0_2,.slice A0_3 l0_3.length c0_3,.slice A0_4 l0_4.length c0_4] 27 (0,0)) (by (with_reducible repeat (first | refine zz ?_ _ | refine zj ?_ | refine zq ?_ _));exact BK101.out) hb);have n1_ := qq.mk (zv (by repeat (first | (with_reducible first | exact HB.out | apply qj | apply qz | apply qk | refine qx ?_ GE101.out) | exact HB.out)) hb);clear BK101;clear HB;have BK101 := n0_;have HB := n1_;clear n0_ n1_;(try clear hb);(try clear hb2);(try clear hk);(try clear hi);have hcz17_0 : w16.cell? ⟨gb101,0,none⟩ = some (.int .i64 a0_0) := (qw BK101.out 0).trans rfl;have hcz17_1 : w16.cell? ⟨gb101,1,none⟩ = some (.string a0_1) := (qw BK101.out 1).trans rfl;have hcz17_2 : w16.cell? ⟨gb101,2,none⟩ = some (.string a0_2) := (qw BK101.out 2).trans rfl;have hcz17_3 : w16.cell? ⟨gb101,3,none⟩ = some (.slice A0_3 l0_3.length c0_3) := (qw BK101.out 3).trans rfl;have hcz17_4 : w16.cell? ⟨gb101,4,none⟩ = some (.slice A0_4 l0_4.length c0_4) := (qw BK101.out 4).trans rfl;have hfz17_0 := qv BK101.out 0;have hfz17_1 := qv BK101.out 1;have hfz17_2 := qv BK101.out 2;have hfz17_3 := qv BK101.out 3;have hfz17_4 := qv BK101.out 4) | ((with_reducible refine gate_builtin (b := .append) (xs := #[.tmp 12,.tmp 14]) rfl ?_);at_builtin;refine Kd.R_append_rows (Kd.int .u8) (w0 := w) w.heap.size rfl (.tmp 12) (.tmp 14) 22 5 (.int .u8 0) 1 rfl Try.underlying22 info5 rfl (by decide) (by omega) (.slice none 0 0) ([] : List Int) l0_4 _ _ _ (fun _ => True) (fun _ => False) rfl rfl ?aO ?aR (fun _ _ h => h) (fun _ h => h.elim) ?aF ?aB ?aS ?aL ?_;(case aR => repeat (first | exact (Kd.C_below HR0_4.out HB.out) | (with_reducible refine Kd.C_alloc ?_ _) | (with_reducible refine Kd.C_drewN ?_ _) | (with_reducible refine Kd.C_drew ?_)));(case aB => exact (by repeat (first | (with_reducible first | exact HB.out | apply qj | apply qz | apply qk | refine qx ?_ GE101.out) | exact HB.out)));(case aF => exact (fun _ _ => trivial));(case aO => exact ((Kd.R_nil _ _ _ _ (fun _ => True))));(case aS => exact (zw (by repeat (first | (with_reducible first | exact HB.out | apply qj | apply qz | apply qk | refine qx ?_ GE101.out) | exact HB.out))));(case aL => have := LMc13.out;omega);intro v110 w18 ho hb hg hat;rw [← Ny109.out] at ho;have n0_ := qq.mk (blk_grown (g := gb101) (o := .cells #[.int .i64 a0_0,.string a0_1,.string a0_2,.slice A0_3 l0_3.length c0_3,.slice A0_4 l0_4.length c0_4] 27 (0,0)) (by (with_reducible repeat (first | refine zz ?_ _ | refine zj ?_ | refine zq ?_ _));exact BK101.out) hg (by simp [Value.ownBlock]));have n1_ := qq.mk (hb);have n2_ := qq.mk (ho);clear BK101;clear HB;have BK101 := n0_;have HB := n1_;have HO111 := n2_;clear n0_ n1_ n2_;clear ho hb hg hat))
   go_ret
   exact ⟨_,by first | rfl | (simp [*,kz,jx] <;> rfl),by (with_reducible repeat (first | apply Kd.jq | apply Kd.zx | apply Kd.jz));exact HO111.out,by repeat (first | (with_reducible first | exact HB.out | apply qj | apply qz | apply qk | refine qx ?_ GE101.out) | exact HB.out)⟩
  ·rw [if_neg c13] at H
   exact absurd H (by simp)
def qwq.f (k : Nat) (a0_0 : Int) (a0_1 : ByteArray) (a0_2 : ByteArray) (l0_3 : List Int) (l0_4 : List Int) : Option (List Int) := (some (([0] : List Int) : List Int)).bind fun y102 => ((qwx.f k (Int.tmod a0_0 4294967296)).bind fun t105 => (if y102.length + t105.length < 140737488355328 then ((some (y102 ++ t105 : List Int)).bind fun y108 => ((qwx.f k (wrap64 (Int.tdiv a0_0 4294967296))).bind fun t111 => (if y108.length + t111.length < 140737488355328 then ((some (y108 ++ t111 : List Int)).bind fun y114 => ((bytesOfS.f a0_1).bind fun t117 => ((qxq.f k t117).bind fun t120 => (if y114.length + t120.length < 140737488355328 then ((some (y114 ++ t120 : List Int)).bind fun y123 => ((qvw.f k a0_0 a0_1 a0_2 l0_3 l0_4).bind fun t126 => (if y123.length + t126.length < 140737488355328 then ((qxq.f k (y123 ++ t126)).bind fun t132 => (some t132)) else (none)))) else (none))))) else (none)))) else (none)))
set_option maxHeartbeats 8000000 in
set_option maxRecDepth 100000 in
theorem qwq.calls (k : Nat) (a0_0 : Int) (a0_1 : ByteArray) (a0_2 : ByteArray) (A0_3 : Option Addr) (c0_3 : Nat) (l0_3 : List Int) (A0_4 : Option Addr) (c0_4 : Nat) (l0_4 : List Int) (r : List Int) (w : World) (hr0_3 : Kd.C (Kd.int .u8) w A0_3 l0_3.length l0_3) (hc0_3 : l0_3.length ≤ c0_3) (hr0_4 : Kd.C (Kd.int .u8) w A0_4 l0_4.length l0_4) (hc0_4 : l0_4.length ≤ c0_4) (h : qwq.f k a0_0 a0_1 a0_2 l0_3 l0_4 = some r) :
  Calls Try.prog 76 #[.agg #[.int .i64 a0_0,.string a0_1,.string a0_2,.slice A0_3 l0_3.length c0_3,.slice A0_4 l0_4.length c0_4]] w fun e w' => ∃ v0_ : Value,e = .returned (v0_) ∧ Kd.R (Kd.int .u8) 5 w' w.heap.size (fun _ => True) v0_ r ∧ Below w.heap.size w w' := by
 have hu27 := Try.underlying27
 have HR0_3 := qq.mk hr0_3
 have HC0_3 := qq.mk hc0_3
 clear hr0_3 hc0_3
 have HR0_4 := qq.mk hr0_4
 have HC0_4 := qq.mk hc0_4
 clear hr0_4 hc0_4
 have HB := qq.mk (Below.refl w.heap.size w)
 have H : ((some (([0] : List Int) : List Int)).bind fun y102 => ((qwx.f k (Int.tmod a0_0 4294967296)).bind fun t105 => (if y102.length + t105.length < 140737488355328 then ((some (y102 ++ t105 : List Int)).bind fun y108 => ((qwx.f k (wrap64 (Int.tdiv a0_0 4294967296))).bind fun t111 => (if y108.length + t111.length < 140737488355328 then ((some (y108 ++ t111 : List Int)).bind fun y114 => ((bytesOfS.f a0_1).bind fun t117 => ((qxq.f k t117).bind fun t120 => (if y114.length + t120.length < 140737488355328 then ((some (y114 ++ t120 : List Int)).bind fun y123 => ((qvw.f k a0_0 a0_1 a0_2 l0_3 l0_4).bind fun t126 => (if y123.length + t126.length < 140737488355328 then ((qxq.f k (y123 ++ t126)).bind fun t132 => (some t132)) else (none)))) else (none))))) else (none)))) else (none)))) = some r := h
 clear h
 obtain ⟨y102,hy102⟩ : ∃ y_ : List Int,y_ = (([0] : List Int)) := ⟨_,rfl⟩
 replace H : ((qwx.f k (Int.tmod a0_0 4294967296)).bind fun t105 => (if y102.length + t105.length < 140737488355328 then ((some (y102 ++ t105 : List Int)).bind fun y108 => ((qwx.f k (wrap64 (Int.tdiv a0_0 4294967296))).bind fun t111 => (if y108.length + t111.length < 140737488355328 then ((some (y108 ++ t111 : List Int)).bind fun y114 => ((bytesOfS.f a0_1).bind fun t117 => ((qxq.f k t117).bind fun t120 => (if y114.length + t120.length < 140737488355328 then ((some (y114 ++ t120 : List Int)).bind fun y123 => ((qvw.f k a0_0 a0_1 a0_2 l0_3 l0_4).bind fun t126 => (if y123.length + t126.length < 140737488355328 then ((qxq.f k (y123 ++ t126)).bind fun t132 => (some t132)) else (none)))) else (none))))) else (none)))) else (none))) = some r := by first | (rw [hy102];with_reducible exact H) | (have H2_ := (Option.bind_some _ _).symm.trans H;rw [hy102];with_reducible exact H2_) | (have H2_ := (Option.bind_some _ _).symm.trans H;with_reducible exact H2_) | with_reducible exact H | (rw [hy102];exact H) | exact H
 have Ny102 := qq.mk hy102
 clear hy102
 replace H := Option.bind_eq_some_iff.mp H
 obtain ⟨t105,A20,H⟩ := H
 replace H : (if y102.length + t105.length < 140737488355328 then ((some (y102 ++ t105 : List Int)).bind fun y108 => ((qwx.f k (wrap64 (Int.tdiv a0_0 4294967296))).bind fun t111 => (if y108.length + t111.length < 140737488355328 then ((some (y108 ++ t111 : List Int)).bind fun y114 => ((bytesOfS.f a0_1).bind fun t117 => ((qxq.f k t117).bind fun t120 => (if y114.length + t120.length < 140737488355328 then ((some (y114 ++ t120 : List Int)).bind fun y123 => ((qvw.f k a0_0 a0_1 a0_2 l0_3 l0_4).bind fun t126 => (if y123.length + t126.length < 140737488355328 then ((qxq.f k (y123 ++ t126)).bind fun t132 => (some t132)) else (none)))) else (none))))) else (none)))) else (none)) = some r := H
 have A2 := qq.mk A20
 clear A20
 by_cases c3 : y102.length + t105.length < 140737488355328
 ·rw [if_pos c3] at H
  have LMc3 := qq.mk c3
  clear c3
  obtain ⟨y108,hy108⟩ : ∃ y_ : List Int,y_ = (y102 ++ t105) := ⟨_,rfl⟩
  replace H : ((qwx.f k (wrap64 (Int.tdiv a0_0 4294967296))).bind fun t111 => (if y108.length + t111.length < 140737488355328 then ((some (y108 ++ t111 : List Int)).bind fun y114 => ((bytesOfS.f a0_1).bind fun t117 => ((qxq.f k t117).bind fun t120 => (if y114.length + t120.length < 140737488355328 then ((some (y114 ++ t120 : List Int)).bind fun y123 => ((qvw.f k a0_0 a0_1 a0_2 l0_3 l0_4).bind fun t126 => (if y123.length + t126.length < 140737488355328 then ((qxq.f k (y123 ++ t126)).bind fun t132 => (some t132)) else (none)))) else (none))))) else (none))) = some r := by first | (rw [hy108];with_reducible exact H) | (have H2_ := (Option.bind_some _ _).symm.trans H;rw [hy108];with_reducible exact H2_) | (have H2_ := (Option.bind_some _ _).symm.trans H;with_reducible exact H2_) | with_reducible exact H | (rw [hy108];exact H) | exact H
  have Ny108 := qq.mk hy108
  clear hy108
  replace H := Option.bind_eq_some_iff.mp H
  obtain ⟨t111,A40,H⟩ := H
  replace H : (if y108.length + t111.length < 140737488355328 then ((some (y108 ++ t111 : List Int)).bind fun y114 => ((bytesOfS.f a0_1).bind fun t117 => ((qxq.f k t117).bind fun t120 => (if y114.length + t120.length < 140737488355328 then ((some (y114 ++ t120 : List Int)).bind fun y123 => ((qvw.f k a0_0 a0_1 a0_2 l0_3 l0_4).bind fun t126 => (if y123.length + t126.length < 140737488355328 then ((qxq.f k (y123 ++ t126)).bind fun t132 => (some t132)) else (none)))) else (none))))) else (none)) = some r := H
  have A4 := qq.mk A40
  clear A40
  by_cases c5 : y108.length + t111.length < 140737488355328
  ·rw [if_pos c5] at H
   have LMc5 := qq.mk c5
   clear c5
   obtain ⟨y114,hy114⟩ : ∃ y_ : List Int,y_ = (y108 ++ t111) := ⟨_,rfl⟩
   replace H : ((bytesOfS.f a0_1).bind fun t117 => ((qxq.f k t117).bind fun t120 => (if y114.length + t120.length < 140737488355328 then ((some (y114 ++ t120 : List Int)).bind fun y123 => ((qvw.f k a0_0 a0_1 a0_2 l0_3 l0_4).bind fun t126 => (if y123.length + t126.length < 140737488355328 then ((qxq.f k (y123 ++ t126)).bind fun t132 => (some t132)) else (none)))) else (none)))) = some r := by first | (rw [hy114];with_reducible exact H) | (have H2_ := (Option.bind_some _ _).symm.trans H;rw [hy114];with_reducible exact H2_) | (have H2_ := (Option.bind_some _ _).symm.trans H;with_reducible exact H2_) | with_reducible exact H | (rw [hy114];exact H) | exact H
   have Ny114 := qq.mk hy114
   clear hy114
   replace H := Option.bind_eq_some_iff.mp H
   obtain ⟨t117,A60,H⟩ := H
   replace H : ((qxq.f k t117).bind fun t120 => (if y114.length + t120.length < 140737488355328 then ((some (y114 ++ t120 : List Int)).bind fun y123 => ((qvw.f k a0_0 a0_1 a0_2 l0_3 l0_4).bind fun t126 => (if y123.length + t126.length < 140737488355328 then ((qxq.f k (y123 ++ t126)).bind fun t132 => (some t132)) else (none)))) else (none))) = some r := H
   have A6 := qq.mk A60
   clear A60
   replace H := Option.bind_eq_some_iff.mp H
   obtain ⟨t120,A70,H⟩ := H
   replace H : (if y114.length + t120.length < 140737488355328 then ((some (y114 ++ t120 : List Int)).bind fun y123 => ((qvw.f k a0_0 a0_1 a0_2 l0_3 l0_4).bind fun t126 => (if y123.length + t126.length < 140737488355328 then ((qxq.f k (y123 ++ t126)).bind fun t132 => (some t132)) else (none)))) else (none)) = some r := H
   have A7 := qq.mk A70
   clear A70
   by_cases c8 : y114.length + t120.length < 140737488355328
   ·rw [if_pos c8] at H
    have LMc8 := qq.mk c8
    clear c8
    obtain ⟨y123,hy123⟩ : ∃ y_ : List Int,y_ = (y114 ++ t120) := ⟨_,rfl⟩
    replace H : ((qvw.f k a0_0 a0_1 a0_2 l0_3 l0_4).bind fun t126 => (if y123.length + t126.length < 140737488355328 then ((qxq.f k (y123 ++ t126)).bind fun t132 => (some t132)) else (none))) = some r := by first | (rw [hy123];with_reducible exact H) | (have H2_ := (Option.bind_some _ _).symm.trans H;rw [hy123];with_reducible exact H2_) | (have H2_ := (Option.bind_some _ _).symm.trans H;with_reducible exact H2_) | with_reducible exact H | (rw [hy123];exact H) | exact H
    have Ny123 := qq.mk hy123
    clear hy123
    replace H := Option.bind_eq_some_iff.mp H
    obtain ⟨t126,A90,H⟩ := H
    replace H : (if y123.length + t126.length < 140737488355328 then ((qxq.f k (y123 ++ t126)).bind fun t132 => (some t132)) else (none)) = some r := H
    have A9 := qq.mk A90
    clear A90
    by_cases c10 : y123.length + t126.length < 140737488355328
    ·rw [if_pos c10] at H
     have LMc10 := qq.mk c10
     clear c10
     obtain ⟨y129,hy129⟩ : ∃ y_ : List Int,y_ = (y123 ++ t126) := ⟨_,rfl⟩
     replace H : ((qxq.f k y129).bind fun t132 => (some t132)) = some r := by first | (rw [hy129];with_reducible exact H) | (have H2_ := (Option.bind_some _ _).symm.trans H;rw [hy129];with_reducible exact H2_) | (have H2_ := (Option.bind_some _ _).symm.trans H;with_reducible exact H2_) | with_reducible exact H | (rw [hy129];exact H) | exact H
     have Ny129 := qq.mk hy129
     clear hy129
     replace H := Option.bind_eq_some_iff.mp H
     obtain ⟨t132,A110,H⟩ := H
     replace H : (some t132) = some r := H
     have A11 := qq.mk A110
     clear A110
     obtain rfl := Option.some.inj H
     go_enter Try.func76,Try.ntmps76
     go_wp2_with (first | ((with_reducible refine gate_dst (N := 1) rfl ?_);refine box_event ?hg (N := 1) ?hd (cs := #[.int .i64 a0_0,.string a0_1,.string a0_2,.slice A0_3 l0_3.length c0_3,.slice A0_4 l0_4.length c0_4]) (t := 27) ?hr ?_;(case hd => rfl);(case hg => rfl);(case hr => first | (go_simp;done) | (go_simp;rfl));intro gb101 hg w12 hbox hb;have n0_ := qq.mk (zv (by repeat (first | (with_reducible first | exact HB.out | apply qj | apply qz | apply qk) | exact HB.out)) hb);have n1_ := qq.mk (hbox);have n2_ := qq.mk ((by rw [hg];exact (zw (by repeat (first | (with_reducible first | exact HB.out | apply qj | apply qz | apply qk) | exact HB.out))) : w.heap.size ≤ gb101));have n3_ := qq.mk ((by rw [hg];exact (zw (by repeat (first | (with_reducible first | exact HB.out | apply qj | apply qz | apply qk) | exact HB.out))) : w.heap.size ≤ gb101));clear HB;have HB := n0_;have BK101 := n1_;have GW101 := n2_;have GE101 := n3_;clear n0_ n1_ n2_ n3_;clear hb hbox hg) | ((with_reducible refine gate_dst (N := 4) rfl ?_);refine Kd.R_lit (Kd.int .u8) _ 5 ?hg (N := 4) ?hd (xs := ([0] : List Int)) (inner := [.int .u8 0]) (ok := fun _ => True) (okp := fun _ => True) ?hr ?hp (fun _ hk => hk) trivial (Below.refl _ _) (Nat.le_refl _) (by simp) ?_;(case hd => rfl);(case hg => rfl);(case hr => first | (go_simp;done) | (go_simp;rfl));(case hp => exact (Reps.one (show Kd.M (Kd.int .u8) _ _ _ 0 [.int .u8 0] from rfl) (Reps.none _ _)));intro v103 w13 ho14 hb hg_ hnew_;clear hg_ hnew_;(first | rw [← Ny102.out] at ho14 | (simp only [Int.reduceToNat] at ho14;rw [← Ny102.out] at ho14));have n0_ := qq.mk (Kd.R_lower ho14 (zw (by repeat (first | (with_reducible first | exact HB.out | apply qj | apply qz | apply qk | refine qx ?_ GE101.out) | exact HB.out))));have n1_ := qq.mk (wj (g := gb101) (o := .cells #[.int .i64 a0_0,.string a0_1,.string a0_2,.slice A0_3 l0_3.length c0_3,.slice A0_4 l0_4.length c0_4] 27 (0,0)) (by (with_reducible repeat (first | refine zz ?_ _ | refine zj ?_ | refine zq ?_ _));exact BK101.out) hb);have n2_ := qq.mk (zv (by repeat (first | (with_reducible first | exact HB.out | apply qj | apply qz | apply qk | refine qx ?_ GE101.out) | exact HB.out)) hb);clear BK101;clear HB;have HO104 := n0_;have BK101 := n1_;have HB := n2_;clear n0_ n1_ n2_;clear hb ho14;have hcz15_0 : w13.cell? ⟨gb101,0,none⟩ = some (.int .i64 a0_0) := (qw BK101.out 0).trans rfl;have hcz15_1 : w13.cell? ⟨gb101,1,none⟩ = some (.string a0_1) := (qw BK101.out 1).trans rfl;have hcz15_2 : w13.cell? ⟨gb101,2,none⟩ = some (.string a0_2) := (qw BK101.out 2).trans rfl;have hcz15_3 : w13.cell? ⟨gb101,3,none⟩ = some (.slice A0_3 l0_3.length c0_3) := (qw BK101.out 3).trans rfl;have hcz15_4 : w13.cell? ⟨gb101,4,none⟩ = some (.slice A0_4 l0_4.length c0_4) := (qw BK101.out 4).trans rfl;have hfz15_0 := qv BK101.out 0;have hfz15_1 := qv BK101.out 1;have hfz15_2 := qv BK101.out 2;have hfz15_3 := qv BK101.out 3;have hfz15_4 := qv BK101.out 4) | ((with_reducible refine kj (f := 115) rfl ?_);refine goesL_ (some 9) rfl rfl Try.func115 (by kernel_rfl) rfl #[.int .i64 (Int.tmod a0_0 4294967296)] rfl (by (try simp only [List.map_toArray,List.map_cons,List.map_nil]);first | done | rfl | (simp only [List.length_drop,List.length_take];rfl)) ?_;(with_reducible refine (qwx.calls k (Int.tmod a0_0 4294967296) t105 _ A2.out).mono ?_);rintro e w16 ⟨v106,rfl,ho0,hb⟩;refine ⟨_,rfl,?_⟩;have n0_ := qq.mk (Kd.R_elder' (by (with_reducible repeat (first | apply Kd.jq | apply Kd.zx | apply Kd.jz));exact HO104.out) (Kd.R_base ho0) hb);have n1_ := qq.mk (Kd.R_lower (Kd.R_new' ho0 (Kd.R_lt (by (with_reducible repeat (first | apply Kd.jq | apply Kd.zx | apply Kd.jz));exact HO104.out))) (zw (by repeat (first | (with_reducible first | exact HB.out | apply qj | apply qz | apply qk | refine qx ?_ GE101.out) | exact HB.out))));have n2_ := qq.mk (wj (g := gb101) (o := .cells #[.int .i64 a0_0,.string a0_1,.string a0_2,.slice A0_3 l0_3.length c0_3,.slice A0_4 l0_4.length c0_4] 27 (0,0)) (by (with_reducible repeat (first | refine zz ?_ _ | refine zj ?_ | refine zq ?_ _));exact BK101.out) hb);have n3_ := qq.mk (zv (by repeat (first | (with_reducible first | exact HB.out | apply qj | apply qz | apply qk | refine qx ?_ GE101.out) | exact HB.out)) hb);clear HO104;clear BK101;clear HB;have HO104 := n0_;have HO107 := n1_;have BK101 := n2_;have HB := n3_;clear n0_ n1_ n2_ n3_;(try clear hb);(try clear hb2);(try clear hk);(try clear hi);(try clear ho0);obtain ⟨Ao18,co18,eo18⟩ := Kd.R_slice HO107.out;subst eo18) | ((with_reducible refine gate_builtin (b := .append) (xs := #[.tmp 5,.tmp 9]) rfl ?_);at_builtin;refine Kd.R_append_rows (Kd.int .u8) (w0 := w) w.heap.size rfl (.tmp 5) (.tmp 9) 22 5 (.int .u8 0) 1 rfl Try.underlying22 info5 rfl (by decide) (by omega) v103 y102 t105 _ _ _ (fun k_ => some k_ ≠ (.slice Ao18 t105.length co18 : Value).ownBlock) (fun _ => False) rfl rfl ?aO ?aR (fun _ _ h => h) (fun _ h => h.elim) ?aF ?aB ?aS ?aL ?_;(case aR => repeat (first | exact (Kd.R_reads' HO107.out).2.2 | (with_reducible refine Kd.C_alloc ?_ _) | (with_reducible refine Kd.C_drewN ?_ _) | (with_reducible refine Kd.C_drew ?_)));(case aB => exact (by repeat (first | (with_reducible first | exact HB.out | apply qj | apply qz | apply qk | refine qx ?_ GE101.out) | exact HB.out)));(case aF => exact (fun k_ hk => Kd.fresh' (Kd.R_lt (by (with_reducible repeat (first | apply Kd.jq | apply Kd.zx | apply Kd.jz));exact HO107.out)) k_ hk));(case aO => exact (by (with_reducible repeat (first | apply Kd.jq | apply Kd.zx | apply Kd.jz));exact Kd.R_mono HO104.out (fun _ hk => hk.2)));(case aS => exact (zw (by repeat (first | (with_reducible first | exact HB.out | apply qj | apply qz | apply qk | refine qx ?_ GE101.out) | exact HB.out))));(case aL => have := LMc3.out;omega);intro v109 w17 ho hb hg hat;rw [← Ny108.out] at ho;have n0_ := qq.mk (blk_grown (g := gb101) (o := .cells #[.int .i64 a0_0,.string a0_1,.string a0_2,.slice A0_3 l0_3.length c0_3,.slice A0_4 l0_4.length c0_4] 27 (0,0)) (by (with_reducible repeat (first | refine zz ?_ _ | refine zj ?_ | refine zq ?_ _));exact BK101.out) hg (Kd.R_ne HO104.out BK101.out (by decide)));have n1_ := qq.mk (Kd.R_after (ok := (fun _ => True)) (by (with_reducible repeat (first | apply Kd.jq | apply Kd.zx | apply Kd.jz));exact HO107.out) hg hat);have n2_ := qq.mk (hb);have n3_ := qq.mk (ho);clear BK101;clear HO107;clear HB;clear HO104;have BK101 := n0_;have HO107 := n1_;have HB := n2_;have HO110 := n3_;clear n0_ n1_ n2_ n3_;clear ho hb hg hat;have hcz19_0 : w17.cell? ⟨gb101,0,none⟩ = some (.int .i64 a0_0) := (qw BK101.out 0).trans rfl;have hcz19_1 : w17.cell? ⟨gb101,1,none⟩ = some (.string a0_1) := (qw BK101.out 1).trans rfl;have hcz19_2 : w17.cell? ⟨gb101,2,none⟩ = some (.string a0_2) := (qw BK101.out 2).trans rfl;have hcz19_3 : w17.cell? ⟨gb101,3,none⟩ = some (.slice A0_3 l0_3.length c0_3) := (qw BK101.out 3).trans rfl;have hcz19_4 : w17.cell? ⟨gb101,4,none⟩ = some (.slice A0_4 l0_4.length c0_4) := (qw BK101.out 4).trans rfl;have hfz19_0 := qv BK101.out 0;have hfz19_1 := qv BK101.out 1;have hfz19_2 := qv BK101.out 2;have hfz19_3 := qv BK101.out 3;have hfz19_4 := qv BK101.out 4) | ((with_reducible refine kj (f := 115) rfl ?_);refine goesL_ (some 15) rfl rfl Try.func115 (by kernel_rfl) rfl #[.int .i64 (wrap64 (Int.tdiv a0_0 4294967296))] rfl (by (try simp only [List.map_toArray,List.map_cons,List.map_nil]);first | done | rfl | (simp only [List.length_drop,List.length_take];rfl)) ?_;(with_reducible refine (qwx.calls k (wrap64 (Int.tdiv a0_0 4294967296)) t111 _ A4.out).mono ?_);rintro e w20 ⟨v112,rfl,ho0,hb⟩;refine ⟨_,rfl,?_⟩;have n0_ := qq.mk (Kd.R_elder' (by (with_reducible repeat (first | apply Kd.jq | apply Kd.zx | apply Kd.jz));exact HO107.out) (Kd.R_base ho0) hb);have n1_ := qq.mk (Kd.R_elder' (by (with_reducible repeat (first | apply Kd.jq | apply Kd.zx | apply Kd.jz));exact HO110.out) (Kd.R_base ho0) hb);have n2_ := qq.mk (Kd.R_lower (Kd.R_new' (Kd.R_new' ho0 (Kd.R_lt (by (with_reducible repeat (first | apply Kd.jq | apply Kd.zx | apply Kd.jz));exact HO107.out))) (Kd.R_lt (by (with_reducible repeat (first | apply Kd.jq | apply Kd.zx | apply Kd.jz));exact HO110.out))) (zw (by repeat (first | (with_reducible first | exact HB.out | apply qj | apply qz | apply qk | refine qx ?_ GE101.out) | exact HB.out))));have n3_ := qq.mk (wj (g := gb101) (o := .cells #[.int .i64 a0_0,.string a0_1,.string a0_2,.slice A0_3 l0_3.length c0_3,.slice A0_4 l0_4.length c0_4] 27 (0,0)) (by (with_reducible repeat (first | refine zz ?_ _ | refine zj ?_ | refine zq ?_ _));exact BK101.out) hb);have n4_ := qq.mk (zv (by repeat (first | (with_reducible first | exact HB.out | apply qj | apply qz | apply qk | refine qx ?_ GE101.out) | exact HB.out)) hb);clear HO107;clear HO110;clear BK101;clear HB;have HO107 := n0_;have HO110 := n1_;have HO113 := n2_;have BK101 := n3_;have HB := n4_;clear n0_ n1_ n2_ n3_ n4_;(try clear hb);(try clear hb2);(try clear hk);(try clear hi);(try clear ho0);obtain ⟨Ao22,co22,eo22⟩ := Kd.R_slice HO113.out;subst eo22) | ((with_reducible refine gate_builtin (b := .append) (xs := #[.tmp 11,.tmp 15]) rfl ?_);at_builtin;refine Kd.R_append_rows (Kd.int .u8) (w0 := w) w.heap.size rfl (.tmp 11) (.tmp 15) 22 5 (.int .u8 0) 1 rfl Try.underlying22 info5 rfl (by decide) (by omega) v109 y108 t111 _ _ _ (fun k_ => some k_ ≠ (.slice Ao18 t105.length co18 : Value).ownBlock ∧ some k_ ≠ (.slice Ao22 t111.length co22 : Value).ownBlock) (fun _ => False) rfl rfl ?aO ?aR (fun _ _ h => h) (fun _ h => h.elim) ?aF ?aB ?aS ?aL ?_;(case aR => repeat (first | exact (Kd.R_reads' HO113.out).2.2 | (with_reducible refine Kd.C_alloc ?_ _) | (with_reducible refine Kd.C_drewN ?_ _) | (with_reducible refine Kd.C_drew ?_)));(case aB => exact (by repeat (first | (with_reducible first | exact HB.out | apply qj | apply qz | apply qk | refine qx ?_ GE101.out) | exact HB.out)));(case aF => exact (fun k_ hk => ⟨Kd.fresh' (Kd.R_lt (by (with_reducible repeat (first | apply Kd.jq | apply Kd.zx | apply Kd.jz));exact HO107.out)) k_ hk,Kd.fresh' (Kd.R_lt (by (with_reducible repeat (first | apply Kd.jq | apply Kd.zx | apply Kd.jz));exact HO113.out)) k_ hk⟩));(case aO => exact (by (with_reducible repeat (first | apply Kd.jq | apply Kd.zx | apply Kd.jz));exact HO110.out));(case aS => exact (zw (by repeat (first | (with_reducible first | exact HB.out | apply qj | apply qz | apply qk | refine qx ?_ GE101.out) | exact HB.out))));(case aL => have := LMc5.out;omega);intro v115 w21 ho hb hg hat;rw [← Ny114.out] at ho;have n0_ := qq.mk (blk_grown (g := gb101) (o := .cells #[.int .i64 a0_0,.string a0_1,.string a0_2,.slice A0_3 l0_3.length c0_3,.slice A0_4 l0_4.length c0_4] 27 (0,0)) (by (with_reducible repeat (first | refine zz ?_ _ | refine zj ?_ | refine zq ?_ _));exact BK101.out) hg (Kd.R_ne HO110.out BK101.out (by decide)));have n1_ := qq.mk (Kd.R_after (ok := (fun k_ => some k_ ≠ (.slice Ao22 t111.length co22 : Value).ownBlock)) (by (with_reducible repeat (first | apply Kd.jq | apply Kd.zx | apply Kd.jz));exact Kd.R_mono HO107.out (fun _ hk => ⟨hk.2,hk.1.2⟩)) hg hat);have n2_ := qq.mk (Kd.R_after (ok := (fun k_ => some k_ ≠ (.slice Ao18 t105.length co18 : Value).ownBlock)) (by (with_reducible repeat (first | apply Kd.jq | apply Kd.zx | apply Kd.jz));exact Kd.R_mono HO113.out (fun _ hk => ⟨hk.1.2,hk.2⟩)) hg hat);have n3_ := qq.mk (hb);have n4_ := qq.mk (ho);clear BK101;clear HO107;clear HO113;clear HB;clear HO110;have BK101 := n0_;have HO107 := n1_;have HO113 := n2_;have HB := n3_;have HO116 := n4_;clear n0_ n1_ n2_ n3_ n4_;clear ho hb hg hat;have hcz23_0 : w21.cell? ⟨gb101,0,none⟩ = some (.int .i64 a0_0) := (qw BK101.out 0).trans rfl;have hcz23_1 : w21.cell? ⟨gb101,1,none⟩ = some (.string a0_1) := (qw BK101.out 1).trans rfl;have hcz23_2 : w21.cell? ⟨gb101,2,none⟩ = some (.string a0_2) := (qw BK101.out 2).trans rfl;have hcz23_3 : w21.cell? ⟨gb101,3,none⟩ = some (.slice A0_3 l0_3.length c0_3) := (qw BK101.out 3).trans rfl;have hcz23_4 : w21.cell? ⟨gb101,4,none⟩ = some (.slice A0_4 l0_4.length c0_4) := (qw BK101.out 4).trans rfl;have hfz23_0 := qv BK101.out 0;have hfz23_1 := qv BK101.out 1;have hfz23_2 := qv BK101.out 2;have hfz23_3 := qv BK101.out 3;have hfz23_4 := qv BK101.out 4) | ((with_reducible refine gate_convert (src := 9) (dst := 22) rfl ?_);refine bytesGoesL_ (some 20) rfl rfl (s := a0_1) rfl rfl ?_;(with_reducible refine (bytesOfS.calls a0_1 t117 _ A6.out).mono ?_);rintro e w24 ⟨v118,rfl,ho0,hb⟩;refine ⟨_,rfl,?_⟩;have n0_ := qq.mk (Kd.R_below (by (with_reducible repeat (first | apply Kd.jq | apply Kd.zx | apply Kd.jz));exact HO107.out) hb);have n1_ := qq.mk (Kd.R_below (by (with_reducible repeat (first | apply Kd.jq | apply Kd.zx | apply Kd.jz));exact HO113.out) hb);have n2_ := qq.mk (Kd.R_below (by (with_reducible repeat (first | apply Kd.jq | apply Kd.zx | apply Kd.jz));exact HO116.out) hb);have n3_ := qq.mk (Kd.V_lower (Kd.V_mono (ok' := fun k_ => some k_ ≠ (.slice Ao18 t105.length co18 : Value).ownBlock ∧ some k_ ≠ (.slice Ao22 t111.length co22 : Value).ownBlock ∧ some k_ ≠ (v115 : Value).ownBlock ∧ k_ ≠ gb101) ho0 (fun k_ hk_ => ⟨(Kd.fresh' (Kd.R_lt (by (with_reducible repeat (first | apply Kd.jq | apply Kd.zx | apply Kd.jz));exact HO107.out)) k_ hk_),(Kd.fresh' (Kd.R_lt (by (with_reducible repeat (first | apply Kd.jq | apply Kd.zx | apply Kd.jz));exact HO113.out)) k_ hk_),(Kd.fresh' (Kd.R_lt (by (with_reducible repeat (first | apply Kd.jq | apply Kd.zx | apply Kd.jz));exact HO116.out)) k_ hk_),(Kd.freshB (g := gb101) (o := .cells #[.int .i64 a0_0,.string a0_1,.string a0_2,.slice A0_3 l0_3.length c0_3,.slice A0_4 l0_4.length c0_4] 27 (0,0)) (by (with_reducible repeat (first | refine zz ?_ _ | refine zj ?_ | refine zq ?_ _));exact BK101.out) k_ hk_)⟩)) (zw (by repeat (first | (with_reducible first | exact HB.out | apply qj | apply qz | apply qk | refine qx ?_ GE101.out) | exact HB.out))));have n4_ := qq.mk (wj (g := gb101) (o := .cells #[.int .i64 a0_0,.string a0_1,.string a0_2,.slice A0_3 l0_3.length c0_3,.slice A0_4 l0_4.length c0_4] 27 (0,0)) (by (with_reducible repeat (first | refine zz ?_ _ | refine zj ?_ | refine zq ?_ _));exact BK101.out) hb);have n5_ := qq.mk (zv (by repeat (first | (with_reducible first | exact HB.out | apply qj | apply qz | apply qk | refine qx ?_ GE101.out) | exact HB.out)) hb);clear HO107;clear HO113;clear HO116;clear BK101;clear HB;have HO107 := n0_;have HO113 := n1_;have HO116 := n2_;have HO119 := n3_;have BK101 := n4_;have HB := n5_;clear n0_ n1_ n2_ n3_ n4_ n5_;(try clear hb);(try clear hb2);(try clear hk);(try clear hi);(try clear ho0);obtain ⟨Ao25,co25,eo25⟩ := Kd.V_slice HO119.out;subst eo25) | ((with_reducible refine kj (f := 116) rfl ?_);refine goesL_ (some 21) rfl rfl Try.func116 (by kernel_rfl) rfl #[.slice Ao25 t117.length co25] rfl (by (try simp only [List.map_toArray,List.map_cons,List.map_nil]);first | done | rfl | (simp only [List.length_drop,List.length_take];rfl)) ?_;(with_reducible refine (qxq.calls k _ _ t117 t120 _ ?side1 ?side2 A7.out).mono ?_);(case side1 => repeat (first | exact (Kd.V_reads' HO119.out).2.2 | (with_reducible refine Kd.C_alloc ?_ _) | (with_reducible refine Kd.C_drewN ?_ _) | (with_reducible refine Kd.C_drew ?_)));(case side2 => exact (Kd.V_reads' HO119.out).2.1);rintro e w26 ⟨v121,rfl,ho0,hb⟩;refine ⟨_,rfl,?_⟩;have n0_ := qq.mk (Kd.R_elder' (by (with_reducible repeat (first | apply Kd.jq | apply Kd.zx | apply Kd.jz));exact HO107.out) (Kd.R_base ho0) hb);have n1_ := qq.mk (Kd.R_elder' (by (with_reducible repeat (first | apply Kd.jq | apply Kd.zx | apply Kd.jz));exact HO113.out) (Kd.R_base ho0) hb);have n2_ := qq.mk (Kd.R_elder' (by (with_reducible repeat (first | apply Kd.jq | apply Kd.zx | apply Kd.jz));exact HO116.out) (Kd.R_base ho0) hb);have n3_ := qq.mk (Kd.V_elder' (by (with_reducible repeat (first | apply Kd.wq | apply Kd.vx | apply Kd.wz));exact HO119.out) (Kd.R_base ho0) hb);have n4_ := qq.mk (Kd.R_lower (Kd.R_new' (Kd.R_new' (Kd.R_new' ho0 (Kd.R_lt (by (with_reducible repeat (first | apply Kd.jq | apply Kd.zx | apply Kd.jz));exact HO107.out))) (Kd.R_lt (by (with_reducible repeat (first | apply Kd.jq | apply Kd.zx | apply Kd.jz));exact HO113.out))) (Kd.R_lt (by (with_reducible repeat (first | apply Kd.jq | apply Kd.zx | apply Kd.jz));exact HO116.out))) (zw (by repeat (first | (with_reducible first | exact HB.out | apply qj | apply qz | apply qk | refine qx ?_ GE101.out) | exact HB.out))));have n5_ := qq.mk (wj (g := gb101) (o := .cells #[.int .i64 a0_0,.string a0_1,.string a0_2,.slice A0_3 l0_3.length c0_3,.slice A0_4 l0_4.length c0_4] 27 (0,0)) (by (with_reducible repeat (first | refine zz ?_ _ | refine zj ?_ | refine zq ?_ _));exact BK101.out) hb);have n6_ := qq.mk (zv (by repeat (first | (with_reducible first | exact HB.out | apply qj | apply qz | apply qk | refine qx ?_ GE101.out) | exact HB.out)) hb);clear HO107;clear HO113;clear HO116;clear HO119;clear BK101;clear HB;have HO107 := n0_;have HO113 := n1_;have HO116 := n2_;have HO119 := n3_;have HO122 := n4_;have BK101 := n5_;have HB := n6_;clear n0_ n1_ n2_ n3_ n4_ n5_ n6_;(try clear hb);(try clear hb2);(try clear hk);(try clear hi);(try clear ho0);obtain ⟨Ao28,co28,eo28⟩ := Kd.R_slice HO122.out;subst eo28) | ((with_reducible refine gate_builtin (b := .append) (xs := #[.tmp 17,.tmp 21]) rfl ?_);at_builtin;refine Kd.R_append_rows (Kd.int .u8) (w0 := w) w.heap.size rfl (.tmp 17) (.tmp 21) 22 5 (.int .u8 0) 1 rfl Try.underlying22 info5 rfl (by decide) (by omega) v115 y114 t120 _ _ _ (fun k_ => some k_ ≠ (.slice Ao18 t105.length co18 : Value).ownBlock ∧ some k_ ≠ (.slice Ao22 t111.length co22 : Value).ownBlock ∧ some k_ ≠ (.slice Ao28 t120.length co28 : Value).ownBlock) (fun _ => False) rfl rfl ?aO ?aR (fun _ _ h => h) (fun _ h => h.elim) ?aF ?aB ?aS ?aL ?_;(case aR => repeat (first | exact (Kd.R_reads' HO122.out).2.2 | (with_reducible refine Kd.C_alloc ?_ _) | (with_reducible refine Kd.C_drewN ?_ _) | (with_reducible refine Kd.C_drew ?_)));(case aB => exact (by repeat (first | (with_reducible first | exact HB.out | apply qj | apply qz | apply qk | refine qx ?_ GE101.out) | exact HB.out)));(case aF => exact (fun k_ hk => ⟨Kd.fresh' (Kd.R_lt (by (with_reducible repeat (first | apply Kd.jq | apply Kd.zx | apply Kd.jz));exact HO107.out)) k_ hk,Kd.fresh' (Kd.R_lt (by (with_reducible repeat (first | apply Kd.jq | apply Kd.zx | apply Kd.jz));exact HO113.out)) k_ hk,Kd.fresh' (Kd.R_lt (by (with_reducible repeat (first | apply Kd.jq | apply Kd.zx | apply Kd.jz));exact HO122.out)) k_ hk⟩));(case aO => exact (by (with_reducible repeat (first | apply Kd.jq | apply Kd.zx | apply Kd.jz));exact Kd.R_mono HO116.out (fun _ hk => ⟨hk.1.1,⟨hk.1.2,hk.2⟩⟩)));(case aS => exact (zw (by repeat (first | (with_reducible first | exact HB.out | apply qj | apply qz | apply qk | refine qx ?_ GE101.out) | exact HB.out))));(case aL => have := LMc8.out;omega);intro v124 w27 ho hb hg hat;rw [← Ny123.out] at ho;have n0_ := qq.mk (blk_grown (g := gb101) (o := .cells #[.int .i64 a0_0,.string a0_1,.string a0_2,.slice A0_3 l0_3.length c0_3,.slice A0_4 l0_4.length c0_4] 27 (0,0)) (by (with_reducible repeat (first | refine zz ?_ _ | refine zj ?_ | refine zq ?_ _));exact BK101.out) hg (Kd.R_ne HO116.out BK101.out (by decide)));have n1_ := qq.mk (Kd.R_after (ok := (fun k_ => some k_ ≠ (.slice Ao22 t111.length co22 : Value).ownBlock ∧ some k_ ≠ (.slice Ao28 t120.length co28 : Value).ownBlock)) (by (with_reducible repeat (first | apply Kd.jq | apply Kd.zx | apply Kd.jz));exact Kd.R_mono HO107.out (fun _ hk => ⟨⟨hk.1.1,hk.2⟩,hk.1.2⟩)) hg hat);have n2_ := qq.mk (Kd.R_after (ok := (fun k_ => some k_ ≠ (.slice Ao18 t105.length co18 : Value).ownBlock ∧ some k_ ≠ (.slice Ao28 t120.length co28 : Value).ownBlock)) (by (with_reducible repeat (first | apply Kd.jq | apply Kd.zx | apply Kd.jz));exact Kd.R_mono HO113.out (fun _ hk => ⟨⟨hk.1.1,hk.2⟩,hk.1.2⟩)) hg hat);have n3_ := qq.mk (Kd.V_afterv (ok := (fun k_ => some k_ ≠ (.slice Ao18 t105.length co18 : Value).ownBlock ∧ some k_ ≠ (.slice Ao22 t111.length co22 : Value).ownBlock ∧ some k_ ≠ (.slice Ao28 t120.length co28 : Value).ownBlock ∧ k_ ≠ gb101)) (by (with_reducible repeat (first | apply Kd.wq | apply Kd.vx | apply Kd.wz));exact Kd.V_mono HO119.out (fun _ hk => ⟨⟨hk.1.1,⟨hk.1.2.1,⟨hk.2,hk.1.2.2.2⟩⟩⟩,hk.1.2.2.1⟩)) hg hat);have n4_ := qq.mk (Kd.R_after (ok := (fun k_ => some k_ ≠ (.slice Ao18 t105.length co18 : Value).ownBlock ∧ some k_ ≠ (.slice Ao22 t111.length co22 : Value).ownBlock)) (by (with_reducible repeat (first | apply Kd.jq | apply Kd.zx | apply Kd.jz));exact Kd.R_mono HO122.out (fun _ hk => ⟨⟨hk.1.1.2,hk.1.2⟩,hk.2⟩)) hg hat);have n5_ := qq.mk (hb);have n6_ := qq.mk (ho);clear BK101;clear HO107;clear HO113;clear HO119;clear HO122;clear HB;clear HO116;have BK101 := n0_;have HO107 := n1_;have HO113 := n2_;have HO119 := n3_;have HO122 := n4_;have HB := n5_;have HO125 := n6_;clear n0_ n1_ n2_ n3_ n4_ n5_ n6_;clear ho hb hg hat;have hcz29_0 : w27.cell? ⟨gb101,0,none⟩ = some (.int .i64 a0_0) := (qw BK101.out 0).trans rfl;have hcz29_1 : w27.cell? ⟨gb101,1,none⟩ = some (.string a0_1) := (qw BK101.out 1).trans rfl;have hcz29_2 : w27.cell? ⟨gb101,2,none⟩ = some (.string a0_2) := (qw BK101.out 2).trans rfl;have hcz29_3 : w27.cell? ⟨gb101,3,none⟩ = some (.slice A0_3 l0_3.length c0_3) := (qw BK101.out 3).trans rfl;have hcz29_4 : w27.cell? ⟨gb101,4,none⟩ = some (.slice A0_4 l0_4.length c0_4) := (qw BK101.out 4).trans rfl;have hfz29_0 := qv BK101.out 0;have hfz29_1 := qv BK101.out 1;have hfz29_2 := qv BK101.out 2;have hfz29_3 := qv BK101.out 3;have hfz29_4 := qv BK101.out 4) | ((with_reducible refine kj (f := 73) rfl ?_);refine goesL_ (some 25) rfl rfl Try.func73 (by kernel_rfl) rfl #[.agg #[.int .i64 a0_0,.string a0_1,.string a0_2,.slice A0_3 l0_3.length c0_3,.slice A0_4 l0_4.length c0_4]] rfl (by (try simp only [List.map_toArray,List.map_cons,List.map_nil]);first | done | rfl | (simp only [List.length_drop,List.length_take];rfl)) ?_;(with_reducible refine (qvw.calls k a0_0 a0_1 a0_2 _ _ l0_3 _ _ l0_4 t126 _ ?side1 ?side2 ?side3 ?side4 A9.out).mono ?_);(case side1 => repeat (first | exact (Kd.C_below HR0_3.out HB.out) | (with_reducible refine Kd.C_alloc ?_ _) | (with_reducible refine Kd.C_drewN ?_ _) | (with_reducible refine Kd.C_drew ?_)));(case side2 => exact HC0_3.out);(case side3 => repeat (first | exact (Kd.C_below HR0_4.out HB.out) | (with_reducible refine Kd.C_alloc ?_ _) | (with_reducible refine Kd.C_drewN ?_ _) | (with_reducible refine Kd.C_drew ?_)));(case side4 => exact HC0_4.out);rintro e w30 ⟨v127,rfl,ho0,hb⟩;refine ⟨_,rfl,?_⟩;have n0_ := qq.mk (Kd.R_elder' (by (with_reducible repeat (first | apply Kd.jq | apply Kd.zx | apply Kd.jz));exact HO107.out) (Kd.R_base ho0) hb);have n1_ := qq.mk (Kd.R_elder' (by (with_reducible repeat (first | apply Kd.jq | apply Kd.zx | apply Kd.jz));exact HO113.out) (Kd.R_base ho0) hb);have n2_ := qq.mk (Kd.V_elder' (by (with_reducible repeat (first | apply Kd.wq | apply Kd.vx | apply Kd.wz));exact HO119.out) (Kd.R_base ho0) hb);have n3_ := qq.mk (Kd.R_elder' (by (with_reducible repeat (first | apply Kd.jq | apply Kd.zx | apply Kd.jz));exact HO122.out) (Kd.R_base ho0) hb);have n4_ := qq.mk (Kd.R_elder' (by (with_reducible repeat (first | apply Kd.jq | apply Kd.zx | apply Kd.jz));exact HO125.out) (Kd.R_base ho0) hb);have n5_ := qq.mk (Kd.R_lower (Kd.R_new' (Kd.R_new' (Kd.R_new' (Kd.R_new' ho0 (Kd.R_lt (by (with_reducible repeat (first | apply Kd.jq | apply Kd.zx | apply Kd.jz));exact HO107.out))) (Kd.R_lt (by (with_reducible repeat (first | apply Kd.jq | apply Kd.zx | apply Kd.jz));exact HO113.out))) (Kd.R_lt (by (with_reducible repeat (first | apply Kd.jq | apply Kd.zx | apply Kd.jz));exact HO122.out))) (Kd.R_lt (by (with_reducible repeat (first | apply Kd.jq | apply Kd.zx | apply Kd.jz));exact HO125.out))) (zw (by repeat (first | (with_reducible first | exact HB.out | apply qj | apply qz | apply qk | refine qx ?_ GE101.out) | exact HB.out))));have n6_ := qq.mk (wj (g := gb101) (o := .cells #[.int .i64 a0_0,.string a0_1,.string a0_2,.slice A0_3 l0_3.length c0_3,.slice A0_4 l0_4.length c0_4] 27 (0,0)) (by (with_reducible repeat (first | refine zz ?_ _ | refine zj ?_ | refine zq ?_ _));exact BK101.out) hb);have n7_ := qq.mk (zv (by repeat (first | (with_reducible first | exact HB.out | apply qj | apply qz | apply qk | refine qx ?_ GE101.out) | exact HB.out)) hb);clear HO107;clear HO113;clear HO119;clear HO122;clear HO125;clear BK101;clear HB;have HO107 := n0_;have HO113 := n1_;have HO119 := n2_;have HO122 := n3_;have HO125 := n4_;have HO128 := n5_;have BK101 := n6_;have HB := n7_;clear n0_ n1_ n2_ n3_ n4_ n5_ n6_ n7_;(try clear hb);(try clear hb2);(try clear hk);(try clear hi);(try clear ho0);obtain ⟨Ao32,co32,eo32⟩ := Kd.R_slice HO128.out;subst eo32) | ((with_reducible refine gate_builtin (b := .append) (xs := #[.tmp 23,.tmp 25]) rfl ?_);at_builtin;refine Kd.R_append_rows (Kd.int .u8) (w0 := w) w.heap.size rfl (.tmp 23) (.tmp 25) 22 5 (.int .u8 0) 1 rfl Try.underlying22 info5 rfl (by decide) (by omega) v124 y123 t126 _ _ _ (fun k_ => some k_ ≠ (.slice Ao18 t105.length co18 : Value).ownBlock ∧ some k_ ≠ (.slice Ao22 t111.length co22 : Value).ownBlock ∧ some k_ ≠ (.slice Ao28 t120.length co28 : Value).ownBlock ∧ some k_ ≠ (.slice Ao32 t126.length co32 : Value).ownBlock) (fun _ => False) rfl rfl ?aO ?aR (fun _ _ h => h) (fun _ h => h.elim) ?aF ?aB ?aS ?aL ?_;(case aR => repeat (first | exact (Kd.R_reads' HO128.out).2.2 | (with_reducible refine Kd.C_alloc ?_ _) | (with_reducible refine Kd.C_drewN ?_ _) | (with_reducible refine Kd.C_drew ?_)));(case aB => exact (by repeat (first | (with_reducible first | exact HB.out | apply qj | apply qz | apply qk | refine qx ?_ GE101.out) | exact HB.out)));(case aF => exact (fun k_ hk => ⟨Kd.fresh' (Kd.R_lt (by (with_reducible repeat (first | apply Kd.jq | apply Kd.zx | apply Kd.jz));exact HO107.out)) k_ hk,Kd.fresh' (Kd.R_lt (by (with_reducible repeat (first | apply Kd.jq | apply Kd.zx | apply Kd.jz));exact HO113.out)) k_ hk,Kd.fresh' (Kd.R_lt (by (with_reducible repeat (first | apply Kd.jq | apply Kd.zx | apply Kd.jz));exact HO122.out)) k_ hk,Kd.fresh' (Kd.R_lt (by (with_reducible repeat (first | apply Kd.jq | apply Kd.zx | apply Kd.jz));exact HO128.out)) k_ hk⟩));(case aO => exact (by (with_reducible repeat (first | apply Kd.jq | apply Kd.zx | apply Kd.jz));exact Kd.R_mono HO125.out (fun _ hk => ⟨hk.1.1,⟨hk.1.2.1,⟨hk.1.2.2,hk.2⟩⟩⟩)));(case aS => exact (zw (by repeat (first | (with_reducible first | exact HB.out | apply qj | apply qz | apply qk | refine qx ?_ GE101.out) | exact HB.out))));(case aL => have := LMc10.out;omega);intro v130 w31 ho hb hg hat;rw [← Ny129.out] at ho;have n0_ := qq.mk (blk_grown (g := gb101) (o := .cells #[.int .i64 a0_0,.string a0_1,.string a0_2,.slice A0_3 l0_3.length c0_3,.slice A0_4 l0_4.length c0_4] 27 (0,0)) (by (with_reducible repeat (first | refine zz ?_ _ | refine zj ?_ | refine zq ?_ _));exact BK101.out) hg (Kd.R_ne HO125.out BK101.out (by decide)));have n1_ := qq.mk (Kd.R_after (ok := (fun k_ => some k_ ≠ (.slice Ao22 t111.length co22 : Value).ownBlock ∧ some k_ ≠ (.slice Ao28 t120.length co28 : Value).ownBlock ∧ some k_ ≠ (.slice Ao32 t126.length co32 : Value).ownBlock)) (by (with_reducible repeat (first | apply Kd.jq | apply Kd.zx | apply Kd.jz));exact Kd.R_mono HO107.out (fun _ hk => ⟨⟨hk.1.1.1,⟨hk.1.1.2,hk.2⟩⟩,hk.1.2⟩)) hg hat);have n2_ := qq.mk (Kd.R_after (ok := (fun k_ => some k_ ≠ (.slice Ao18 t105.length co18 : Value).ownBlock ∧ some k_ ≠ (.slice Ao28 t120.length co28 : Value).ownBlock ∧ some k_ ≠ (.slice Ao32 t126.length co32 : Value).ownBlock)) (by (with_reducible repeat (first | apply Kd.jq | apply Kd.zx | apply Kd.jz));exact Kd.R_mono HO113.out (fun _ hk => ⟨⟨hk.1.1.1,⟨hk.1.1.2,hk.2⟩⟩,hk.1.2⟩)) hg hat);have n3_ := qq.mk (Kd.V_afterv (ok := (fun k_ => some k_ ≠ (.slice Ao18 t105.length co18 : Value).ownBlock ∧ some k_ ≠ (.slice Ao22 t111.length co22 : Value).ownBlock ∧ some k_ ≠ (.slice Ao28 t120.length co28 : Value).ownBlock ∧ some k_ ≠ (.slice Ao32 t126.length co32 : Value).ownBlock ∧ k_ ≠ gb101)) (by (with_reducible repeat (first | apply Kd.wq | apply Kd.vx | apply Kd.wz));exact Kd.V_mono HO119.out (fun _ hk => ⟨⟨hk.1.1.1,⟨hk.1.1.2.1,⟨hk.1.1.2.2.1,⟨hk.2,hk.1.1.2.2.2⟩⟩⟩⟩,hk.1.2⟩)) hg hat);have n4_ := qq.mk (Kd.R_after (ok := (fun k_ => some k_ ≠ (.slice Ao18 t105.length co18 : Value).ownBlock ∧ some k_ ≠ (.slice Ao22 t111.length co22 : Value).ownBlock ∧ some k_ ≠ (.slice Ao32 t126.length co32 : Value).ownBlock)) (by (with_reducible repeat (first | apply Kd.jq | apply Kd.zx | apply Kd.jz));exact Kd.R_mono HO122.out (fun _ hk => ⟨⟨hk.1.1.1,⟨hk.1.1.2,hk.2⟩⟩,hk.1.2⟩)) hg hat);have n5_ := qq.mk (Kd.R_after (ok := (fun k_ => some k_ ≠ (.slice Ao18 t105.length co18 : Value).ownBlock ∧ some k_ ≠ (.slice Ao22 t111.length co22 : Value).ownBlock ∧ some k_ ≠ (.slice Ao28 t120.length co28 : Value).ownBlock)) (by (with_reducible repeat (first | apply Kd.jq | apply Kd.zx | apply Kd.jz));exact Kd.R_mono HO128.out (fun _ hk => ⟨⟨hk.1.1.1.2,⟨hk.1.1.2,hk.1.2⟩⟩,hk.2⟩)) hg hat);have n6_ := qq.mk (hb);have n7_ := qq.mk (ho);clear BK101;clear HO107;clear HO113;clear HO119;clear HO122;clear HO128;clear HB;clear HO125;have BK101 := n0_;have HO107 := n1_;have HO113 := n2_;have HO119 := n3_;have HO122 := n4_;have HO128 := n5_;have HB := n6_;have HO131 := n7_;clear n0_ n1_ n2_ n3_ n4_ n5_ n6_ n7_;clear ho hb hg hat;obtain ⟨Ao33,co33,eo33⟩ := Kd.R_slice HO131.out;subst eo33) | ((with_reducible refine kj (f := 116) rfl ?_);refine goesL_ (some 27) rfl rfl Try.func116 (by kernel_rfl) rfl #[.slice Ao33 y129.length co33] rfl (by (try simp only [List.map_toArray,List.map_cons,List.map_nil]);first | done | rfl | (simp only [List.length_drop,List.length_take];rfl)) ?_;(with_reducible refine (qxq.calls k _ _ y129 t132 _ ?side1 ?side2 A11.out).mono ?_);(case side1 => repeat (first | exact (Kd.R_reads' HO131.out).2.2 | (with_reducible refine Kd.C_alloc ?_ _) | (with_reducible refine Kd.C_drewN ?_ _) | (with_reducible refine Kd.C_drew ?_)));(case side2 => exact (Kd.R_reads' HO131.out).2.1);rintro e w34 ⟨v133,rfl,ho0,hb⟩;refine ⟨_,rfl,?_⟩;have n0_ := qq.mk (Kd.R_elder' (by (with_reducible repeat (first | apply Kd.jq | apply Kd.zx | apply Kd.jz));exact HO107.out) (Kd.R_base ho0) hb);have n1_ := qq.mk (Kd.R_elder' (by (with_reducible repeat (first | apply Kd.jq | apply Kd.zx | apply Kd.jz));exact HO113.out) (Kd.R_base ho0) hb);have n2_ := qq.mk (Kd.V_elder' (by (with_reducible repeat (first | apply Kd.wq | apply Kd.vx | apply Kd.wz));exact HO119.out) (Kd.R_base ho0) hb);have n3_ := qq.mk (Kd.R_elder' (by (with_reducible repeat (first | apply Kd.jq | apply Kd.zx | apply Kd.jz));exact HO122.out) (Kd.R_base ho0) hb);have n4_ := qq.mk (Kd.R_elder' (by (with_reducible repeat (first | apply Kd.jq | apply Kd.zx | apply Kd.jz));exact HO128.out) (Kd.R_base ho0) hb);have n5_ := qq.mk (Kd.R_elder' (by (with_reducible repeat (first | apply Kd.jq | apply Kd.zx | apply Kd.jz));exact HO131.out) (Kd.R_base ho0) hb);have n6_ := qq.mk (Kd.R_lower (Kd.R_new' (Kd.R_new' (Kd.R_new' (Kd.R_new' (Kd.R_new' ho0 (Kd.R_lt (by (with_reducible repeat (first | apply Kd.jq | apply Kd.zx | apply Kd.jz));exact HO107.out))) (Kd.R_lt (by (with_reducible repeat (first | apply Kd.jq | apply Kd.zx | apply Kd.jz));exact HO113.out))) (Kd.R_lt (by (with_reducible repeat (first | apply Kd.jq | apply Kd.zx | apply Kd.jz));exact HO122.out))) (Kd.R_lt (by (with_reducible repeat (first | apply Kd.jq | apply Kd.zx | apply Kd.jz));exact HO128.out))) (Kd.R_lt (by (with_reducible repeat (first | apply Kd.jq | apply Kd.zx | apply Kd.jz));exact HO131.out))) (zw (by repeat (first | (with_reducible first | exact HB.out | apply qj | apply qz | apply qk | refine qx ?_ GE101.out) | exact HB.out))));have n7_ := qq.mk (wj (g := gb101) (o := .cells #[.int .i64 a0_0,.string a0_1,.string a0_2,.slice A0_3 l0_3.length c0_3,.slice A0_4 l0_4.length c0_4] 27 (0,0)) (by (with_reducible repeat (first | refine zz ?_ _ | refine zj ?_ | refine zq ?_ _));exact BK101.out) hb);have n8_ := qq.mk (zv (by repeat (first | (with_reducible first | exact HB.out | apply qj | apply qz | apply qk | refine qx ?_ GE101.out) | exact HB.out)) hb);clear HO107;clear HO113;clear HO119;clear HO122;clear HO128;clear HO131;clear BK101;clear HB;have HO107 := n0_;have HO113 := n1_;have HO119 := n2_;have HO122 := n3_;have HO128 := n4_;have HO131 := n5_;have HO134 := n6_;have BK101 := n7_;have HB := n8_;clear n0_ n1_ n2_ n3_ n4_ n5_ n6_ n7_ n8_;(try clear hb);(try clear hb2);(try clear hk);(try clear hi);(try clear ho0)))
     go_ret
     exact ⟨_,by first | rfl | (simp [*,kz,jx] <;> rfl),by (with_reducible repeat (first | apply Kd.jq | apply Kd.zx | apply Kd.jz));exact Kd.R_mono HO134.out (fun _ hk => trivial),by repeat (first | (with_reducible first | exact HB.out | apply qj | apply qz | apply qk | refine qx ?_ GE101.out) | exact HB.out)⟩
    ·rw [if_neg c10] at H
     exact absurd H (by simp)
   ·rw [if_neg c8] at H
    exact absurd H (by simp)
  ·rw [if_neg c5] at H
   exact absurd H (by simp)
 ·rw [if_neg c3] at H
  exact absurd H (by simp)
def qwz.l0 : Nat → List (List Int) → List (S27) → Int → Int → Option ((List (List Int)) × Bool)
 | 0,_,_,_,_ => none
 | k + 1,x4,x10,x11,x12 => if x12 < x11 then (if 0 ≤ x12 then (if x12 < (x10.length : Int) then ((qjx.f k ((wx x10 x12).f0) ((wx x10 x12).f1) ((wx x10 x12).f2) ((wx x10 x12).f3) ((wx x10 x12).f4)).bind fun t103 => (if t103 = true then ((qwq.f k ((wx x10 x12).f0) ((wx x10 x12).f1) ((wx x10 x12).f2) ((wx x10 x12).f3) ((wx x10 x12).f4)).bind fun t104 => (if x4.length < 5864062014805 then (qwz.l0 k (x4 ++ [t104]) x10 x11 (wrap64 (x12 + 1))) else (none))) else (some (([] : List (List Int)),false)))) else (none)) else (none)) else (some (x4,true))
def qwz.f (k : Nat) (l0 : List (S27)) : Option ((List (List Int)) × Bool) := if (l0.length : Int) > 200 then (some (([] : List (List Int)),false)) else (qwz.l0 k ([] : List (List Int)) l0 (l0.length : Int) 0)
set_option maxHeartbeats 8000000 in
set_option maxRecDepth 100000 in
theorem qwz.calls (k : Nat) (A0 : Option Addr) (c0 : Nat) (l0 : List (S27)) (r1 : List (List Int)) (r2 : Bool) (w : World) (hr0 : Kd.C k27 w A0 l0.length l0) (hc0 : l0.length ≤ c0) (h : qwz.f k l0 = some (r1,r2)) :
  Calls Try.prog 80 #[.slice A0 l0.length c0] w fun e w' => ∃ v0_ : Value,e = .returned (.tuple #[v0_,.bool r2]) ∧ Kd.S (Kd.slice 5 (Kd.int .u8)) 22 w' w.heap.size (fun _ => True) v0_ r1 ∧ Below w.heap.size w w' := by
 have hu27 := Try.underlying27
 have HR0 := qq.mk hr0
 have HC0 := qq.mk hc0
 clear hr0 hc0
 have HB := qq.mk (Below.refl w.heap.size w)
 have H : (if (l0.length : Int) > 200 then (some (([] : List (List Int)),false)) else (qwz.l0 k ([] : List (List Int)) l0 (l0.length : Int) 0)) = some (r1,r2) := h
 clear h
 by_cases c2 : (l0.length : Int) > 200
 ·rw [if_pos c2] at H
  have c2b0 : decide (200 < (l0.length : Int)) = true := decide_eq_true c2
  have c2b1 : decide (200 < l0.length) = true := decide_eq_true (by omega)
  clear c2
  simp only [Option.some.injEq,Prod.mk.injEq] at H
  obtain ⟨rfl,rfl⟩ := H
  go_enter Try.func80,Try.ntmps80
  go_wp2
  go_ret2
  exact ⟨_,by first | rfl | (simp [*,kz,jx] <;> rfl),by first | exact Kd.S_nil _ _ _ _ _ | exact Kd.N_nil _ _ _ _ _ | exact Kd.V_nil _ _ _ _ _ | exact Kd.Q_nil _ _ _ _ _ | exact Kd.R_nil _ _ _ _ _,by repeat (first | (with_reducible first | exact HB.out | apply qj | apply qz | apply qk) | exact HB.out)⟩
 ·rw [if_neg c2] at H
  have c2b0 : decide (200 < (l0.length : Int)) = false := decide_eq_false c2
  have c2b1 : decide (200 < l0.length) = false := decide_eq_false (by omega)
  clear c2
  have H' := qq.mk H
  clear H
  go_enter Try.func80,Try.ntmps80
  go_wp2
  go_loopg [4,12] k (fun kq v4 v12 w' => ∃ (x4_1 : List (List Int)) (x12_1 : Int),v12 = .int .i64 x12_1 ∧ qq (qwz.l0 kq x4_1 l0 (l0.length : Int) x12_1 = some (r1,r2)) ∧ qq (kq ≤ k) ∧ qq (Kd.S (Kd.slice 5 (Kd.int .u8)) 22 w' w.heap.size (fun _ => True) v4 x4_1) ∧ qq (Below w.heap.size w w'))
  case atStart => exact ⟨(([] : List (List Int))),(0),(by first | rfl | (simp;done) | (simp [*];done)),H',⟨Nat.le_refl _⟩,⟨by first | exact Kd.S_nil _ _ _ _ _ | exact Kd.N_nil _ _ _ _ _ | exact Kd.V_nil _ _ _ _ _ | exact Kd.Q_nil _ _ _ _ _ | exact Kd.R_nil _ _ _ _ _⟩,⟨by repeat (first | (with_reducible first | exact HB.out | apply qj | apply qz | apply qk) | exact HB.out)⟩⟩
  case round =>
   clear H'
   try clear c2
   try clear c2b0
   try clear c2b1
   try clear p2
   obtain ⟨x4_1,x12_1,rfl,HA,HK1,HO_4,HB⟩ := hrel
   cases gk with
   | zero => exact absurd HA.out (by simp [qwz.l0])
   | succ k1 =>
    have H := HA.out
    clear HA
    simp only [qwz.l0] at H
    by_cases c3 : x12_1 < (l0.length : Int)
    ·rw [if_pos c3] at H
     have c3b0 : decide (x12_1 < (l0.length : Int)) = true := decide_eq_true c3
     clear c3
     by_cases c4 : 0 ≤ x12_1
     ·rw [if_pos c4] at H
      have c4b0 : decide (0 ≤ x12_1) = true := decide_eq_true c4
      clear c4
      by_cases c5 : x12_1 < (l0.length : Int)
      ·rw [if_pos c5] at H
       have c5b0 : decide (x12_1 < (l0.length : Int)) = true := decide_eq_true c5
       clear c5
       replace H := Option.bind_eq_some_iff.mp H
       obtain ⟨t103,A60,H⟩ := H
       replace H : (if t103 = true then ((qwq.f k1 ((wx l0 x12_1).f0) ((wx l0 x12_1).f1) ((wx l0 x12_1).f2) ((wx l0 x12_1).f3) ((wx l0 x12_1).f4)).bind fun t104 => (if x4_1.length < 5864062014805 then (qwz.l0 k1 (x4_1 ++ [t104]) l0 (l0.length : Int) (wrap64 (x12_1 + 1))) else (none))) else (some (([] : List (List Int)),false))) = some (r1,r2) := H
       have A6 := qq.mk A60
       clear A60
       by_cases c7 : t103 = true
       ·subst c7
        have H1 : ((qwq.f k1 ((wx l0 x12_1).f0) ((wx l0 x12_1).f1) ((wx l0 x12_1).f2) ((wx l0 x12_1).f3) ((wx l0 x12_1).f4)).bind fun t104 => (if x4_1.length < 5864062014805 then (qwz.l0 k1 (x4_1 ++ [t104]) l0 (l0.length : Int) (wrap64 (x12_1 + 1))) else (none))) = some (r1,r2) := by rw [if_pos rfl] at H;exact H
        clear H
        have H := H1
        clear H1
        replace H := Option.bind_eq_some_iff.mp H
        obtain ⟨t104,A80,H⟩ := H
        replace H : (if x4_1.length < 5864062014805 then (qwz.l0 k1 (x4_1 ++ [t104]) l0 (l0.length : Int) (wrap64 (x12_1 + 1))) else (none)) = some (r1,r2) := H
        have A8 := qq.mk A80
        clear A80
        by_cases c9 : x4_1.length < 5864062014805
        ·rw [if_pos c9] at H
         have LMc9 := qq.mk c9
         clear c9
         obtain ⟨y107,hy107⟩ : ∃ y_ : List (List Int),y_ = (x4_1 ++ [t104]) := ⟨_,rfl⟩
         replace H : (qwz.l0 k1 y107 l0 (l0.length : Int) (wrap64 (x12_1 + 1))) = some (r1,r2) := by first | (rw [hy107];with_reducible exact H) | (have H2_ := (Option.bind_some _ _).symm.trans H;rw [hy107];with_reducible exact H2_) | (have H2_ := (Option.bind_some _ _).symm.trans H;with_reducible exact H2_) | with_reducible exact H | (rw [hy107];exact H) | exact H
         have Ny107 := qq.mk hy107
         clear hy107
         have H' := qq.mk H
         clear H
         have p101 : 0 ≤ (x12_1 : Int) := of_decide_eq_true (by assumption)
         have q101 : x12_1 < (l0.length : Int) := of_decide_eq_true (by assumption)
         obtain ⟨ad101,A101_3,c101_3,A101_4,c101_4,e101,hx101_0,hx101_1,hx101_2,hx101_3,hx101_4,hl101_3,hi101_3,hl101_4,hi101_4⟩ := at_T27 HR0.out x12_1 p101 q101
         cases e101
         replace hx101_0 := (HB.out.cell (World.block_lt_of_cell? w _ hx101_0)).trans hx101_0
         replace hx101_1 := (HB.out.cell (World.block_lt_of_cell? w _ hx101_1)).trans hx101_1
         replace hx101_2 := (HB.out.cell (World.block_lt_of_cell? w _ hx101_2)).trans hx101_2
         replace hx101_3 := (HB.out.cell (World.block_lt_of_cell? w _ hx101_3)).trans hx101_3
         replace hx101_4 := (HB.out.cell (World.block_lt_of_cell? w _ hx101_4)).trans hx101_4
         have HR101_3 := qq.mk hi101_3
         have HC101_3 := qq.mk hl101_3
         clear hi101_3 hl101_3
         have HR101_4 := qq.mk hi101_4
         have HC101_4 := qq.mk hl101_4
         clear hi101_4 hl101_4
         replace p101 := eq_true p101
         replace q101 := eq_true q101
         go_wp2_with (first | ((with_reducible refine gate_dst (N := 6) rfl ?_);refine box_event ?hg (N := 6) ?hd (cs := #[.int .i64 0,.string (⟨#[]⟩ : ByteArray),.string (⟨#[]⟩ : ByteArray),.slice none 0 0,.slice none 0 0]) (t := 27) ?hr ?_;(case hd => rfl);(case hg => rfl);(case hr => first | (go_simp;done) | (go_simp;rfl));intro gb102 hg w10 hbox hb;have n0_ := qq.mk (Kd.S_below (by (with_reducible repeat (first | apply Kd.vv | apply Kd.vk | apply Kd.vw));exact HO_4.out) hb);have n1_ := qq.mk (zv (by repeat (first | (with_reducible first | exact HB.out | apply qj | apply qz | apply qk) | exact HB.out)) hb);have n2_ := qq.mk (hbox);have n3_ := qq.mk ((by rw [hg];exact (zw (by repeat (first | (with_reducible first | exact HB.out | apply qj | apply qz | apply qk) | exact HB.out))) : w.heap.size ≤ gb102));have n4_ := qq.mk ((by rw [hg];exact (zw (by repeat (first | (with_reducible first | exact HB.out | apply qj | apply qz | apply qk) | exact HB.out))) : w.heap.size ≤ gb102));clear HO_4;clear HB;have HO_4 := n0_;have HB := n1_;have BK102 := n2_;have GW102 := n3_;have GE102 := n4_;clear n0_ n1_ n2_ n3_ n4_;clear hb hbox hg;have hcz11_0 : w10.cell? ⟨gb102,0,none⟩ = some (.int .i64 0) := (qw BK102.out 0).trans rfl;have hcz11_1 : w10.cell? ⟨gb102,1,none⟩ = some (.string (⟨#[]⟩ : ByteArray)) := (qw BK102.out 1).trans rfl;have hcz11_2 : w10.cell? ⟨gb102,2,none⟩ = some (.string (⟨#[]⟩ : ByteArray)) := (qw BK102.out 2).trans rfl;have hcz11_3 : w10.cell? ⟨gb102,3,none⟩ = some (.slice none 0 0) := (qw BK102.out 3).trans rfl;have hcz11_4 : w10.cell? ⟨gb102,4,none⟩ = some (.slice none 0 0) := (qw BK102.out 4).trans rfl;have hfz11_0 := qv BK102.out 0;have hfz11_1 := qv BK102.out 1;have hfz11_2 := qv BK102.out 2;have hfz11_3 := qv BK102.out 3;have hfz11_4 := qv BK102.out 4) | ((with_reducible refine kj (f := 18) rfl ?_);refine goesL_ (some 17) rfl rfl Try.func18 (by kernel_rfl) rfl #[.agg #[.int .i64 ((wx l0 x12_1).f0),.string ((wx l0 x12_1).f1),.string ((wx l0 x12_1).f2),.slice A101_3 ((wx l0 x12_1).f3).length c101_3,.slice A101_4 ((wx l0 x12_1).f4).length c101_4]] rfl (by (try simp only [List.map_toArray,List.map_cons,List.map_nil]);first | done | rfl | (simp only [List.length_drop,List.length_take];rfl)) ?_;(with_reducible refine (qjx.calls k1 ((wx l0 x12_1).f0) ((wx l0 x12_1).f1) ((wx l0 x12_1).f2) _ _ ((wx l0 x12_1).f3) _ _ ((wx l0 x12_1).f4) true _ ?side1 ?side2 ?side3 ?side4 A6.out).mono ?_);(case side1 => exact Kd.C_below HR101_3.out (by repeat (first | (with_reducible first | exact HB.out | apply qj | apply qz | apply qk | refine qx ?_ GE102.out) | exact HB.out)));(case side2 => exact HC101_3.out);(case side3 => exact Kd.C_below HR101_4.out (by repeat (first | (with_reducible first | exact HB.out | apply qj | apply qz | apply qk | refine qx ?_ GE102.out) | exact HB.out)));(case side4 => exact HC101_4.out);rintro e w12 ⟨rfl,hb⟩;refine ⟨_,rfl,?_⟩;have n0_ := qq.mk (Kd.S_below (by (with_reducible repeat (first | apply Kd.vv | apply Kd.vk | apply Kd.vw));exact (Kd.S_mono (Kd.S_far (p := ⟨gb102,4,none⟩) (Kd.S_far (p := ⟨gb102,3,none⟩) (Kd.S_far (p := ⟨gb102,2,none⟩) (Kd.S_far (p := ⟨gb102,1,none⟩) (Kd.S_far (p := ⟨gb102,0,none⟩) (Kd.S_types HO_4.out BK102.out (by decide)) (fun _ hk => hk.2) (.int .i64 ((wx l0 x12_1).f0))) (fun _ hk => hk.2) (.string ((wx l0 x12_1).f1))) (fun _ hk => hk.2) (.string ((wx l0 x12_1).f2))) (fun _ hk => hk.2) (.slice A101_3 ((wx l0 x12_1).f3).length c101_3)) (fun _ hk => hk.2) (.slice A101_4 ((wx l0 x12_1).f4).length c101_4)) (fun _ h_ => h_.1))) hb);have n1_ := qq.mk (wj (g := gb102) (o := .cells #[.int .i64 ((wx l0 x12_1).f0),.string ((wx l0 x12_1).f1),.string ((wx l0 x12_1).f2),.slice A101_3 ((wx l0 x12_1).f3).length c101_3,.slice A101_4 ((wx l0 x12_1).f4).length c101_4] 27 (0,0)) (by (with_reducible repeat (first | refine zz ?_ _ | refine zj ?_ | refine zq ?_ _));refine blk_put (cs := #[.int .i64 ((wx l0 x12_1).f0),.string ((wx l0 x12_1).f1),.string ((wx l0 x12_1).f2),.slice A101_3 ((wx l0 x12_1).f3).length c101_3,.slice none 0 0]) ?_ 4 _ rfl;(with_reducible repeat (first | refine zz ?_ _ | refine zj ?_ | refine zq ?_ _));refine blk_put (cs := #[.int .i64 ((wx l0 x12_1).f0),.string ((wx l0 x12_1).f1),.string ((wx l0 x12_1).f2),.slice none 0 0,.slice none 0 0]) ?_ 3 _ rfl;(with_reducible repeat (first | refine zz ?_ _ | refine zj ?_ | refine zq ?_ _));refine blk_put (cs := #[.int .i64 ((wx l0 x12_1).f0),.string ((wx l0 x12_1).f1),.string (⟨#[]⟩ : ByteArray),.slice none 0 0,.slice none 0 0]) ?_ 2 _ rfl;(with_reducible repeat (first | refine zz ?_ _ | refine zj ?_ | refine zq ?_ _));refine blk_put (cs := #[.int .i64 ((wx l0 x12_1).f0),.string (⟨#[]⟩ : ByteArray),.string (⟨#[]⟩ : ByteArray),.slice none 0 0,.slice none 0 0]) ?_ 1 _ rfl;(with_reducible repeat (first | refine zz ?_ _ | refine zj ?_ | refine zq ?_ _));refine blk_put (cs := #[.int .i64 0,.string (⟨#[]⟩ : ByteArray),.string (⟨#[]⟩ : ByteArray),.slice none 0 0,.slice none 0 0]) ?_ 0 _ rfl;(with_reducible repeat (first | refine zz ?_ _ | refine zj ?_ | refine zq ?_ _));exact BK102.out) hb);have n2_ := qq.mk (zv (by repeat (first | (with_reducible first | exact HB.out | apply qj | apply qz | apply qk | refine qx ?_ GE102.out) | exact HB.out)) hb);clear HO_4;clear BK102;clear HB;have HO_4 := n0_;have BK102 := n1_;have HB := n2_;clear n0_ n1_ n2_;(try clear hb);(try clear hb2);(try clear hk);(try clear hi);have hcz13_0 : w12.cell? ⟨gb102,0,none⟩ = some (.int .i64 ((wx l0 x12_1).f0)) := (qw BK102.out 0).trans rfl;have hcz13_1 : w12.cell? ⟨gb102,1,none⟩ = some (.string ((wx l0 x12_1).f1)) := (qw BK102.out 1).trans rfl;have hcz13_2 : w12.cell? ⟨gb102,2,none⟩ = some (.string ((wx l0 x12_1).f2)) := (qw BK102.out 2).trans rfl;have hcz13_3 : w12.cell? ⟨gb102,3,none⟩ = some (.slice A101_3 ((wx l0 x12_1).f3).length c101_3) := (qw BK102.out 3).trans rfl;have hcz13_4 : w12.cell? ⟨gb102,4,none⟩ = some (.slice A101_4 ((wx l0 x12_1).f4).length c101_4) := (qw BK102.out 4).trans rfl;have hfz13_0 := qv BK102.out 0;have hfz13_1 := qv BK102.out 1;have hfz13_2 := qv BK102.out 2;have hfz13_3 := qv BK102.out 3;have hfz13_4 := qv BK102.out 4) | ((with_reducible refine kj (f := 76) rfl ?_);refine goesL_ (some 21) rfl rfl Try.func76 (by kernel_rfl) rfl #[.agg #[.int .i64 ((wx l0 x12_1).f0),.string ((wx l0 x12_1).f1),.string ((wx l0 x12_1).f2),.slice A101_3 ((wx l0 x12_1).f3).length c101_3,.slice A101_4 ((wx l0 x12_1).f4).length c101_4]] rfl (by (try simp only [List.map_toArray,List.map_cons,List.map_nil]);first | done | rfl | (simp only [List.length_drop,List.length_take];rfl)) ?_;(with_reducible refine (qwq.calls k1 ((wx l0 x12_1).f0) ((wx l0 x12_1).f1) ((wx l0 x12_1).f2) _ _ ((wx l0 x12_1).f3) _ _ ((wx l0 x12_1).f4) t104 _ ?side1 ?side2 ?side3 ?side4 A8.out).mono ?_);(case side1 => repeat (first | exact (Kd.C_below HR101_3.out HB.out) | (with_reducible refine Kd.C_alloc ?_ _) | (with_reducible refine Kd.C_drewN ?_ _) | (with_reducible refine Kd.C_drew ?_)));(case side2 => exact HC101_3.out);(case side3 => repeat (first | exact (Kd.C_below HR101_4.out HB.out) | (with_reducible refine Kd.C_alloc ?_ _) | (with_reducible refine Kd.C_drewN ?_ _) | (with_reducible refine Kd.C_drew ?_)));(case side4 => exact HC101_4.out);rintro e w14 ⟨v105,rfl,ho0,hb⟩;refine ⟨_,rfl,?_⟩;have n0_ := qq.mk (Kd.S_elder' (by (with_reducible repeat (first | apply Kd.vv | apply Kd.vk | apply Kd.vw));exact HO_4.out) (Kd.R_base ho0) hb);have n1_ := qq.mk (Kd.R_lower ho0 (zw (by repeat (first | (with_reducible first | exact HB.out | apply qj | apply qz | apply qk | refine qx ?_ GE102.out) | exact HB.out))));have n2_ := qq.mk (wj (g := gb102) (o := .cells #[.int .i64 ((wx l0 x12_1).f0),.string ((wx l0 x12_1).f1),.string ((wx l0 x12_1).f2),.slice A101_3 ((wx l0 x12_1).f3).length c101_3,.slice A101_4 ((wx l0 x12_1).f4).length c101_4] 27 (0,0)) (by (with_reducible repeat (first | refine zz ?_ _ | refine zj ?_ | refine zq ?_ _));exact BK102.out) hb);have n3_ := qq.mk (zv (by repeat (first | (with_reducible first | exact HB.out | apply qj | apply qz | apply qk | refine qx ?_ GE102.out) | exact HB.out)) hb);clear HO_4;clear BK102;clear HB;have HO_4 := n0_;have HO106 := n1_;have BK102 := n2_;have HB := n3_;clear n0_ n1_ n2_ n3_;(try clear hb);(try clear hb2);(try clear hk);(try clear hi);(try clear ho0);obtain ⟨Ao16,co16,eo16⟩ := Kd.R_slice HO106.out;subst eo16) | ((with_reducible refine gate_builtin (b := .append) (xs := #[.tmp 19,.tmp 22]) rfl ?_);at_builtin;refine Kd.S_append (Kd.slice 5 (Kd.int .u8)) (w0 := w) w.heap.size rfl (.tmp 19) (.tmp 22) 44 22 (.slice none 0 0) 24 rfl Try.underlying44 info22 rfl (by decide) (by omega) u4 x4_1 t104 [.slice Ao16 t104.length co16] (fun _ => True) (fun k_ => some k_ = (.slice Ao16 t104.length co16 : Value).ownBlock) rfl rfl ?aP (fun k_ hk_ => ((Kd.R_mono (ok' := fun k_ => ((fun _ => True)) k_ ∧ some k_ ≠ (u4 : Value).ownBlock) (Kd.R_apart' (HO106.out) (Kd.S_typed HO_4.out) (by decide)) (fun k_ hk => ⟨trivial,hk.2⟩))).1 k_ hk_.symm) ?aF ?aO ?aB ?aS ?aL ?_;(case aP => exact Kd.M_row (Kd.R_mono (Kd.R_tight rfl (Kd.R_mono (ok' := fun k_ => ((fun _ => True)) k_ ∧ some k_ ≠ (u4 : Value).ownBlock) (Kd.R_apart' (HO106.out) (Kd.S_typed HO_4.out) (by decide)) (fun k_ hk => ⟨trivial,hk.2⟩))) (fun _ h_ => h_)));(case aB => exact (by repeat (first | (with_reducible first | exact HB.out | apply qj | apply qz | apply qk | refine qx ?_ GE102.out) | exact HB.out)));(case aF => exact (fun _ _ => trivial));(case aO => exact (by (with_reducible repeat (first | apply Kd.vv | apply Kd.vk | apply Kd.vw));exact Kd.S_mono HO_4.out (fun k_ hk => ⟨trivial,fun e_ => hk.2 e_⟩)));(case aS => exact (zw (by repeat (first | (with_reducible first | exact HB.out | apply qj | apply qz | apply qk | refine qx ?_ GE102.out) | exact HB.out))));(case aL => have := LMc9.out;omega);intro v108 w15 ho hb hg hat;rw [← Ny107.out] at ho;have n0_ := qq.mk (blk_grown (g := gb102) (o := .cells #[.int .i64 ((wx l0 x12_1).f0),.string ((wx l0 x12_1).f1),.string ((wx l0 x12_1).f2),.slice A101_3 ((wx l0 x12_1).f3).length c101_3,.slice A101_4 ((wx l0 x12_1).f4).length c101_4] 27 (0,0)) (by (with_reducible repeat (first | refine zz ?_ _ | refine zj ?_ | refine zq ?_ _));exact BK102.out) hg (Kd.S_ne HO_4.out BK102.out (by decide)));have n1_ := qq.mk (hb);have n2_ := qq.mk (ho);clear BK102;clear HB;clear HO_4;clear HO106;have BK102 := n0_;have HB := n1_;have HO109 := n2_;clear n0_ n1_ n2_;clear ho hb hg hat))
         go_roundg k1
         case measure => have := HK1.out;omega
         case rel => exact ⟨(y107),(wrap64 (x12_1 + 1)),(by first | rfl | (simp;done) | (simp [*];done)),H',⟨by have := HK1.out;omega⟩,⟨by (with_reducible repeat (first | apply Kd.vv | apply Kd.vk | apply Kd.vw));exact HO109.out⟩,⟨by repeat (first | (with_reducible first | exact HB.out | apply qj | apply qz | apply qk | refine qx ?_ GE102.out) | exact HB.out)⟩⟩
        ·rw [if_neg c9] at H
         exact absurd H (by simp)
       ·replace c7 := Bool.eq_false_iff.mpr c7
        subst c7
        have H1 : (some (([] : List (List Int)),false)) = some (r1,r2) := by rw [if_neg (show ¬ (false = true) by decide)] at H;exact H
        clear H
        have H := H1
        clear H1
        simp only [Option.some.injEq,Prod.mk.injEq] at H
        obtain ⟨rfl,rfl⟩ := H
        have p101 : 0 ≤ (x12_1 : Int) := of_decide_eq_true (by assumption)
        have q101 : x12_1 < (l0.length : Int) := of_decide_eq_true (by assumption)
        obtain ⟨ad101,A101_3,c101_3,A101_4,c101_4,e101,hx101_0,hx101_1,hx101_2,hx101_3,hx101_4,hl101_3,hi101_3,hl101_4,hi101_4⟩ := at_T27 HR0.out x12_1 p101 q101
        cases e101
        replace hx101_0 := (HB.out.cell (World.block_lt_of_cell? w _ hx101_0)).trans hx101_0
        replace hx101_1 := (HB.out.cell (World.block_lt_of_cell? w _ hx101_1)).trans hx101_1
        replace hx101_2 := (HB.out.cell (World.block_lt_of_cell? w _ hx101_2)).trans hx101_2
        replace hx101_3 := (HB.out.cell (World.block_lt_of_cell? w _ hx101_3)).trans hx101_3
        replace hx101_4 := (HB.out.cell (World.block_lt_of_cell? w _ hx101_4)).trans hx101_4
        have HR101_3 := qq.mk hi101_3
        have HC101_3 := qq.mk hl101_3
        clear hi101_3 hl101_3
        have HR101_4 := qq.mk hi101_4
        have HC101_4 := qq.mk hl101_4
        clear hi101_4 hl101_4
        replace p101 := eq_true p101
        replace q101 := eq_true q101
        go_wp2_with (first | ((with_reducible refine gate_dst (N := 6) rfl ?_);refine box_event ?hg (N := 6) ?hd (cs := #[.int .i64 0,.string (⟨#[]⟩ : ByteArray),.string (⟨#[]⟩ : ByteArray),.slice none 0 0,.slice none 0 0]) (t := 27) ?hr ?_;(case hd => rfl);(case hg => rfl);(case hr => first | (go_simp;done) | (go_simp;rfl));intro gb102 hg w17 hbox hb;have n0_ := qq.mk (Kd.S_below (by (with_reducible repeat (first | apply Kd.vv | apply Kd.vk | apply Kd.vw));exact HO_4.out) hb);have n1_ := qq.mk (zv (by repeat (first | (with_reducible first | exact HB.out | apply qj | apply qz | apply qk) | exact HB.out)) hb);have n2_ := qq.mk (hbox);have n3_ := qq.mk ((by rw [hg];exact (zw (by repeat (first | (with_reducible first | exact HB.out | apply qj | apply qz | apply qk) | exact HB.out))) : w.heap.size ≤ gb102));have n4_ := qq.mk ((by rw [hg];exact (zw (by repeat (first | (with_reducible first | exact HB.out | apply qj | apply qz | apply qk) | exact HB.out))) : w.heap.size ≤ gb102));clear HO_4;clear HB;have HO_4 := n0_;have HB := n1_;have BK102 := n2_;have GW102 := n3_;have GE102 := n4_;clear n0_ n1_ n2_ n3_ n4_;clear hb hbox hg;have hcz18_0 : w17.cell? ⟨gb102,0,none⟩ = some (.int .i64 0) := (qw BK102.out 0).trans rfl;have hcz18_1 : w17.cell? ⟨gb102,1,none⟩ = some (.string (⟨#[]⟩ : ByteArray)) := (qw BK102.out 1).trans rfl;have hcz18_2 : w17.cell? ⟨gb102,2,none⟩ = some (.string (⟨#[]⟩ : ByteArray)) := (qw BK102.out 2).trans rfl;have hcz18_3 : w17.cell? ⟨gb102,3,none⟩ = some (.slice none 0 0) := (qw BK102.out 3).trans rfl;have hcz18_4 : w17.cell? ⟨gb102,4,none⟩ = some (.slice none 0 0) := (qw BK102.out 4).trans rfl;have hfz18_0 := qv BK102.out 0;have hfz18_1 := qv BK102.out 1;have hfz18_2 := qv BK102.out 2;have hfz18_3 := qv BK102.out 3;have hfz18_4 := qv BK102.out 4) | ((with_reducible refine kj (f := 18) rfl ?_);refine goesL_ (some 17) rfl rfl Try.func18 (by kernel_rfl) rfl #[.agg #[.int .i64 ((wx l0 x12_1).f0),.string ((wx l0 x12_1).f1),.string ((wx l0 x12_1).f2),.slice A101_3 ((wx l0 x12_1).f3).length c101_3,.slice A101_4 ((wx l0 x12_1).f4).length c101_4]] rfl (by (try simp only [List.map_toArray,List.map_cons,List.map_nil]);first | done | rfl | (simp only [List.length_drop,List.length_take];rfl)) ?_;(with_reducible refine (qjx.calls k1 ((wx l0 x12_1).f0) ((wx l0 x12_1).f1) ((wx l0 x12_1).f2) _ _ ((wx l0 x12_1).f3) _ _ ((wx l0 x12_1).f4) false _ ?side1 ?side2 ?side3 ?side4 A6.out).mono ?_);(case side1 => exact Kd.C_below HR101_3.out (by repeat (first | (with_reducible first | exact HB.out | apply qj | apply qz | apply qk | refine qx ?_ GE102.out) | exact HB.out)));(case side2 => exact HC101_3.out);(case side3 => exact Kd.C_below HR101_4.out (by repeat (first | (with_reducible first | exact HB.out | apply qj | apply qz | apply qk | refine qx ?_ GE102.out) | exact HB.out)));(case side4 => exact HC101_4.out);rintro e w19 ⟨rfl,hb⟩;refine ⟨_,rfl,?_⟩;have n0_ := qq.mk (Kd.S_below (by (with_reducible repeat (first | apply Kd.vv | apply Kd.vk | apply Kd.vw));exact (Kd.S_mono (Kd.S_far (p := ⟨gb102,4,none⟩) (Kd.S_far (p := ⟨gb102,3,none⟩) (Kd.S_far (p := ⟨gb102,2,none⟩) (Kd.S_far (p := ⟨gb102,1,none⟩) (Kd.S_far (p := ⟨gb102,0,none⟩) (Kd.S_types HO_4.out BK102.out (by decide)) (fun _ hk => hk.2) (.int .i64 ((wx l0 x12_1).f0))) (fun _ hk => hk.2) (.string ((wx l0 x12_1).f1))) (fun _ hk => hk.2) (.string ((wx l0 x12_1).f2))) (fun _ hk => hk.2) (.slice A101_3 ((wx l0 x12_1).f3).length c101_3)) (fun _ hk => hk.2) (.slice A101_4 ((wx l0 x12_1).f4).length c101_4)) (fun _ h_ => h_.1))) hb);have n1_ := qq.mk (wj (g := gb102) (o := .cells #[.int .i64 ((wx l0 x12_1).f0),.string ((wx l0 x12_1).f1),.string ((wx l0 x12_1).f2),.slice A101_3 ((wx l0 x12_1).f3).length c101_3,.slice A101_4 ((wx l0 x12_1).f4).length c101_4] 27 (0,0)) (by (with_reducible repeat (first | refine zz ?_ _ | refine zj ?_ | refine zq ?_ _));refine blk_put (cs := #[.int .i64 ((wx l0 x12_1).f0),.string ((wx l0 x12_1).f1),.string ((wx l0 x12_1).f2),.slice A101_3 ((wx l0 x12_1).f3).length c101_3,.slice none 0 0]) ?_ 4 _ rfl;(with_reducible repeat (first | refine zz ?_ _ | refine zj ?_ | refine zq ?_ _));refine blk_put (cs := #[.int .i64 ((wx l0 x12_1).f0),.string ((wx l0 x12_1).f1),.string ((wx l0 x12_1).f2),.slice none 0 0,.slice none 0 0]) ?_ 3 _ rfl;(with_reducible repeat (first | refine zz ?_ _ | refine zj ?_ | refine zq ?_ _));refine blk_put (cs := #[.int .i64 ((wx l0 x12_1).f0),.string ((wx l0 x12_1).f1),.string (⟨#[]⟩ : ByteArray),.slice none 0 0,.slice none 0 0]) ?_ 2 _ rfl;(with_reducible repeat (first | refine zz ?_ _ | refine zj ?_ | refine zq ?_ _));refine blk_put (cs := #[.int .i64 ((wx l0 x12_1).f0),.string (⟨#[]⟩ : ByteArray),.string (⟨#[]⟩ : ByteArray),.slice none 0 0,.slice none 0 0]) ?_ 1 _ rfl;(with_reducible repeat (first | refine zz ?_ _ | refine zj ?_ | refine zq ?_ _));refine blk_put (cs := #[.int .i64 0,.string (⟨#[]⟩ : ByteArray),.string (⟨#[]⟩ : ByteArray),.slice none 0 0,.slice none 0 0]) ?_ 0 _ rfl;(with_reducible repeat (first | refine zz ?_ _ | refine zj ?_ | refine zq ?_ _));exact BK102.out) hb);have n2_ := qq.mk (zv (by repeat (first | (with_reducible first | exact HB.out | apply qj | apply qz | apply qk | refine qx ?_ GE102.out) | exact HB.out)) hb);clear HO_4;clear BK102;clear HB;have HO_4 := n0_;have BK102 := n1_;have HB := n2_;clear n0_ n1_ n2_;(try clear hb);(try clear hb2);(try clear hk);(try clear hi)))
        go_ret2
        exact ⟨_,by first | rfl | (simp [*,kz,jx] <;> rfl),by first | exact Kd.S_nil _ _ _ _ _ | exact Kd.N_nil _ _ _ _ _ | exact Kd.V_nil _ _ _ _ _ | exact Kd.Q_nil _ _ _ _ _ | exact Kd.R_nil _ _ _ _ _,by repeat (first | (with_reducible first | exact HB.out | apply qj | apply qz | apply qk | refine qx ?_ GE102.out) | exact HB.out)⟩
      ·rw [if_neg c5] at H
       exact absurd H (by simp)
     ·rw [if_neg c4] at H
      exact absurd H (by simp)
    ·rw [if_neg c3] at H
     have c3b0 : decide (x12_1 < (l0.length : Int)) = false := decide_eq_false c3
     clear c3
     simp only [Option.some.injEq,Prod.mk.injEq] at H
     obtain ⟨rfl,rfl⟩ := H
     go_wp2
     go_ret2
     exact ⟨_,by first | rfl | (simp [*,kz,jx] <;> rfl),by (with_reducible repeat (first | apply Kd.vv | apply Kd.vk | apply Kd.vw));exact HO_4.out,by repeat (first | (with_reducible first | exact HB.out | apply qj | apply qz | apply qk) | exact HB.out)⟩
end Go.Proofs.Ytipdkendfcopiaa.Pr
