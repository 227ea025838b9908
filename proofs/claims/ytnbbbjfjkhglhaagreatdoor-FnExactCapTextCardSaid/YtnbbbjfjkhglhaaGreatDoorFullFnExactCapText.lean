/- The law FnExactCapText: whatever the input, the call returns true and the arguments read as before. No conditions. -/
import Derived.Test.YtnbbbjfjkhglhaaGreatDoorFullFnExactCapTextE
import Derived.Laws.Strings
import Derived.Test.YtnbbbjfjkhglhaaGreatDoorRows
import Derived.Test.YtnbbbjfjkhglhaaGreatDoorCards
import Derived.Test.YtnbbbjfjkhglhaaGreatDoorTie
import Derived.WalkKit
import Derived.ProofKit
import Derived.OpenShut
import Derived.ShutString
import Derived.ChangeOld
import Derived.Below
import Derived.SevenTiedAt
import Derived.Stop.LaidErr
import Derived.Lib.LaidTab
import Derived.LaidMore
import Derived.OpenVars
import Derived.ChangeVars
namespace Go.Proofs.YtnbbbjfjkhglhaaGreatDoor.Pr
open Go.RowKit Go.Proofs.YtnbbbjfjkhglhaaGreatDoorW.PrintWords Go.Proofs.YtnbbbjfjkhglhaaGreatDoorW.PrintLast Go.Proofs.YtnbbbjfjkhglhaaGreatDoorW.PrintMore
attribute [local go_sem] max2_int min2_int max_two min_two max_three min_three max_four min_four
set_option linter.unusedVariables false
set_option linter.unusedSimpArgs false
def qzz.f (k : Nat) (a0_0 : ByteArray) (l0_1 : List (S25)) (l0_2 : List Int) (a1 : Int) : Option (Int) := if (wrap64 (a1 - (a0_0.size : Int))) < 0 then (some (-1)) else ((qzk.f k l0_1 (wrap64 (a1 - (a0_0.size : Int)))).bind fun t102 => (if t102 < 0 then (some (-1)) else ((qzq.f l0_2 t102).bind fun t103 => (if t103 < 0 then (some (-1)) else (some t103)))))
set_option maxHeartbeats 8000000 in
set_option maxRecDepth 100000 in
theorem qzz.calls (k : Nat) (a0_0 : ByteArray) (A0_1 : Option Addr) (c0_1 : Nat) (l0_1 : List (S25)) (A0_2 : Option Addr) (c0_2 : Nat) (l0_2 : List Int) (a1 : Int) (r : Int) (w : World) (hr0_1 : Kd.C k25 w A0_1 l0_1.length l0_1) (hc0_1 : l0_1.length ≤ c0_1) (hr0_2 : Kd.C (Kd.int .u8) w A0_2 l0_2.length l0_2) (hc0_2 : l0_2.length ≤ c0_2) (h : qzz.f k a0_0 l0_1 l0_2 a1 = some r) :
  Calls Tryz.prog 10 #[.agg #[.string a0_0,.slice A0_1 l0_1.length c0_1,.slice A0_2 l0_2.length c0_2],.int .i64 a1] w fun e w' => e = .returned (.int .i64 r) ∧ Below w.heap.size w w' := by
 have hu36 := Tryz.underlying36
 have HR0_1 := qq.mk hr0_1
 have HC0_1 := qq.mk hc0_1
 clear hr0_1 hc0_1
 have HR0_2 := qq.mk hr0_2
 have HC0_2 := qq.mk hc0_2
 clear hr0_2 hc0_2
 have HB := qq.mk (Below.refl w.heap.size w)
 have H : (if (wrap64 (a1 - (a0_0.size : Int))) < 0 then (some (-1)) else ((qzk.f k l0_1 (wrap64 (a1 - (a0_0.size : Int)))).bind fun t102 => (if t102 < 0 then (some (-1)) else ((qzq.f l0_2 t102).bind fun t103 => (if t103 < 0 then (some (-1)) else (some t103)))))) = some r := h
 clear h
 by_cases c3 : (wrap64 (a1 - (a0_0.size : Int))) < 0
 ·rw [if_pos c3] at H
  have c3b0 : decide ((wrap64 (a1 - (a0_0.size : Int))) < 0) = true := decide_eq_true c3
  clear c3
  obtain rfl := Option.some.inj H
  go_enter Tryz.func10,Tryz.ntmps10
  go_wp2_with (first | ((with_reducible refine gate_dst (N := 2) rfl ?_);refine box_event ?hg (N := 2) ?hd (cs := #[.string a0_0,.slice A0_1 l0_1.length c0_1,.slice A0_2 l0_2.length c0_2]) (t := 36) ?hr ?_;(case hd => rfl);(case hg => rfl);(case hr => first | (go_simp;done) | (go_simp;rfl));intro gb101 hg w4 hbox hb;have n0_ := qq.mk (zv (by repeat (first | (with_reducible first | exact HB.out | apply qj | apply qz | apply qk) | exact HB.out)) hb);have n1_ := qq.mk (hbox);have n2_ := qq.mk ((by rw [hg];exact (zw (by repeat (first | (with_reducible first | exact HB.out | apply qj | apply qz | apply qk) | exact HB.out))) : w.heap.size ≤ gb101));have n3_ := qq.mk ((by rw [hg];exact (zw (by repeat (first | (with_reducible first | exact HB.out | apply qj | apply qz | apply qk) | exact HB.out))) : w.heap.size ≤ gb101));clear HB;have HB := n0_;have BK101 := n1_;have GW101 := n2_;have GE101 := n3_;clear n0_ n1_ n2_ n3_;clear hb hbox hg;have hcz5_0 : w4.cell? ⟨gb101,0,none⟩ = some (.string a0_0) := (qw BK101.out 0).trans rfl;have hcz5_1 : w4.cell? ⟨gb101,1,none⟩ = some (.slice A0_1 l0_1.length c0_1) := (qw BK101.out 1).trans rfl;have hcz5_2 : w4.cell? ⟨gb101,2,none⟩ = some (.slice A0_2 l0_2.length c0_2) := (qw BK101.out 2).trans rfl;have hfz5_0 := qv BK101.out 0;have hfz5_1 := qv BK101.out 1;have hfz5_2 := qv BK101.out 2))
  go_ret
  exact ⟨by first | rfl | (simp [*,jk,jj] <;> rfl),by repeat (first | (with_reducible first | exact HB.out | apply qj | apply qz | apply qk | refine qx ?_ GE101.out) | exact HB.out)⟩
 ·rw [if_neg c3] at H
  have c3b0 : decide ((wrap64 (a1 - (a0_0.size : Int))) < 0) = false := decide_eq_false c3
  clear c3
  replace H := Option.bind_eq_some_iff.mp H
  obtain ⟨t102,A60,H⟩ := H
  replace H : (if t102 < 0 then (some (-1)) else ((qzq.f l0_2 t102).bind fun t103 => (if t103 < 0 then (some (-1)) else (some t103)))) = some r := H
  have A6 := qq.mk A60
  clear A60
  by_cases c7 : t102 < 0
  ·rw [if_pos c7] at H
   have c7b0 : decide (t102 < 0) = true := decide_eq_true c7
   clear c7
   obtain rfl := Option.some.inj H
   go_enter Tryz.func10,Tryz.ntmps10
   go_wp2_with (first | ((with_reducible refine gate_dst (N := 2) rfl ?_);refine box_event ?hg (N := 2) ?hd (cs := #[.string a0_0,.slice A0_1 l0_1.length c0_1,.slice A0_2 l0_2.length c0_2]) (t := 36) ?hr ?_;(case hd => rfl);(case hg => rfl);(case hr => first | (go_simp;done) | (go_simp;rfl));intro gb101 hg w8 hbox hb;have n0_ := qq.mk (zv (by repeat (first | (with_reducible first | exact HB.out | apply qj | apply qz | apply qk) | exact HB.out)) hb);have n1_ := qq.mk (hbox);have n2_ := qq.mk ((by rw [hg];exact (zw (by repeat (first | (with_reducible first | exact HB.out | apply qj | apply qz | apply qk) | exact HB.out))) : w.heap.size ≤ gb101));have n3_ := qq.mk ((by rw [hg];exact (zw (by repeat (first | (with_reducible first | exact HB.out | apply qj | apply qz | apply qk) | exact HB.out))) : w.heap.size ≤ gb101));clear HB;have HB := n0_;have BK101 := n1_;have GW101 := n2_;have GE101 := n3_;clear n0_ n1_ n2_ n3_;clear hb hbox hg;have hcz9_0 : w8.cell? ⟨gb101,0,none⟩ = some (.string a0_0) := (qw BK101.out 0).trans rfl;have hcz9_1 : w8.cell? ⟨gb101,1,none⟩ = some (.slice A0_1 l0_1.length c0_1) := (qw BK101.out 1).trans rfl;have hcz9_2 : w8.cell? ⟨gb101,2,none⟩ = some (.slice A0_2 l0_2.length c0_2) := (qw BK101.out 2).trans rfl;have hfz9_0 := qv BK101.out 0;have hfz9_1 := qv BK101.out 1;have hfz9_2 := qv BK101.out 2) | ((with_reducible refine jv (f := 26) rfl ?_);refine goesL_ (some 15) rfl rfl Tryz.func26 (by kernel_rfl) rfl #[.slice A0_1 l0_1.length c0_1,.int .i64 (wrap64 (a1 - (a0_0.size : Int)))] rfl (by (try simp only [List.map_toArray,List.map_cons,List.map_nil]);first | done | rfl | (simp only [List.length_drop,List.length_take];rfl)) ?_;(with_reducible refine (qzk.calls k _ _ l0_1 (wrap64 (a1 - (a0_0.size : Int))) t102 _ ?side1 ?side2 A6.out).mono ?_);(case side1 => repeat (first | exact (Kd.C_below HR0_1.out HB.out) | (with_reducible refine Kd.C_alloc ?_ _) | (with_reducible refine Kd.C_drewN ?_ _) | (with_reducible refine Kd.C_drew ?_)));(case side2 => exact HC0_1.out);rintro e w10 ⟨rfl,hb⟩;refine ⟨_,rfl,?_⟩;have n0_ := qq.mk (kw (g := gb101) (o := .cells #[.string a0_0,.slice A0_1 l0_1.length c0_1,.slice A0_2 l0_2.length c0_2] 36 (0,0)) (by (with_reducible repeat (first | refine zz ?_ _ | refine zj ?_ | refine zq ?_ _));exact BK101.out) hb);have n1_ := qq.mk (zv (by repeat (first | (with_reducible first | exact HB.out | apply qj | apply qz | apply qk | refine qx ?_ GE101.out) | exact HB.out)) hb);clear BK101;clear HB;have BK101 := n0_;have HB := n1_;clear n0_ n1_;(try clear hb);(try clear hb2);(try clear hk);(try clear hi)))
   go_ret
   exact ⟨by first | rfl | (simp [*,jk,jj] <;> rfl),by repeat (first | (with_reducible first | exact HB.out | apply qj | apply qz | apply qk | refine qx ?_ GE101.out) | exact HB.out)⟩
  ·rw [if_neg c7] at H
   have c7b0 : decide (t102 < 0) = false := decide_eq_false c7
   clear c7
   replace H := Option.bind_eq_some_iff.mp H
   obtain ⟨t103,A110,H⟩ := H
   replace H : (if t103 < 0 then (some (-1)) else (some t103)) = some r := H
   have A11 := qq.mk A110
   clear A110
   by_cases c12 : t103 < 0
   ·rw [if_pos c12] at H
    have c12b0 : decide (t103 < 0) = true := decide_eq_true c12
    clear c12
    obtain rfl := Option.some.inj H
    go_enter Tryz.func10,Tryz.ntmps10
    go_wp2_with (first | ((with_reducible refine gate_dst (N := 2) rfl ?_);refine box_event ?hg (N := 2) ?hd (cs := #[.string a0_0,.slice A0_1 l0_1.length c0_1,.slice A0_2 l0_2.length c0_2]) (t := 36) ?hr ?_;(case hd => rfl);(case hg => rfl);(case hr => first | (go_simp;done) | (go_simp;rfl));intro gb101 hg w13 hbox hb;have n0_ := qq.mk (zv (by repeat (first | (with_reducible first | exact HB.out | apply qj | apply qz | apply qk) | exact HB.out)) hb);have n1_ := qq.mk (hbox);have n2_ := qq.mk ((by rw [hg];exact (zw (by repeat (first | (with_reducible first | exact HB.out | apply qj | apply qz | apply qk) | exact HB.out))) : w.heap.size ≤ gb101));have n3_ := qq.mk ((by rw [hg];exact (zw (by repeat (first | (with_reducible first | exact HB.out | apply qj | apply qz | apply qk) | exact HB.out))) : w.heap.size ≤ gb101));clear HB;have HB := n0_;have BK101 := n1_;have GW101 := n2_;have GE101 := n3_;clear n0_ n1_ n2_ n3_;clear hb hbox hg;have hcz14_0 : w13.cell? ⟨gb101,0,none⟩ = some (.string a0_0) := (qw BK101.out 0).trans rfl;have hcz14_1 : w13.cell? ⟨gb101,1,none⟩ = some (.slice A0_1 l0_1.length c0_1) := (qw BK101.out 1).trans rfl;have hcz14_2 : w13.cell? ⟨gb101,2,none⟩ = some (.slice A0_2 l0_2.length c0_2) := (qw BK101.out 2).trans rfl;have hfz14_0 := qv BK101.out 0;have hfz14_1 := qv BK101.out 1;have hfz14_2 := qv BK101.out 2) | ((with_reducible refine jv (f := 26) rfl ?_);refine goesL_ (some 15) rfl rfl Tryz.func26 (by kernel_rfl) rfl #[.slice A0_1 l0_1.length c0_1,.int .i64 (wrap64 (a1 - (a0_0.size : Int)))] rfl (by (try simp only [List.map_toArray,List.map_cons,List.map_nil]);first | done | rfl | (simp only [List.length_drop,List.length_take];rfl)) ?_;(with_reducible refine (qzk.calls k _ _ l0_1 (wrap64 (a1 - (a0_0.size : Int))) t102 _ ?side1 ?side2 A6.out).mono ?_);(case side1 => repeat (first | exact (Kd.C_below HR0_1.out HB.out) | (with_reducible refine Kd.C_alloc ?_ _) | (with_reducible refine Kd.C_drewN ?_ _) | (with_reducible refine Kd.C_drew ?_)));(case side2 => exact HC0_1.out);rintro e w15 ⟨rfl,hb⟩;refine ⟨_,rfl,?_⟩;have n0_ := qq.mk (kw (g := gb101) (o := .cells #[.string a0_0,.slice A0_1 l0_1.length c0_1,.slice A0_2 l0_2.length c0_2] 36 (0,0)) (by (with_reducible repeat (first | refine zz ?_ _ | refine zj ?_ | refine zq ?_ _));exact BK101.out) hb);have n1_ := qq.mk (zv (by repeat (first | (with_reducible first | exact HB.out | apply qj | apply qz | apply qk | refine qx ?_ GE101.out) | exact HB.out)) hb);clear BK101;clear HB;have BK101 := n0_;have HB := n1_;clear n0_ n1_;(try clear hb);(try clear hb2);(try clear hk);(try clear hi);have hcz16_0 : w15.cell? ⟨gb101,0,none⟩ = some (.string a0_0) := (qw BK101.out 0).trans rfl;have hcz16_1 : w15.cell? ⟨gb101,1,none⟩ = some (.slice A0_1 l0_1.length c0_1) := (qw BK101.out 1).trans rfl;have hcz16_2 : w15.cell? ⟨gb101,2,none⟩ = some (.slice A0_2 l0_2.length c0_2) := (qw BK101.out 2).trans rfl;have hfz16_0 := qv BK101.out 0;have hfz16_1 := qv BK101.out 1;have hfz16_2 := qv BK101.out 2) | ((with_reducible refine jv (f := 27) rfl ?_);refine goesL_ (some 21) rfl rfl Tryz.func27 (by kernel_rfl) rfl #[.slice A0_2 l0_2.length c0_2,.int .i64 t102] rfl (by (try simp only [List.map_toArray,List.map_cons,List.map_nil]);first | done | rfl | (simp only [List.length_drop,List.length_take];rfl)) ?_;(with_reducible refine (qzq.calls _ _ l0_2 t102 t103 _ ?side1 ?side2 A11.out).mono ?_);(case side1 => repeat (first | exact (Kd.C_below HR0_2.out HB.out) | (with_reducible refine Kd.C_alloc ?_ _) | (with_reducible refine Kd.C_drewN ?_ _) | (with_reducible refine Kd.C_drew ?_)));(case side2 => exact HC0_2.out);rintro e w' ⟨rfl,⟨nd,rfl⟩⟩;refine ⟨_,rfl,?_⟩))
    go_ret
    exact ⟨by first | rfl | (simp [*,jk,jj] <;> rfl),by repeat (first | (with_reducible first | exact HB.out | apply qj | apply qz | apply qk | refine qx ?_ GE101.out) | exact HB.out)⟩
   ·rw [if_neg c12] at H
    have c12b0 : decide (t103 < 0) = false := decide_eq_false c12
    clear c12
    obtain rfl := Option.some.inj H
    go_enter Tryz.func10,Tryz.ntmps10
    go_wp2_with (first | ((with_reducible refine gate_dst (N := 2) rfl ?_);refine box_event ?hg (N := 2) ?hd (cs := #[.string a0_0,.slice A0_1 l0_1.length c0_1,.slice A0_2 l0_2.length c0_2]) (t := 36) ?hr ?_;(case hd => rfl);(case hg => rfl);(case hr => first | (go_simp;done) | (go_simp;rfl));intro gb101 hg w17 hbox hb;have n0_ := qq.mk (zv (by repeat (first | (with_reducible first | exact HB.out | apply qj | apply qz | apply qk) | exact HB.out)) hb);have n1_ := qq.mk (hbox);have n2_ := qq.mk ((by rw [hg];exact (zw (by repeat (first | (with_reducible first | exact HB.out | apply qj | apply qz | apply qk) | exact HB.out))) : w.heap.size ≤ gb101));have n3_ := qq.mk ((by rw [hg];exact (zw (by repeat (first | (with_reducible first | exact HB.out | apply qj | apply qz | apply qk) | exact HB.out))) : w.heap.size ≤ gb101));clear HB;have HB := n0_;have BK101 := n1_;have GW101 := n2_;have GE101 := n3_;clear n0_ n1_ n2_ n3_;clear hb hbox hg;have hcz18_0 : w17.cell? ⟨gb101,0,none⟩ = some (.string a0_0) := (qw BK101.out 0).trans rfl;have hcz18_1 : w17.cell? ⟨gb101,1,none⟩ = some (.slice A0_1 l0_1.length c0_1) := (qw BK101.out 1).trans rfl;have hcz18_2 : w17.cell? ⟨gb101,2,none⟩ = some (.slice A0_2 l0_2.length c0_2) := (qw BK101.out 2).trans rfl;have hfz18_0 := qv BK101.out 0;have hfz18_1 := qv BK101.out 1;have hfz18_2 := qv BK101.out 2) | ((with_reducible refine jv (f := 26) rfl ?_);refine goesL_ (some 15) rfl rfl Tryz.func26 (by kernel_rfl) rfl #[.slice A0_1 l0_1.length c0_1,.int .i64 (wrap64 (a1 - (a0_0.size : Int)))] rfl (by (try simp only [List.map_toArray,List.map_cons,List.map_nil]);first | done | rfl | (simp only [List.length_drop,List.length_take];rfl)) ?_;(with_reducible refine (qzk.calls k _ _ l0_1 (wrap64 (a1 - (a0_0.size : Int))) t102 _ ?side1 ?side2 A6.out).mono ?_);(case side1 => repeat (first | exact (Kd.C_below HR0_1.out HB.out) | (with_reducible refine Kd.C_alloc ?_ _) | (with_reducible refine Kd.C_drewN ?_ _) | (with_reducible refine Kd.C_drew ?_)));(case side2 => exact HC0_1.out);rintro e w19 ⟨rfl,hb⟩;refine ⟨_,rfl,?_⟩;have n0_ := qq.mk (kw (g := gb101) (o := .cells #[.string a0_0,.slice A0_1 l0_1.length c0_1,.slice A0_2 l0_2.length c0_2] 36 (0,0)) (by (with_reducible repeat (first | refine zz ?_ _ | refine zj ?_ | refine zq ?_ _));exact BK101.out) hb);have n1_ := qq.mk (zv (by repeat (first | (with_reducible first | exact HB.out | apply qj | apply qz | apply qk | refine qx ?_ GE101.out) | exact HB.out)) hb);clear BK101;clear HB;have BK101 := n0_;have HB := n1_;clear n0_ n1_;(try clear hb);(try clear hb2);(try clear hk);(try clear hi);have hcz20_0 : w19.cell? ⟨gb101,0,none⟩ = some (.string a0_0) := (qw BK101.out 0).trans rfl;have hcz20_1 : w19.cell? ⟨gb101,1,none⟩ = some (.slice A0_1 l0_1.length c0_1) := (qw BK101.out 1).trans rfl;have hcz20_2 : w19.cell? ⟨gb101,2,none⟩ = some (.slice A0_2 l0_2.length c0_2) := (qw BK101.out 2).trans rfl;have hfz20_0 := qv BK101.out 0;have hfz20_1 := qv BK101.out 1;have hfz20_2 := qv BK101.out 2) | ((with_reducible refine jv (f := 27) rfl ?_);refine goesL_ (some 21) rfl rfl Tryz.func27 (by kernel_rfl) rfl #[.slice A0_2 l0_2.length c0_2,.int .i64 t102] rfl (by (try simp only [List.map_toArray,List.map_cons,List.map_nil]);first | done | rfl | (simp only [List.length_drop,List.length_take];rfl)) ?_;(with_reducible refine (qzq.calls _ _ l0_2 t102 t103 _ ?side1 ?side2 A11.out).mono ?_);(case side1 => repeat (first | exact (Kd.C_below HR0_2.out HB.out) | (with_reducible refine Kd.C_alloc ?_ _) | (with_reducible refine Kd.C_drewN ?_ _) | (with_reducible refine Kd.C_drew ?_)));(case side2 => exact HC0_2.out);rintro e w' ⟨rfl,⟨nd,rfl⟩⟩;refine ⟨_,rfl,?_⟩))
    go_ret
    exact ⟨by first | rfl | (simp [*,jk,jj] <;> rfl),by repeat (first | (with_reducible first | exact HB.out | apply qj | apply qz | apply qk | refine qx ?_ GE101.out) | exact HB.out)⟩
def qzx.f (k : Nat) (a0_0 : ByteArray) (l0_1 : List (S25)) (l0_2 : List Int) : Option (ByteArray × (List (S30)) × List Int) := (qjz.f k l0_1).bind fun t104 => ((qzw.f k l0_2).bind fun t107 => (some (a0_0,t104,t107)))
set_option maxHeartbeats 8000000 in
set_option maxRecDepth 100000 in
theorem qzx.calls (k : Nat) (a0_0 : ByteArray) (A0_1 : Option Addr) (c0_1 : Nat) (l0_1 : List (S25)) (A0_2 : Option Addr) (c0_2 : Nat) (l0_2 : List Int) (r1 : ByteArray) (r2 : List (S30)) (r3 : List Int) (w : World) (hr0_1 : Kd.C k25 w A0_1 l0_1.length l0_1) (hc0_1 : l0_1.length ≤ c0_1) (hr0_2 : Kd.C (Kd.int .u8) w A0_2 l0_2.length l0_2) (hc0_2 : l0_2.length ≤ c0_2) (h : qzx.f k a0_0 l0_1 l0_2 = some (r1,r2,r3)) :
  Calls Tryz.prog 12 #[.agg #[.string a0_0,.slice A0_1 l0_1.length c0_1,.slice A0_2 l0_2.length c0_2]] w fun e w' => ∃ v1_ v2_ : Value,e = .returned (.agg #[.string r1,v1_,v2_]) ∧ Kd.R k30 30 w' w.heap.size (fun _ => True) v1_ r2 ∧ Kd.R (Kd.int .u8) 5 w' w.heap.size (fun _ => True) v2_ r3 ∧ Below w.heap.size w w' := by
 have hu36 := Tryz.underlying36
 have hu41 := Tryz.underlying41
 have HR0_1 := qq.mk hr0_1
 have HC0_1 := qq.mk hc0_1
 clear hr0_1 hc0_1
 have HR0_2 := qq.mk hr0_2
 have HC0_2 := qq.mk hc0_2
 clear hr0_2 hc0_2
 have HB := qq.mk (Below.refl w.heap.size w)
 have H : ((qjz.f k l0_1).bind fun t104 => ((qzw.f k l0_2).bind fun t107 => (some (a0_0,t104,t107)))) = some (r1,r2,r3) := h
 clear h
 replace H := Option.bind_eq_some_iff.mp H
 obtain ⟨t104,A20,H⟩ := H
 replace H : ((qzw.f k l0_2).bind fun t107 => (some (a0_0,t104,t107))) = some (r1,r2,r3) := H
 have A2 := qq.mk A20
 clear A20
 replace H := Option.bind_eq_some_iff.mp H
 obtain ⟨t107,A30,H⟩ := H
 replace H : (some (a0_0,t104,t107)) = some (r1,r2,r3) := H
 have A3 := qq.mk A30
 clear A30
 simp only [Option.some.injEq,Prod.mk.injEq] at H
 obtain ⟨rfl,rfl,rfl⟩ := H
 go_enter Tryz.func12,Tryz.ntmps12
 go_wp2_with (first | ((with_reducible refine gate_dst (N := 1) rfl ?_);refine box_event ?hg (N := 1) ?hd (cs := #[.string a0_0,.slice A0_1 l0_1.length c0_1,.slice A0_2 l0_2.length c0_2]) (t := 36) ?hr ?_;(case hd => rfl);(case hg => rfl);(case hr => first | (go_simp;done) | (go_simp;rfl));intro gb101 hg w4 hbox hb;have n0_ := qq.mk (zv (by repeat (first | (with_reducible first | exact HB.out | apply qj | apply qz | apply qk) | exact HB.out)) hb);have n1_ := qq.mk (hbox);have n2_ := qq.mk ((by rw [hg];exact (zw (by repeat (first | (with_reducible first | exact HB.out | apply qj | apply qz | apply qk) | exact HB.out))) : w.heap.size ≤ gb101));have n3_ := qq.mk ((by rw [hg];exact (zw (by repeat (first | (with_reducible first | exact HB.out | apply qj | apply qz | apply qk) | exact HB.out))) : w.heap.size ≤ gb101));clear HB;have HB := n0_;have BK101 := n1_;have GW101 := n2_;have GE101 := n3_;clear n0_ n1_ n2_ n3_;clear hb hbox hg) | ((with_reducible refine gate_dst (N := 2) rfl ?_);refine box_event ?hg (N := 2) ?hd (cs := #[.string (⟨#[]⟩ : ByteArray),.slice none 0 0,.slice none 0 0]) (t := 41) ?hr ?_;(case hd => rfl);(case hg => rfl);(case hr => first | (go_simp;done) | (go_simp;rfl));intro gb102 hg w5 hbox hb;have n0_ := qq.mk (kw (g := gb101) (o := .cells #[.string a0_0,.slice A0_1 l0_1.length c0_1,.slice A0_2 l0_2.length c0_2] 36 (0,0)) (by (with_reducible repeat (first | refine zz ?_ _ | refine zj ?_ | refine zq ?_ _));exact BK101.out) hb);have n1_ := qq.mk (zv (by repeat (first | (with_reducible first | exact HB.out | apply qj | apply qz | apply qk | refine qx ?_ GE101.out) | exact HB.out)) hb);have n2_ := qq.mk (hbox);have n3_ := qq.mk ((by rw [hg];exact (zw (by repeat (first | (with_reducible first | exact HB.out | apply qj | apply qz | apply qk | refine qx ?_ GE101.out) | exact HB.out))) : w.heap.size ≤ gb102));have n4_ := qq.mk ((by rw [hg];exact (zw (by repeat (first | (with_reducible first | exact HB.out | apply qj | apply qz | apply qk | refine qx ?_ GE101.out) | exact HB.out))) : w.heap.size ≤ gb102));have n5_ := qq.mk ((by rw [hg];exact Nat.ne_of_lt (blk_lt (g := gb101) (o := .cells #[.string a0_0,.slice A0_1 l0_1.length c0_1,.slice A0_2 l0_2.length c0_2] 36 (0,0)) (by (with_reducible repeat (first | refine zz ?_ _ | refine zj ?_ | refine zq ?_ _));exact BK101.out)) : gb101 ≠ gb102));have n6_ := qq.mk ((by rw [hg];exact Nat.ne_of_gt (blk_lt (g := gb101) (o := .cells #[.string a0_0,.slice A0_1 l0_1.length c0_1,.slice A0_2 l0_2.length c0_2] 36 (0,0)) (by (with_reducible repeat (first | refine zz ?_ _ | refine zj ?_ | refine zq ?_ _));exact BK101.out)) : gb102 ≠ gb101));clear BK101;clear HB;have BK101 := n0_;have HB := n1_;have BK102 := n2_;have GW102 := n3_;have GE102 := n4_;have NB101_102 := n5_;have NB102_101 := n6_;clear n0_ n1_ n2_ n3_ n4_ n5_ n6_;clear hb hbox hg) | ((with_reducible refine gate_dst (N := 3) rfl ?_);refine box_event ?hg (N := 3) ?hd (cs := #[.string (⟨#[]⟩ : ByteArray),.slice none 0 0,.slice none 0 0]) (t := 41) ?hr ?_;(case hd => rfl);(case hg => rfl);(case hr => first | (go_simp;done) | (go_simp;rfl));intro gb103 hg w6 hbox hb;have n0_ := qq.mk (kw (g := gb101) (o := .cells #[.string a0_0,.slice A0_1 l0_1.length c0_1,.slice A0_2 l0_2.length c0_2] 36 (0,0)) (by (with_reducible repeat (first | refine zz ?_ _ | refine zj ?_ | refine zq ?_ _));exact BK101.out) hb);have n1_ := qq.mk (kw (g := gb102) (o := .cells #[.string (⟨#[]⟩ : ByteArray),.slice none 0 0,.slice none 0 0] 41 (0,0)) (by (with_reducible repeat (first | refine zz ?_ _ | refine zj ?_ | refine zq ?_ _));exact BK102.out) hb);have n2_ := qq.mk (zv (by repeat (first | (with_reducible first | exact HB.out | apply qj | apply qz | apply qk | refine qx ?_ GE101.out | refine qx ?_ GE102.out) | exact HB.out)) hb);have n3_ := qq.mk (hbox);have n4_ := qq.mk ((by rw [hg];exact (zw (by repeat (first | (with_reducible first | exact HB.out | apply qj | apply qz | apply qk | refine qx ?_ GE101.out | refine qx ?_ GE102.out) | exact HB.out))) : w.heap.size ≤ gb103));have n5_ := qq.mk ((by rw [hg];exact (zw (by repeat (first | (with_reducible first | exact HB.out | apply qj | apply qz | apply qk | refine qx ?_ GE101.out | refine qx ?_ GE102.out) | exact HB.out))) : w.heap.size ≤ gb103));have n6_ := qq.mk ((by rw [hg];exact Nat.ne_of_lt (blk_lt (g := gb101) (o := .cells #[.string a0_0,.slice A0_1 l0_1.length c0_1,.slice A0_2 l0_2.length c0_2] 36 (0,0)) (by (with_reducible repeat (first | refine zz ?_ _ | refine zj ?_ | refine zq ?_ _));exact BK101.out)) : gb101 ≠ gb103));have n7_ := qq.mk ((by rw [hg];exact Nat.ne_of_gt (blk_lt (g := gb101) (o := .cells #[.string a0_0,.slice A0_1 l0_1.length c0_1,.slice A0_2 l0_2.length c0_2] 36 (0,0)) (by (with_reducible repeat (first | refine zz ?_ _ | refine zj ?_ | refine zq ?_ _));exact BK101.out)) : gb103 ≠ gb101));have n8_ := qq.mk ((by rw [hg];exact Nat.ne_of_lt (blk_lt (g := gb102) (o := .cells #[.string (⟨#[]⟩ : ByteArray),.slice none 0 0,.slice none 0 0] 41 (0,0)) (by (with_reducible repeat (first | refine zz ?_ _ | refine zj ?_ | refine zq ?_ _));exact BK102.out)) : gb102 ≠ gb103));have n9_ := qq.mk ((by rw [hg];exact Nat.ne_of_gt (blk_lt (g := gb102) (o := .cells #[.string (⟨#[]⟩ : ByteArray),.slice none 0 0,.slice none 0 0] 41 (0,0)) (by (with_reducible repeat (first | refine zz ?_ _ | refine zj ?_ | refine zq ?_ _));exact BK102.out)) : gb103 ≠ gb102));clear BK101;clear BK102;clear HB;have BK101 := n0_;have BK102 := n1_;have HB := n2_;have BK103 := n3_;have GW103 := n4_;have GE103 := n5_;have NB101_103 := n6_;have NB103_101 := n7_;have NB102_103 := n8_;have NB103_102 := n9_;clear n0_ n1_ n2_ n3_ n4_ n5_ n6_ n7_ n8_ n9_;clear hb hbox hg;have hnb7 := NB101_102.out;have hnc7 := NB102_101.out;have hnb8 := NB101_103.out;have hnc8 := NB103_101.out;have hcz9_0 : w6.cell? ⟨gb101,0,none⟩ = some (.string a0_0) := (qw BK101.out 0).trans rfl;have hcz9_1 : w6.cell? ⟨gb101,1,none⟩ = some (.slice A0_1 l0_1.length c0_1) := (qw BK101.out 1).trans rfl;have hcz9_2 : w6.cell? ⟨gb101,2,none⟩ = some (.slice A0_2 l0_2.length c0_2) := (qw BK101.out 2).trans rfl;have hfz9_0 := qv BK101.out 0;have hfz9_1 := qv BK101.out 1;have hfz9_2 := qv BK101.out 2;have hnb10 := NB103_102.out;have hnc10 := NB102_103.out;have hcz11_0 : w6.cell? ⟨gb103,0,none⟩ = some (.string (⟨#[]⟩ : ByteArray)) := (qw BK103.out 0).trans rfl;have hcz11_1 : w6.cell? ⟨gb103,1,none⟩ = some (.slice none 0 0) := (qw BK103.out 1).trans rfl;have hcz11_2 : w6.cell? ⟨gb103,2,none⟩ = some (.slice none 0 0) := (qw BK103.out 2).trans rfl;have hfz11_0 := qv BK103.out 0;have hfz11_1 := qv BK103.out 1;have hfz11_2 := qv BK103.out 2) | ((with_reducible refine jv (f := 30) rfl ?_);refine goesL_ (some 9) rfl rfl Tryz.func30 (by kernel_rfl) rfl #[.slice A0_1 l0_1.length c0_1] rfl (by (try simp only [List.map_toArray,List.map_cons,List.map_nil]);first | done | rfl | (simp only [List.length_drop,List.length_take];rfl)) ?_;(with_reducible refine (qjz.calls k _ _ l0_1 t104 _ ?side1 ?side2 A2.out).mono ?_);(case side1 => exact Kd.C_below HR0_1.out (by repeat (first | (with_reducible first | exact HB.out | apply qj | apply qz | apply qk | refine qx ?_ GE101.out | refine qx ?_ GE102.out | refine qx ?_ GE103.out) | exact HB.out)));(case side2 => exact HC0_1.out);rintro e w12 ⟨v105,rfl,ho0,hb⟩;refine ⟨_,rfl,?_⟩;have n0_ := qq.mk (Kd.R_lower ho0 (zw (by repeat (first | (with_reducible first | exact HB.out | apply qj | apply qz | apply qk | refine qx ?_ GE101.out | refine qx ?_ GE102.out | refine qx ?_ GE103.out) | exact HB.out))));have n1_ := qq.mk (kw (g := gb101) (o := .cells #[.string a0_0,.slice A0_1 l0_1.length c0_1,.slice A0_2 l0_2.length c0_2] 36 (0,0)) (by (with_reducible repeat (first | refine zz ?_ _ | refine zj ?_ | refine zq ?_ _));refine blk_far ?_ NB101_103.out _;(with_reducible repeat (first | refine zz ?_ _ | refine zj ?_ | refine zq ?_ _));exact BK101.out) hb);have n2_ := qq.mk (kw (g := gb102) (o := .cells #[.string (⟨#[]⟩ : ByteArray),.slice none 0 0,.slice none 0 0] 41 (0,0)) (by (with_reducible repeat (first | refine zz ?_ _ | refine zj ?_ | refine zq ?_ _));refine blk_far ?_ NB102_103.out _;(with_reducible repeat (first | refine zz ?_ _ | refine zj ?_ | refine zq ?_ _));exact BK102.out) hb);have n3_ := qq.mk (kw (g := gb103) (o := .cells #[.string a0_0,.slice none 0 0,.slice none 0 0] 41 (0,0)) (by (with_reducible repeat (first | refine zz ?_ _ | refine zj ?_ | refine zq ?_ _));refine blk_put (cs := #[.string (⟨#[]⟩ : ByteArray),.slice none 0 0,.slice none 0 0]) ?_ 0 _ rfl;(with_reducible repeat (first | refine zz ?_ _ | refine zj ?_ | refine zq ?_ _));exact BK103.out) hb);have n4_ := qq.mk (zv (by repeat (first | (with_reducible first | exact HB.out | apply qj | apply qz | apply qk | refine qx ?_ GE101.out | refine qx ?_ GE102.out | refine qx ?_ GE103.out) | exact HB.out)) hb);clear BK101;clear BK102;clear BK103;clear HB;have HO106 := n0_;have BK101 := n1_;have BK102 := n2_;have BK103 := n3_;have HB := n4_;clear n0_ n1_ n2_ n3_ n4_;(try clear hb);(try clear hb2);(try clear hk);(try clear hi);(try clear ho0);obtain ⟨Ao13,co13,eo13⟩ := Kd.R_slice HO106.out;subst eo13;have hcz14_0 : w12.cell? ⟨gb103,0,none⟩ = some (.string a0_0) := (qw BK103.out 0).trans rfl;have hcz14_1 : w12.cell? ⟨gb103,1,none⟩ = some (.slice none 0 0) := (qw BK103.out 1).trans rfl;have hcz14_2 : w12.cell? ⟨gb103,2,none⟩ = some (.slice none 0 0) := (qw BK103.out 2).trans rfl;have hfz14_0 := qv BK103.out 0;have hfz14_1 := qv BK103.out 1;have hfz14_2 := qv BK103.out 2;have hcz15_0 : w12.cell? ⟨gb101,0,none⟩ = some (.string a0_0) := (qw BK101.out 0).trans rfl;have hcz15_1 : w12.cell? ⟨gb101,1,none⟩ = some (.slice A0_1 l0_1.length c0_1) := (qw BK101.out 1).trans rfl;have hcz15_2 : w12.cell? ⟨gb101,2,none⟩ = some (.slice A0_2 l0_2.length c0_2) := (qw BK101.out 2).trans rfl;have hfz15_0 := qv BK101.out 0;have hfz15_1 := qv BK101.out 1;have hfz15_2 := qv BK101.out 2) | ((with_reducible refine jv (f := 31) rfl ?_);refine goesL_ (some 13) rfl rfl Tryz.func31 (by kernel_rfl) rfl #[.slice A0_2 l0_2.length c0_2] rfl (by (try simp only [List.map_toArray,List.map_cons,List.map_nil]);first | done | rfl | (simp only [List.length_drop,List.length_take];rfl)) ?_;(with_reducible refine (qzw.calls k _ _ l0_2 t107 _ ?side1 ?side2 A3.out).mono ?_);(case side1 => exact Kd.C_below HR0_2.out (by repeat (first | (with_reducible first | exact HB.out | apply qj | apply qz | apply qk | refine qx ?_ GE101.out | refine qx ?_ GE102.out | refine qx ?_ GE103.out) | exact HB.out)));(case side2 => exact HC0_2.out);rintro e w16 ⟨v108,rfl,ho0,hb⟩;refine ⟨_,rfl,?_⟩;have n0_ := qq.mk (Kd.R_below (by (with_reducible repeat (first | apply Kd.jq | apply Kd.zx | apply Kd.jz));exact (Kd.R_mono (Kd.R_far (p := ⟨gb103,1,none⟩) (Kd.R_types HO106.out BK103.out (by decide)) (fun _ hk => hk.2) (.slice Ao13 t104.length co13)) (fun _ h_ => h_.1))) hb);have n1_ := qq.mk (Kd.R_lower ho0 (zw (by repeat (first | (with_reducible first | exact HB.out | apply qj | apply qz | apply qk | refine qx ?_ GE101.out | refine qx ?_ GE102.out | refine qx ?_ GE103.out) | exact HB.out))));have n2_ := qq.mk (kw (g := gb101) (o := .cells #[.string a0_0,.slice A0_1 l0_1.length c0_1,.slice A0_2 l0_2.length c0_2] 36 (0,0)) (by (with_reducible repeat (first | refine zz ?_ _ | refine zj ?_ | refine zq ?_ _));refine blk_far ?_ NB101_103.out _;(with_reducible repeat (first | refine zz ?_ _ | refine zj ?_ | refine zq ?_ _));exact BK101.out) hb);have n3_ := qq.mk (kw (g := gb102) (o := .cells #[.string (⟨#[]⟩ : ByteArray),.slice none 0 0,.slice none 0 0] 41 (0,0)) (by (with_reducible repeat (first | refine zz ?_ _ | refine zj ?_ | refine zq ?_ _));refine blk_far ?_ NB102_103.out _;(with_reducible repeat (first | refine zz ?_ _ | refine zj ?_ | refine zq ?_ _));exact BK102.out) hb);have n4_ := qq.mk (kw (g := gb103) (o := .cells #[.string a0_0,.slice Ao13 t104.length co13,.slice none 0 0] 41 (0,0)) (by (with_reducible repeat (first | refine zz ?_ _ | refine zj ?_ | refine zq ?_ _));refine blk_put (cs := #[.string a0_0,.slice none 0 0,.slice none 0 0]) ?_ 1 _ rfl;(with_reducible repeat (first | refine zz ?_ _ | refine zj ?_ | refine zq ?_ _));exact BK103.out) hb);have n5_ := qq.mk (zv (by repeat (first | (with_reducible first | exact HB.out | apply qj | apply qz | apply qk | refine qx ?_ GE101.out | refine qx ?_ GE102.out | refine qx ?_ GE103.out) | exact HB.out)) hb);clear HO106;clear BK101;clear BK102;clear BK103;clear HB;have HO106 := n0_;have HO109 := n1_;have BK101 := n2_;have BK102 := n3_;have BK103 := n4_;have HB := n5_;clear n0_ n1_ n2_ n3_ n4_ n5_;(try clear hb);(try clear hb2);(try clear hk);(try clear hi);(try clear ho0);obtain ⟨Ao17,co17,eo17⟩ := Kd.R_slice HO109.out;subst eo17;have hcz18_0 : w16.cell? ⟨gb103,0,none⟩ = some (.string a0_0) := (qw BK103.out 0).trans rfl;have hcz18_1 : w16.cell? ⟨gb103,1,none⟩ = some (.slice Ao13 t104.length co13) := (qw BK103.out 1).trans rfl;have hcz18_2 : w16.cell? ⟨gb103,2,none⟩ = some (.slice none 0 0) := (qw BK103.out 2).trans rfl;have hfz18_0 := qv BK103.out 0;have hfz18_1 := qv BK103.out 1;have hfz18_2 := qv BK103.out 2;have hcz19_0 : w16.cell? ⟨gb102,0,none⟩ = some (.string (⟨#[]⟩ : ByteArray)) := (qw BK102.out 0).trans rfl;have hcz19_1 : w16.cell? ⟨gb102,1,none⟩ = some (.slice none 0 0) := (qw BK102.out 1).trans rfl;have hcz19_2 : w16.cell? ⟨gb102,2,none⟩ = some (.slice none 0 0) := (qw BK102.out 2).trans rfl;have hfz19_0 := qv BK102.out 0;have hfz19_1 := qv BK102.out 1;have hfz19_2 := qv BK102.out 2))
 refine bodyPost_ret (results_cell_row rfl _ _ gb102 41 #[.string a0_0,.slice Ao13 t104.length co13,.slice Ao17 t107.length co17] (0,0) _ rfl (by (with_reducible repeat (first | refine zz ?_ _ | refine zj ?_ | refine zq ?_ _));refine blk_put (cs := #[.string a0_0,.slice Ao13 t104.length co13,.slice none 0 0]) ?_ 2 _ rfl;(with_reducible repeat (first | refine zz ?_ _ | refine zj ?_ | refine zq ?_ _));refine blk_put (cs := #[.string a0_0,.slice none 0 0,.slice none 0 0]) ?_ 1 _ rfl;(with_reducible repeat (first | refine zz ?_ _ | refine zj ?_ | refine zq ?_ _));refine blk_put (cs := #[.string (⟨#[]⟩ : ByteArray),.slice none 0 0,.slice none 0 0]) ?_ 0 _ rfl;(with_reducible repeat (first | refine zz ?_ _ | refine zj ?_ | refine zq ?_ _));refine blk_far ?_ NB102_103.out _;(with_reducible repeat (first | refine zz ?_ _ | refine zj ?_ | refine zq ?_ _));exact BK102.out) Tryz.underlying41 rfl (by kernel_rfl)) rfl ?_
 exact ⟨_,_,by first | rfl | (simp [*,jk,jj] <;> rfl),by (with_reducible repeat (first | apply Kd.jq | apply Kd.zx | apply Kd.jz));exact Kd.R_mono (Kd.R_far (p := ⟨gb102,2,none⟩) (Kd.R_far (p := ⟨gb102,1,none⟩) (Kd.R_far (p := ⟨gb102,0,none⟩) (Kd.R_far (p := ⟨gb103,2,none⟩) (Kd.R_types (Kd.R_types HO106.out BK103.out (by decide)) BK102.out (by decide)) (fun _ hk => hk.1.2) (.slice Ao17 t107.length co17)) (fun _ hk => hk.2) (.string a0_0)) (fun _ hk => hk.2) (.slice Ao13 t104.length co13)) (fun _ hk => hk.2) (.slice Ao17 t107.length co17)) (fun _ hk => trivial),by (with_reducible repeat (first | apply Kd.jq | apply Kd.zx | apply Kd.jz));exact Kd.R_mono (Kd.R_far (p := ⟨gb102,2,none⟩) (Kd.R_far (p := ⟨gb102,1,none⟩) (Kd.R_far (p := ⟨gb102,0,none⟩) (Kd.R_far (p := ⟨gb103,2,none⟩) (Kd.R_types (Kd.R_types HO109.out BK103.out (by decide)) BK102.out (by decide)) (fun _ hk => hk.1.2) (.slice Ao17 t107.length co17)) (fun _ hk => hk.2) (.string a0_0)) (fun _ hk => hk.2) (.slice Ao13 t104.length co13)) (fun _ hk => hk.2) (.slice Ao17 t107.length co17)) (fun _ hk => trivial),by repeat (first | (with_reducible first | exact HB.out | apply qj | apply qz | apply qk | refine qx ?_ GE101.out | refine qx ?_ GE102.out | refine qx ?_ GE103.out) | exact HB.out)⟩
def qqk.f (k : Nat) (a0_0 : ByteArray) (l0_1 : List (S30)) (l0_2 : List Int) (a1_0 : ByteArray) (l1_1 : List (S30)) (l1_2 : List Int) : Option (Bool) := if a0_0.toList = a1_0.toList then ((qqw.f k l0_1 l1_1).bind fun t103 => (if t103 = true then ((qqj.f k l0_2 l1_2).bind fun t104 => (if t104 = true then (some true) else (some false))) else (some false))) else (some false)
set_option maxHeartbeats 8000000 in
set_option maxRecDepth 100000 in
theorem qqk.calls (k : Nat) (a0_0 : ByteArray) (A0_1 : Option Addr) (c0_1 : Nat) (l0_1 : List (S30)) (A0_2 : Option Addr) (c0_2 : Nat) (l0_2 : List Int) (a1_0 : ByteArray) (A1_1 : Option Addr) (c1_1 : Nat) (l1_1 : List (S30)) (A1_2 : Option Addr) (c1_2 : Nat) (l1_2 : List Int) (r : Bool) (w : World) (hr0_1 : Kd.C k30 w A0_1 l0_1.length l0_1) (hc0_1 : l0_1.length ≤ c0_1) (hr0_2 : Kd.C (Kd.int .u8) w A0_2 l0_2.length l0_2) (hc0_2 : l0_2.length ≤ c0_2) (hr1_1 : Kd.C k30 w A1_1 l1_1.length l1_1) (hc1_1 : l1_1.length ≤ c1_1) (hr1_2 : Kd.C (Kd.int .u8) w A1_2 l1_2.length l1_2) (hc1_2 : l1_2.length ≤ c1_2) (h : qqk.f k a0_0 l0_1 l0_2 a1_0 l1_1 l1_2 = some r) :
  Calls Tryz.prog 14 #[.agg #[.string a0_0,.slice A0_1 l0_1.length c0_1,.slice A0_2 l0_2.length c0_2],.agg #[.string a1_0,.slice A1_1 l1_1.length c1_1,.slice A1_2 l1_2.length c1_2]] w fun e w' => e = .returned (.bool r) ∧ Below w.heap.size w w' := by
 have hu41 := Tryz.underlying41
 have HR0_1 := qq.mk hr0_1
 have HC0_1 := qq.mk hc0_1
 clear hr0_1 hc0_1
 have HR0_2 := qq.mk hr0_2
 have HC0_2 := qq.mk hc0_2
 clear hr0_2 hc0_2
 have HR1_1 := qq.mk hr1_1
 have HC1_1 := qq.mk hc1_1
 clear hr1_1 hc1_1
 have HR1_2 := qq.mk hr1_2
 have HC1_2 := qq.mk hc1_2
 clear hr1_2 hc1_2
 have HB := qq.mk (Below.refl w.heap.size w)
 have H : (if a0_0.toList = a1_0.toList then ((qqw.f k l0_1 l1_1).bind fun t103 => (if t103 = true then ((qqj.f k l0_2 l1_2).bind fun t104 => (if t104 = true then (some true) else (some false))) else (some false))) else (some false)) = some r := h
 clear h
 by_cases c3 : a0_0.toList = a1_0.toList
 ·rw [if_pos c3] at H
  have c3b0 : (a0_0.toList == a1_0.toList) = true := beq_iff_eq.mpr c3
  have c3b1 : (a0_0.toList != a1_0.toList) = false := bne_eq_false_iff_eq.mpr c3
  clear c3
  replace H := Option.bind_eq_some_iff.mp H
  obtain ⟨t103,A40,H⟩ := H
  replace H : (if t103 = true then ((qqj.f k l0_2 l1_2).bind fun t104 => (if t104 = true then (some true) else (some false))) else (some false)) = some r := H
  have A4 := qq.mk A40
  clear A40
  by_cases c5 : t103 = true
  ·subst c5
   have H1 : ((qqj.f k l0_2 l1_2).bind fun t104 => (if t104 = true then (some true) else (some false))) = some r := by rw [if_pos rfl] at H;exact H
   clear H
   have H := H1
   clear H1
   replace H := Option.bind_eq_some_iff.mp H
   obtain ⟨t104,A60,H⟩ := H
   replace H : (if t104 = true then (some true) else (some false)) = some r := H
   have A6 := qq.mk A60
   clear A60
   by_cases c7 : t104 = true
   ·subst c7
    have H1 : (some true) = some r := by rw [if_pos rfl] at H;exact H
    clear H
    have H := H1
    clear H1
    obtain rfl := Option.some.inj H
    go_enter Tryz.func14,Tryz.ntmps14
    go_wp2_with (first | ((with_reducible refine gate_dst (N := 2) rfl ?_);refine box_event ?hg (N := 2) ?hd (cs := #[.string a0_0,.slice A0_1 l0_1.length c0_1,.slice A0_2 l0_2.length c0_2]) (t := 41) ?hr ?_;(case hd => rfl);(case hg => rfl);(case hr => first | (go_simp;done) | (go_simp;rfl));intro gb101 hg w8 hbox hb;have n0_ := qq.mk (zv (by repeat (first | (with_reducible first | exact HB.out | apply qj | apply qz | apply qk) | exact HB.out)) hb);have n1_ := qq.mk (hbox);have n2_ := qq.mk ((by rw [hg];exact (zw (by repeat (first | (with_reducible first | exact HB.out | apply qj | apply qz | apply qk) | exact HB.out))) : w.heap.size ≤ gb101));have n3_ := qq.mk ((by rw [hg];exact (zw (by repeat (first | (with_reducible first | exact HB.out | apply qj | apply qz | apply qk) | exact HB.out))) : w.heap.size ≤ gb101));clear HB;have HB := n0_;have BK101 := n1_;have GW101 := n2_;have GE101 := n3_;clear n0_ n1_ n2_ n3_;clear hb hbox hg) | ((with_reducible refine gate_dst (N := 3) rfl ?_);refine box_event ?hg (N := 3) ?hd (cs := #[.string a1_0,.slice A1_1 l1_1.length c1_1,.slice A1_2 l1_2.length c1_2]) (t := 41) ?hr ?_;(case hd => rfl);(case hg => rfl);(case hr => first | (go_simp;done) | (go_simp;rfl));intro gb102 hg w9 hbox hb;have n0_ := qq.mk (kw (g := gb101) (o := .cells #[.string a0_0,.slice A0_1 l0_1.length c0_1,.slice A0_2 l0_2.length c0_2] 41 (0,0)) (by (with_reducible repeat (first | refine zz ?_ _ | refine zj ?_ | refine zq ?_ _));exact BK101.out) hb);have n1_ := qq.mk (zv (by repeat (first | (with_reducible first | exact HB.out | apply qj | apply qz | apply qk | refine qx ?_ GE101.out) | exact HB.out)) hb);have n2_ := qq.mk (hbox);have n3_ := qq.mk ((by rw [hg];exact (zw (by repeat (first | (with_reducible first | exact HB.out | apply qj | apply qz | apply qk | refine qx ?_ GE101.out) | exact HB.out))) : w.heap.size ≤ gb102));have n4_ := qq.mk ((by rw [hg];exact (zw (by repeat (first | (with_reducible first | exact HB.out | apply qj | apply qz | apply qk | refine qx ?_ GE101.out) | exact HB.out))) : w.heap.size ≤ gb102));have n5_ := qq.mk ((by rw [hg];exact Nat.ne_of_lt (blk_lt (g := gb101) (o := .cells #[.string a0_0,.slice A0_1 l0_1.length c0_1,.slice A0_2 l0_2.length c0_2] 41 (0,0)) (by (with_reducible repeat (first | refine zz ?_ _ | refine zj ?_ | refine zq ?_ _));exact BK101.out)) : gb101 ≠ gb102));have n6_ := qq.mk ((by rw [hg];exact Nat.ne_of_gt (blk_lt (g := gb101) (o := .cells #[.string a0_0,.slice A0_1 l0_1.length c0_1,.slice A0_2 l0_2.length c0_2] 41 (0,0)) (by (with_reducible repeat (first | refine zz ?_ _ | refine zj ?_ | refine zq ?_ _));exact BK101.out)) : gb102 ≠ gb101));clear BK101;clear HB;have BK101 := n0_;have HB := n1_;have BK102 := n2_;have GW102 := n3_;have GE102 := n4_;have NB101_102 := n5_;have NB102_101 := n6_;clear n0_ n1_ n2_ n3_ n4_ n5_ n6_;clear hb hbox hg;have hnb10 := NB101_102.out;have hnc10 := NB102_101.out;have hcz11_0 : w9.cell? ⟨gb101,0,none⟩ = some (.string a0_0) := (qw BK101.out 0).trans rfl;have hcz11_1 : w9.cell? ⟨gb101,1,none⟩ = some (.slice A0_1 l0_1.length c0_1) := (qw BK101.out 1).trans rfl;have hcz11_2 : w9.cell? ⟨gb101,2,none⟩ = some (.slice A0_2 l0_2.length c0_2) := (qw BK101.out 2).trans rfl;have hfz11_0 := qv BK101.out 0;have hfz11_1 := qv BK101.out 1;have hfz11_2 := qv BK101.out 2;have hcz12_0 : w9.cell? ⟨gb102,0,none⟩ = some (.string a1_0) := (qw BK102.out 0).trans rfl;have hcz12_1 : w9.cell? ⟨gb102,1,none⟩ = some (.slice A1_1 l1_1.length c1_1) := (qw BK102.out 1).trans rfl;have hcz12_2 : w9.cell? ⟨gb102,2,none⟩ = some (.slice A1_2 l1_2.length c1_2) := (qw BK102.out 2).trans rfl;have hfz12_0 := qv BK102.out 0;have hfz12_1 := qv BK102.out 1;have hfz12_2 := qv BK102.out 2) | ((with_reducible refine jv (f := 36) rfl ?_);refine goesL_ (some 14) rfl rfl Tryz.func36 (by kernel_rfl) rfl #[.slice A0_1 l0_1.length c0_1,.slice A1_1 l1_1.length c1_1] rfl (by (try simp only [List.map_toArray,List.map_cons,List.map_nil]);first | done | rfl | (simp only [List.length_drop,List.length_take];rfl)) ?_;(with_reducible refine (qqw.calls k _ _ l0_1 _ _ l1_1 true _ ?side1 ?side2 ?side3 ?side4 A4.out).mono ?_);(case side1 => repeat (first | exact (Kd.C_below HR0_1.out HB.out) | (with_reducible refine Kd.C_alloc ?_ _) | (with_reducible refine Kd.C_drewN ?_ _) | (with_reducible refine Kd.C_drew ?_)));(case side2 => exact HC0_1.out);(case side3 => repeat (first | exact (Kd.C_below HR1_1.out HB.out) | (with_reducible refine Kd.C_alloc ?_ _) | (with_reducible refine Kd.C_drewN ?_ _) | (with_reducible refine Kd.C_drew ?_)));(case side4 => exact HC1_1.out);rintro e w13 ⟨rfl,hb⟩;refine ⟨_,rfl,?_⟩;have n0_ := qq.mk (kw (g := gb101) (o := .cells #[.string a0_0,.slice A0_1 l0_1.length c0_1,.slice A0_2 l0_2.length c0_2] 41 (0,0)) (by (with_reducible repeat (first | refine zz ?_ _ | refine zj ?_ | refine zq ?_ _));exact BK101.out) hb);have n1_ := qq.mk (kw (g := gb102) (o := .cells #[.string a1_0,.slice A1_1 l1_1.length c1_1,.slice A1_2 l1_2.length c1_2] 41 (0,0)) (by (with_reducible repeat (first | refine zz ?_ _ | refine zj ?_ | refine zq ?_ _));exact BK102.out) hb);have n2_ := qq.mk (zv (by repeat (first | (with_reducible first | exact HB.out | apply qj | apply qz | apply qk | refine qx ?_ GE101.out | refine qx ?_ GE102.out) | exact HB.out)) hb);clear BK101;clear BK102;clear HB;have BK101 := n0_;have BK102 := n1_;have HB := n2_;clear n0_ n1_ n2_;(try clear hb);(try clear hb2);(try clear hk);(try clear hi);have hcz14_0 : w13.cell? ⟨gb101,0,none⟩ = some (.string a0_0) := (qw BK101.out 0).trans rfl;have hcz14_1 : w13.cell? ⟨gb101,1,none⟩ = some (.slice A0_1 l0_1.length c0_1) := (qw BK101.out 1).trans rfl;have hcz14_2 : w13.cell? ⟨gb101,2,none⟩ = some (.slice A0_2 l0_2.length c0_2) := (qw BK101.out 2).trans rfl;have hfz14_0 := qv BK101.out 0;have hfz14_1 := qv BK101.out 1;have hfz14_2 := qv BK101.out 2;have hcz15_0 : w13.cell? ⟨gb102,0,none⟩ = some (.string a1_0) := (qw BK102.out 0).trans rfl;have hcz15_1 : w13.cell? ⟨gb102,1,none⟩ = some (.slice A1_1 l1_1.length c1_1) := (qw BK102.out 1).trans rfl;have hcz15_2 : w13.cell? ⟨gb102,2,none⟩ = some (.slice A1_2 l1_2.length c1_2) := (qw BK102.out 2).trans rfl;have hfz15_0 := qv BK102.out 0;have hfz15_1 := qv BK102.out 1;have hfz15_2 := qv BK102.out 2) | ((with_reducible refine jv (f := 37) rfl ?_);refine goesL_ (some 20) rfl rfl Tryz.func37 (by kernel_rfl) rfl #[.slice A0_2 l0_2.length c0_2,.slice A1_2 l1_2.length c1_2] rfl (by (try simp only [List.map_toArray,List.map_cons,List.map_nil]);first | done | rfl | (simp only [List.length_drop,List.length_take];rfl)) ?_;(with_reducible refine (qqj.calls k _ _ l0_2 _ _ l1_2 true _ ?side1 ?side2 ?side3 ?side4 A6.out).mono ?_);(case side1 => repeat (first | exact (Kd.C_below HR0_2.out HB.out) | (with_reducible refine Kd.C_alloc ?_ _) | (with_reducible refine Kd.C_drewN ?_ _) | (with_reducible refine Kd.C_drew ?_)));(case side2 => exact HC0_2.out);(case side3 => repeat (first | exact (Kd.C_below HR1_2.out HB.out) | (with_reducible refine Kd.C_alloc ?_ _) | (with_reducible refine Kd.C_drewN ?_ _) | (with_reducible refine Kd.C_drew ?_)));(case side4 => exact HC1_2.out);rintro e w' ⟨rfl,⟨nd,rfl⟩⟩;refine ⟨_,rfl,?_⟩))
    go_ret
    exact ⟨by first | rfl | (simp [*,jk,jj] <;> rfl),by repeat (first | (with_reducible first | exact HB.out | apply qj | apply qz | apply qk | refine qx ?_ GE101.out | refine qx ?_ GE102.out) | exact HB.out)⟩
   ·replace c7 := Bool.eq_false_iff.mpr c7
    subst c7
    have H1 : (some false) = some r := by rw [if_neg (show ¬ (false = true) by decide)] at H;exact H
    clear H
    have H := H1
    clear H1
    obtain rfl := Option.some.inj H
    go_enter Tryz.func14,Tryz.ntmps14
    go_wp2_with (first | ((with_reducible refine gate_dst (N := 2) rfl ?_);refine box_event ?hg (N := 2) ?hd (cs := #[.string a0_0,.slice A0_1 l0_1.length c0_1,.slice A0_2 l0_2.length c0_2]) (t := 41) ?hr ?_;(case hd => rfl);(case hg => rfl);(case hr => first | (go_simp;done) | (go_simp;rfl));intro gb101 hg w16 hbox hb;have n0_ := qq.mk (zv (by repeat (first | (with_reducible first | exact HB.out | apply qj | apply qz | apply qk) | exact HB.out)) hb);have n1_ := qq.mk (hbox);have n2_ := qq.mk ((by rw [hg];exact (zw (by repeat (first | (with_reducible first | exact HB.out | apply qj | apply qz | apply qk) | exact HB.out))) : w.heap.size ≤ gb101));have n3_ := qq.mk ((by rw [hg];exact (zw (by repeat (first | (with_reducible first | exact HB.out | apply qj | apply qz | apply qk) | exact HB.out))) : w.heap.size ≤ gb101));clear HB;have HB := n0_;have BK101 := n1_;have GW101 := n2_;have GE101 := n3_;clear n0_ n1_ n2_ n3_;clear hb hbox hg) | ((with_reducible refine gate_dst (N := 3) rfl ?_);refine box_event ?hg (N := 3) ?hd (cs := #[.string a1_0,.slice A1_1 l1_1.length c1_1,.slice A1_2 l1_2.length c1_2]) (t := 41) ?hr ?_;(case hd => rfl);(case hg => rfl);(case hr => first | (go_simp;done) | (go_simp;rfl));intro gb102 hg w17 hbox hb;have n0_ := qq.mk (kw (g := gb101) (o := .cells #[.string a0_0,.slice A0_1 l0_1.length c0_1,.slice A0_2 l0_2.length c0_2] 41 (0,0)) (by (with_reducible repeat (first | refine zz ?_ _ | refine zj ?_ | refine zq ?_ _));exact BK101.out) hb);have n1_ := qq.mk (zv (by repeat (first | (with_reducible first | exact HB.out | apply qj | apply qz | apply qk | refine qx ?_ GE101.out) | exact HB.out)) hb);have n2_ := qq.mk (hbox);have n3_ := qq.mk ((by rw [hg];exact (zw (by repeat (first | (with_reducible first | exact HB.out | apply qj | apply qz | apply qk | refine qx ?_ GE101.out) | exact HB.out))) : w.heap.size ≤ gb102));have n4_ := qq.mk ((by rw [hg];exact (zw (by repeat (first | (with_reducible first | exact HB.out | apply qj | apply qz | apply qk | refine qx ?_ GE101.out) | exact HB.out))) : w.heap.size ≤ gb102));have n5_ := qq.mk ((by rw [hg];exact Nat.ne_of_lt (blk_lt (g := gb101) (o := .cells #[.string a0_0,.slice A0_1 l0_1.length c0_1,.slice A0_2 l0_2.length c0_2] 41 (0,0)) (by (with_reducible repeat (first | refine zz ?_ _ | refine zj ?_ | refine zq ?_ _));exact BK101.out)) : gb101 ≠ gb102));have n6_ := qq.mk ((by rw [hg];exact Nat.ne_of_gt (blk_lt (g := gb101) (o := .cells #[.string a0_0,.slice A0_1 l0_1.length c0_1,.slice A0_2 l0_2.length c0_2] 41 (0,0)) (by (with_reducible repeat (first | refine zz ?_ _ | refine zj ?_ | refine zq ?_ _));exact BK101.out)) : gb102 ≠ gb101));clear BK101;clear HB;have BK101 := n0_;have HB := n1_;have BK102 := n2_;have GW102 := n3_;have GE102 := n4_;have NB101_102 := n5_;have NB102_101 := n6_;clear n0_ n1_ n2_ n3_ n4_ n5_ n6_;clear hb hbox hg;have hnb18 := NB101_102.out;have hnc18 := NB102_101.out;have hcz19_0 : w17.cell? ⟨gb101,0,none⟩ = some (.string a0_0) := (qw BK101.out 0).trans rfl;have hcz19_1 : w17.cell? ⟨gb101,1,none⟩ = some (.slice A0_1 l0_1.length c0_1) := (qw BK101.out 1).trans rfl;have hcz19_2 : w17.cell? ⟨gb101,2,none⟩ = some (.slice A0_2 l0_2.length c0_2) := (qw BK101.out 2).trans rfl;have hfz19_0 := qv BK101.out 0;have hfz19_1 := qv BK101.out 1;have hfz19_2 := qv BK101.out 2;have hcz20_0 : w17.cell? ⟨gb102,0,none⟩ = some (.string a1_0) := (qw BK102.out 0).trans rfl;have hcz20_1 : w17.cell? ⟨gb102,1,none⟩ = some (.slice A1_1 l1_1.length c1_1) := (qw BK102.out 1).trans rfl;have hcz20_2 : w17.cell? ⟨gb102,2,none⟩ = some (.slice A1_2 l1_2.length c1_2) := (qw BK102.out 2).trans rfl;have hfz20_0 := qv BK102.out 0;have hfz20_1 := qv BK102.out 1;have hfz20_2 := qv BK102.out 2) | ((with_reducible refine jv (f := 36) rfl ?_);refine goesL_ (some 14) rfl rfl Tryz.func36 (by kernel_rfl) rfl #[.slice A0_1 l0_1.length c0_1,.slice A1_1 l1_1.length c1_1] rfl (by (try simp only [List.map_toArray,List.map_cons,List.map_nil]);first | done | rfl | (simp only [List.length_drop,List.length_take];rfl)) ?_;(with_reducible refine (qqw.calls k _ _ l0_1 _ _ l1_1 true _ ?side1 ?side2 ?side3 ?side4 A4.out).mono ?_);(case side1 => repeat (first | exact (Kd.C_below HR0_1.out HB.out) | (with_reducible refine Kd.C_alloc ?_ _) | (with_reducible refine Kd.C_drewN ?_ _) | (with_reducible refine Kd.C_drew ?_)));(case side2 => exact HC0_1.out);(case side3 => repeat (first | exact (Kd.C_below HR1_1.out HB.out) | (with_reducible refine Kd.C_alloc ?_ _) | (with_reducible refine Kd.C_drewN ?_ _) | (with_reducible refine Kd.C_drew ?_)));(case side4 => exact HC1_1.out);rintro e w21 ⟨rfl,hb⟩;refine ⟨_,rfl,?_⟩;have n0_ := qq.mk (kw (g := gb101) (o := .cells #[.string a0_0,.slice A0_1 l0_1.length c0_1,.slice A0_2 l0_2.length c0_2] 41 (0,0)) (by (with_reducible repeat (first | refine zz ?_ _ | refine zj ?_ | refine zq ?_ _));exact BK101.out) hb);have n1_ := qq.mk (kw (g := gb102) (o := .cells #[.string a1_0,.slice A1_1 l1_1.length c1_1,.slice A1_2 l1_2.length c1_2] 41 (0,0)) (by (with_reducible repeat (first | refine zz ?_ _ | refine zj ?_ | refine zq ?_ _));exact BK102.out) hb);have n2_ := qq.mk (zv (by repeat (first | (with_reducible first | exact HB.out | apply qj | apply qz | apply qk | refine qx ?_ GE101.out | refine qx ?_ GE102.out) | exact HB.out)) hb);clear BK101;clear BK102;clear HB;have BK101 := n0_;have BK102 := n1_;have HB := n2_;clear n0_ n1_ n2_;(try clear hb);(try clear hb2);(try clear hk);(try clear hi);have hcz22_0 : w21.cell? ⟨gb101,0,none⟩ = some (.string a0_0) := (qw BK101.out 0).trans rfl;have hcz22_1 : w21.cell? ⟨gb101,1,none⟩ = some (.slice A0_1 l0_1.length c0_1) := (qw BK101.out 1).trans rfl;have hcz22_2 : w21.cell? ⟨gb101,2,none⟩ = some (.slice A0_2 l0_2.length c0_2) := (qw BK101.out 2).trans rfl;have hfz22_0 := qv BK101.out 0;have hfz22_1 := qv BK101.out 1;have hfz22_2 := qv BK101.out 2;have hcz23_0 : w21.cell? ⟨gb102,0,none⟩ = some (.string a1_0) := (qw BK102.out 0).trans rfl;have hcz23_1 : w21.cell? ⟨gb102,1,none⟩ = some (.slice A1_1 l1_1.length c1_1) := (qw BK102.out 1).trans rfl;have hcz23_2 : w21.cell? ⟨gb102,2,none⟩ = some (.slice A1_2 l1_2.length c1_2) := (qw BK102.out 2).trans rfl;have hfz23_0 := qv BK102.out 0;have hfz23_1 := qv BK102.out 1;have hfz23_2 := qv BK102.out 2) | ((with_reducible refine jv (f := 37) rfl ?_);refine goesL_ (some 20) rfl rfl Tryz.func37 (by kernel_rfl) rfl #[.slice A0_2 l0_2.length c0_2,.slice A1_2 l1_2.length c1_2] rfl (by (try simp only [List.map_toArray,List.map_cons,List.map_nil]);first | done | rfl | (simp only [List.length_drop,List.length_take];rfl)) ?_;(with_reducible refine (qqj.calls k _ _ l0_2 _ _ l1_2 false _ ?side1 ?side2 ?side3 ?side4 A6.out).mono ?_);(case side1 => repeat (first | exact (Kd.C_below HR0_2.out HB.out) | (with_reducible refine Kd.C_alloc ?_ _) | (with_reducible refine Kd.C_drewN ?_ _) | (with_reducible refine Kd.C_drew ?_)));(case side2 => exact HC0_2.out);(case side3 => repeat (first | exact (Kd.C_below HR1_2.out HB.out) | (with_reducible refine Kd.C_alloc ?_ _) | (with_reducible refine Kd.C_drewN ?_ _) | (with_reducible refine Kd.C_drew ?_)));(case side4 => exact HC1_2.out);rintro e w' ⟨rfl,⟨nd,rfl⟩⟩;refine ⟨_,rfl,?_⟩))
    go_ret
    exact ⟨by first | rfl | (simp [*,jk,jj] <;> rfl),by repeat (first | (with_reducible first | exact HB.out | apply qj | apply qz | apply qk | refine qx ?_ GE101.out | refine qx ?_ GE102.out) | exact HB.out)⟩
  ·replace c5 := Bool.eq_false_iff.mpr c5
   subst c5
   have H1 : (some false) = some r := by rw [if_neg (show ¬ (false = true) by decide)] at H;exact H
   clear H
   have H := H1
   clear H1
   obtain rfl := Option.some.inj H
   go_enter Tryz.func14,Tryz.ntmps14
   go_wp2_with (first | ((with_reducible refine gate_dst (N := 2) rfl ?_);refine box_event ?hg (N := 2) ?hd (cs := #[.string a0_0,.slice A0_1 l0_1.length c0_1,.slice A0_2 l0_2.length c0_2]) (t := 41) ?hr ?_;(case hd => rfl);(case hg => rfl);(case hr => first | (go_simp;done) | (go_simp;rfl));intro gb101 hg w24 hbox hb;have n0_ := qq.mk (zv (by repeat (first | (with_reducible first | exact HB.out | apply qj | apply qz | apply qk) | exact HB.out)) hb);have n1_ := qq.mk (hbox);have n2_ := qq.mk ((by rw [hg];exact (zw (by repeat (first | (with_reducible first | exact HB.out | apply qj | apply qz | apply qk) | exact HB.out))) : w.heap.size ≤ gb101));have n3_ := qq.mk ((by rw [hg];exact (zw (by repeat (first | (with_reducible first | exact HB.out | apply qj | apply qz | apply qk) | exact HB.out))) : w.heap.size ≤ gb101));clear HB;have HB := n0_;have BK101 := n1_;have GW101 := n2_;have GE101 := n3_;clear n0_ n1_ n2_ n3_;clear hb hbox hg) | ((with_reducible refine gate_dst (N := 3) rfl ?_);refine box_event ?hg (N := 3) ?hd (cs := #[.string a1_0,.slice A1_1 l1_1.length c1_1,.slice A1_2 l1_2.length c1_2]) (t := 41) ?hr ?_;(case hd => rfl);(case hg => rfl);(case hr => first | (go_simp;done) | (go_simp;rfl));intro gb102 hg w25 hbox hb;have n0_ := qq.mk (kw (g := gb101) (o := .cells #[.string a0_0,.slice A0_1 l0_1.length c0_1,.slice A0_2 l0_2.length c0_2] 41 (0,0)) (by (with_reducible repeat (first | refine zz ?_ _ | refine zj ?_ | refine zq ?_ _));exact BK101.out) hb);have n1_ := qq.mk (zv (by repeat (first | (with_reducible first | exact HB.out | apply qj | apply qz | apply qk | refine qx ?_ GE101.out) | exact HB.out)) hb);have n2_ := qq.mk (hbox);have n3_ := qq.mk ((by rw [hg];exact (zw (by repeat (first | (with_reducible first | exact HB.out | apply qj | apply qz | apply qk | refine qx ?_ GE101.out) | exact HB.out))) : w.heap.size ≤ gb102));have n4_ := qq.mk ((by rw [hg];exact (zw (by repeat (first | (with_reducible first | exact HB.out | apply qj | apply qz | apply qk | refine qx ?_ GE101.out) | exact HB.out))) : w.heap.size ≤ gb102));have n5_ := qq.mk ((by rw [hg];exact Nat.ne_of_lt (blk_lt (g := gb101) (o := .cells #[.string a0_0,.slice A0_1 l0_1.length c0_1,.slice A0_2 l0_2.length c0_2] 41 (0,0)) (by (with_reducible repeat (first | refine zz ?_ _ | refine zj ?_ | refine zq ?_ _));exact BK101.out)) : gb101 ≠ gb102));have n6_ := qq.mk ((by rw [hg];exact Nat.ne_of_gt (blk_lt (g := gb101) (o := .cells #[.string a0_0,.slice A0_1 l0_1.length c0_1,.slice A0_2 l0_2.length c0_2] 41 (0,0)) (by (with_reducible repeat (first | refine zz ?_ _ | refine zj ?_ | refine zq ?_ _));exact BK101.out)) : gb102 ≠ gb101));clear BK101;clear HB;have BK101 := n0_;have HB := n1_;have BK102 := n2_;have GW102 := n3_;have GE102 := n4_;have NB101_102 := n5_;have NB102_101 := n6_;clear n0_ n1_ n2_ n3_ n4_ n5_ n6_;clear hb hbox hg;have hnb26 := NB101_102.out;have hnc26 := NB102_101.out;have hcz27_0 : w25.cell? ⟨gb101,0,none⟩ = some (.string a0_0) := (qw BK101.out 0).trans rfl;have hcz27_1 : w25.cell? ⟨gb101,1,none⟩ = some (.slice A0_1 l0_1.length c0_1) := (qw BK101.out 1).trans rfl;have hcz27_2 : w25.cell? ⟨gb101,2,none⟩ = some (.slice A0_2 l0_2.length c0_2) := (qw BK101.out 2).trans rfl;have hfz27_0 := qv BK101.out 0;have hfz27_1 := qv BK101.out 1;have hfz27_2 := qv BK101.out 2;have hcz28_0 : w25.cell? ⟨gb102,0,none⟩ = some (.string a1_0) := (qw BK102.out 0).trans rfl;have hcz28_1 : w25.cell? ⟨gb102,1,none⟩ = some (.slice A1_1 l1_1.length c1_1) := (qw BK102.out 1).trans rfl;have hcz28_2 : w25.cell? ⟨gb102,2,none⟩ = some (.slice A1_2 l1_2.length c1_2) := (qw BK102.out 2).trans rfl;have hfz28_0 := qv BK102.out 0;have hfz28_1 := qv BK102.out 1;have hfz28_2 := qv BK102.out 2) | ((with_reducible refine jv (f := 36) rfl ?_);refine goesL_ (some 14) rfl rfl Tryz.func36 (by kernel_rfl) rfl #[.slice A0_1 l0_1.length c0_1,.slice A1_1 l1_1.length c1_1] rfl (by (try simp only [List.map_toArray,List.map_cons,List.map_nil]);first | done | rfl | (simp only [List.length_drop,List.length_take];rfl)) ?_;(with_reducible refine (qqw.calls k _ _ l0_1 _ _ l1_1 false _ ?side1 ?side2 ?side3 ?side4 A4.out).mono ?_);(case side1 => repeat (first | exact (Kd.C_below HR0_1.out HB.out) | (with_reducible refine Kd.C_alloc ?_ _) | (with_reducible refine Kd.C_drewN ?_ _) | (with_reducible refine Kd.C_drew ?_)));(case side2 => exact HC0_1.out);(case side3 => repeat (first | exact (Kd.C_below HR1_1.out HB.out) | (with_reducible refine Kd.C_alloc ?_ _) | (with_reducible refine Kd.C_drewN ?_ _) | (with_reducible refine Kd.C_drew ?_)));(case side4 => exact HC1_1.out);rintro e w29 ⟨rfl,hb⟩;refine ⟨_,rfl,?_⟩;have n0_ := qq.mk (kw (g := gb101) (o := .cells #[.string a0_0,.slice A0_1 l0_1.length c0_1,.slice A0_2 l0_2.length c0_2] 41 (0,0)) (by (with_reducible repeat (first | refine zz ?_ _ | refine zj ?_ | refine zq ?_ _));exact BK101.out) hb);have n1_ := qq.mk (kw (g := gb102) (o := .cells #[.string a1_0,.slice A1_1 l1_1.length c1_1,.slice A1_2 l1_2.length c1_2] 41 (0,0)) (by (with_reducible repeat (first | refine zz ?_ _ | refine zj ?_ | refine zq ?_ _));exact BK102.out) hb);have n2_ := qq.mk (zv (by repeat (first | (with_reducible first | exact HB.out | apply qj | apply qz | apply qk | refine qx ?_ GE101.out | refine qx ?_ GE102.out) | exact HB.out)) hb);clear BK101;clear BK102;clear HB;have BK101 := n0_;have BK102 := n1_;have HB := n2_;clear n0_ n1_ n2_;(try clear hb);(try clear hb2);(try clear hk);(try clear hi)))
   go_ret
   exact ⟨by first | rfl | (simp [*,jk,jj] <;> rfl),by repeat (first | (with_reducible first | exact HB.out | apply qj | apply qz | apply qk | refine qx ?_ GE101.out | refine qx ?_ GE102.out) | exact HB.out)⟩
 ·rw [if_neg c3] at H
  have c3b0 : (a0_0.toList == a1_0.toList) = false := beq_eq_false_iff_ne.mpr c3
  have c3b1 : (a0_0.toList != a1_0.toList) = true := bne_iff_ne.mpr c3
  obtain rfl := Option.some.inj H
  go_enter Tryz.func14,Tryz.ntmps14
  go_wp2_with (first | ((with_reducible refine gate_dst (N := 2) rfl ?_);refine box_event ?hg (N := 2) ?hd (cs := #[.string a0_0,.slice A0_1 l0_1.length c0_1,.slice A0_2 l0_2.length c0_2]) (t := 41) ?hr ?_;(case hd => rfl);(case hg => rfl);(case hr => first | (go_simp;done) | (go_simp;rfl));intro gb101 hg w30 hbox hb;have n0_ := qq.mk (zv (by repeat (first | (with_reducible first | exact HB.out | apply qj | apply qz | apply qk) | exact HB.out)) hb);have n1_ := qq.mk (hbox);have n2_ := qq.mk ((by rw [hg];exact (zw (by repeat (first | (with_reducible first | exact HB.out | apply qj | apply qz | apply qk) | exact HB.out))) : w.heap.size ≤ gb101));have n3_ := qq.mk ((by rw [hg];exact (zw (by repeat (first | (with_reducible first | exact HB.out | apply qj | apply qz | apply qk) | exact HB.out))) : w.heap.size ≤ gb101));clear HB;have HB := n0_;have BK101 := n1_;have GW101 := n2_;have GE101 := n3_;clear n0_ n1_ n2_ n3_;clear hb hbox hg) | ((with_reducible refine gate_dst (N := 3) rfl ?_);refine box_event ?hg (N := 3) ?hd (cs := #[.string a1_0,.slice A1_1 l1_1.length c1_1,.slice A1_2 l1_2.length c1_2]) (t := 41) ?hr ?_;(case hd => rfl);(case hg => rfl);(case hr => first | (go_simp;done) | (go_simp;rfl));intro gb102 hg w31 hbox hb;have n0_ := qq.mk (kw (g := gb101) (o := .cells #[.string a0_0,.slice A0_1 l0_1.length c0_1,.slice A0_2 l0_2.length c0_2] 41 (0,0)) (by (with_reducible repeat (first | refine zz ?_ _ | refine zj ?_ | refine zq ?_ _));exact BK101.out) hb);have n1_ := qq.mk (zv (by repeat (first | (with_reducible first | exact HB.out | apply qj | apply qz | apply qk | refine qx ?_ GE101.out) | exact HB.out)) hb);have n2_ := qq.mk (hbox);have n3_ := qq.mk ((by rw [hg];exact (zw (by repeat (first | (with_reducible first | exact HB.out | apply qj | apply qz | apply qk | refine qx ?_ GE101.out) | exact HB.out))) : w.heap.size ≤ gb102));have n4_ := qq.mk ((by rw [hg];exact (zw (by repeat (first | (with_reducible first | exact HB.out | apply qj | apply qz | apply qk | refine qx ?_ GE101.out) | exact HB.out))) : w.heap.size ≤ gb102));have n5_ := qq.mk ((by rw [hg];exact Nat.ne_of_lt (blk_lt (g := gb101) (o := .cells #[.string a0_0,.slice A0_1 l0_1.length c0_1,.slice A0_2 l0_2.length c0_2] 41 (0,0)) (by (with_reducible repeat (first | refine zz ?_ _ | refine zj ?_ | refine zq ?_ _));exact BK101.out)) : gb101 ≠ gb102));have n6_ := qq.mk ((by rw [hg];exact Nat.ne_of_gt (blk_lt (g := gb101) (o := .cells #[.string a0_0,.slice A0_1 l0_1.length c0_1,.slice A0_2 l0_2.length c0_2] 41 (0,0)) (by (with_reducible repeat (first | refine zz ?_ _ | refine zj ?_ | refine zq ?_ _));exact BK101.out)) : gb102 ≠ gb101));clear BK101;clear HB;have BK101 := n0_;have HB := n1_;have BK102 := n2_;have GW102 := n3_;have GE102 := n4_;have NB101_102 := n5_;have NB102_101 := n6_;clear n0_ n1_ n2_ n3_ n4_ n5_ n6_;clear hb hbox hg;have hnb32 := NB101_102.out;have hnc32 := NB102_101.out;have hcz33_0 : w31.cell? ⟨gb101,0,none⟩ = some (.string a0_0) := (qw BK101.out 0).trans rfl;have hcz33_1 : w31.cell? ⟨gb101,1,none⟩ = some (.slice A0_1 l0_1.length c0_1) := (qw BK101.out 1).trans rfl;have hcz33_2 : w31.cell? ⟨gb101,2,none⟩ = some (.slice A0_2 l0_2.length c0_2) := (qw BK101.out 2).trans rfl;have hfz33_0 := qv BK101.out 0;have hfz33_1 := qv BK101.out 1;have hfz33_2 := qv BK101.out 2;have hcz34_0 : w31.cell? ⟨gb102,0,none⟩ = some (.string a1_0) := (qw BK102.out 0).trans rfl;have hcz34_1 : w31.cell? ⟨gb102,1,none⟩ = some (.slice A1_1 l1_1.length c1_1) := (qw BK102.out 1).trans rfl;have hcz34_2 : w31.cell? ⟨gb102,2,none⟩ = some (.slice A1_2 l1_2.length c1_2) := (qw BK102.out 2).trans rfl;have hfz34_0 := qv BK102.out 0;have hfz34_1 := qv BK102.out 1;have hfz34_2 := qv BK102.out 2))
  go_ret
  exact ⟨by first | rfl | (simp [*,jk,jj] <;> rfl),by repeat (first | (with_reducible first | exact HB.out | apply qj | apply qz | apply qk | refine qx ?_ GE101.out | refine qx ?_ GE102.out) | exact HB.out)⟩
def qqq.f (k : Nat) (a0_0 : ByteArray) (l0_1 : List (S25)) (l0_2 : List Int) : Option (Bool) := (qzz.f k a0_0 l0_1 l0_2 1048576).bind fun t102 => (if t102 < 0 then (some true) else ((qzx.f k a0_0 l0_1 l0_2).bind fun bt103 => ((qjj.f k bt103.1 bt103.2.1 bt103.2.2).bind fun t110 => ((qzx.f k a0_0 l0_1 l0_2).bind fun bt111 => ((wq.f k bt111.1 bt111.2.1 bt111.2.2).bind fun t119 => (if t119.toList = t110.toList then ((qzx.f k a0_0 l0_1 l0_2).bind fun bt120 => ((qqk.f k bt111.1 bt111.2.1 bt111.2.2 bt120.1 bt120.2.1 bt120.2.2).bind fun t127 => (if t127 = true then (some true) else (none)))) else (none)))))))
set_option maxHeartbeats 8000000 in
set_option maxRecDepth 100000 in
theorem qqq.calls (k : Nat) (a0_0 : ByteArray) (A0_1 : Option Addr) (c0_1 : Nat) (l0_1 : List (S25)) (A0_2 : Option Addr) (c0_2 : Nat) (l0_2 : List Int) (r : Bool) (w : World) (htab : TabW w) (hr0_1 : Kd.C k25 w A0_1 l0_1.length l0_1) (hc0_1 : l0_1.length ≤ c0_1) (hr0_2 : Kd.C (Kd.int .u8) w A0_2 l0_2.length l0_2) (hc0_2 : l0_2.length ≤ c0_2) (h : qqq.f k a0_0 l0_1 l0_2 = some r) :
  Calls Tryz.prog 4 #[.agg #[.string a0_0,.slice A0_1 l0_1.length c0_1,.slice A0_2 l0_2.length c0_2]] w fun e w' => e = .returned (.bool r) ∧ Below w.heap.size w w' := by
 have HTAB := qq.mk htab
 clear htab
 have hu36 := Tryz.underlying36
 have hu41 := Tryz.underlying41
 have HR0_1 := qq.mk hr0_1
 have HC0_1 := qq.mk hc0_1
 clear hr0_1 hc0_1
 have HR0_2 := qq.mk hr0_2
 have HC0_2 := qq.mk hc0_2
 clear hr0_2 hc0_2
 have HB := qq.mk (Below.refl w.heap.size w)
 have H : ((qzz.f k a0_0 l0_1 l0_2 1048576).bind fun t102 => (if t102 < 0 then (some true) else ((qzx.f k a0_0 l0_1 l0_2).bind fun bt103 => ((qjj.f k bt103.1 bt103.2.1 bt103.2.2).bind fun t110 => ((qzx.f k a0_0 l0_1 l0_2).bind fun bt111 => ((wq.f k bt111.1 bt111.2.1 bt111.2.2).bind fun t119 => (if t119.toList = t110.toList then ((qzx.f k a0_0 l0_1 l0_2).bind fun bt120 => ((qqk.f k bt111.1 bt111.2.1 bt111.2.2 bt120.1 bt120.2.1 bt120.2.2).bind fun t127 => (if t127 = true then (some true) else (none)))) else (none)))))))) = some r := h
 clear h
 replace H := Option.bind_eq_some_iff.mp H
 obtain ⟨t102,A20,H⟩ := H
 replace H : (if t102 < 0 then (some true) else ((qzx.f k a0_0 l0_1 l0_2).bind fun bt103 => ((qjj.f k bt103.1 bt103.2.1 bt103.2.2).bind fun t110 => ((qzx.f k a0_0 l0_1 l0_2).bind fun bt111 => ((wq.f k bt111.1 bt111.2.1 bt111.2.2).bind fun t119 => (if t119.toList = t110.toList then ((qzx.f k a0_0 l0_1 l0_2).bind fun bt120 => ((qqk.f k bt111.1 bt111.2.1 bt111.2.2 bt120.1 bt120.2.1 bt120.2.2).bind fun t127 => (if t127 = true then (some true) else (none)))) else (none))))))) = some r := H
 have A2 := qq.mk A20
 clear A20
 by_cases c3 : t102 < 0
 ·rw [if_pos c3] at H
  have c3b0 : decide (t102 < 0) = true := decide_eq_true c3
  clear c3
  obtain rfl := Option.some.inj H
  go_enter Tryz.func4,Tryz.ntmps4
  go_wp2_with (first | ((with_reducible refine gate_dst (N := 1) rfl ?_);refine box_event ?hg (N := 1) ?hd (cs := #[.string a0_0,.slice A0_1 l0_1.length c0_1,.slice A0_2 l0_2.length c0_2]) (t := 36) ?hr ?_;(case hd => rfl);(case hg => rfl);(case hr => first | (go_simp;done) | (go_simp;rfl));intro gb101 hg w4 hbox hb;have n0_ := qq.mk (zv (by repeat (first | (with_reducible first | exact HB.out | apply qj | apply qz | apply qk) | exact HB.out)) hb);have n1_ := qq.mk (hbox);have n2_ := qq.mk ((by rw [hg];exact (zw (by repeat (first | (with_reducible first | exact HB.out | apply qj | apply qz | apply qk) | exact HB.out))) : w.heap.size ≤ gb101));have n3_ := qq.mk ((by rw [hg];exact (zw (by repeat (first | (with_reducible first | exact HB.out | apply qj | apply qz | apply qk) | exact HB.out))) : w.heap.size ≤ gb101));clear HB;have HB := n0_;have BK101 := n1_;have GW101 := n2_;have GE101 := n3_;clear n0_ n1_ n2_ n3_;clear hb hbox hg;have hcz5_0 : w4.cell? ⟨gb101,0,none⟩ = some (.string a0_0) := (qw BK101.out 0).trans rfl;have hcz5_1 : w4.cell? ⟨gb101,1,none⟩ = some (.slice A0_1 l0_1.length c0_1) := (qw BK101.out 1).trans rfl;have hcz5_2 : w4.cell? ⟨gb101,2,none⟩ = some (.slice A0_2 l0_2.length c0_2) := (qw BK101.out 2).trans rfl;have hfz5_0 := qv BK101.out 0;have hfz5_1 := qv BK101.out 1;have hfz5_2 := qv BK101.out 2) | ((with_reducible refine jv (f := 10) rfl ?_);refine goesL_ (some 9) rfl rfl Tryz.func10 (by kernel_rfl) rfl #[.agg #[.string a0_0,.slice A0_1 l0_1.length c0_1,.slice A0_2 l0_2.length c0_2],.int .i64 1048576] rfl (by (try simp only [List.map_toArray,List.map_cons,List.map_nil]);first | done | rfl | (simp only [List.length_drop,List.length_take];rfl)) ?_;(with_reducible refine (qzz.calls k a0_0 _ _ l0_1 _ _ l0_2 1048576 t102 _ ?side1 ?side2 ?side3 ?side4 A2.out).mono ?_);(case side1 => repeat (first | exact (Kd.C_below HR0_1.out HB.out) | (with_reducible refine Kd.C_alloc ?_ _) | (with_reducible refine Kd.C_drewN ?_ _) | (with_reducible refine Kd.C_drew ?_)));(case side2 => exact HC0_1.out);(case side3 => repeat (first | exact (Kd.C_below HR0_2.out HB.out) | (with_reducible refine Kd.C_alloc ?_ _) | (with_reducible refine Kd.C_drewN ?_ _) | (with_reducible refine Kd.C_drew ?_)));(case side4 => exact HC0_2.out);rintro e w6 ⟨rfl,hb⟩;refine ⟨_,rfl,?_⟩;have n0_ := qq.mk (kw (g := gb101) (o := .cells #[.string a0_0,.slice A0_1 l0_1.length c0_1,.slice A0_2 l0_2.length c0_2] 36 (0,0)) (by (with_reducible repeat (first | refine zz ?_ _ | refine zj ?_ | refine zq ?_ _));exact BK101.out) hb);have n1_ := qq.mk (zv (by repeat (first | (with_reducible first | exact HB.out | apply qj | apply qz | apply qk | refine qx ?_ GE101.out) | exact HB.out)) hb);clear BK101;clear HB;have BK101 := n0_;have HB := n1_;clear n0_ n1_;(try clear hb);(try clear hb2);(try clear hk);(try clear hi)))
  go_ret
  exact ⟨by first | rfl | (simp [*,jk,jj] <;> rfl),by repeat (first | (with_reducible first | exact HB.out | apply qj | apply qz | apply qk | refine qx ?_ GE101.out) | exact HB.out)⟩
 ·rw [if_neg c3] at H
  have c3b0 : decide (t102 < 0) = false := decide_eq_false c3
  clear c3
  replace H := Option.bind_eq_some_iff.mp H
  obtain ⟨⟨t103,t104,t107⟩,A70,H⟩ := H
  replace H : ((qjj.f k t103 t104 t107).bind fun t110 => ((qzx.f k a0_0 l0_1 l0_2).bind fun bt111 => ((wq.f k bt111.1 bt111.2.1 bt111.2.2).bind fun t119 => (if t119.toList = t110.toList then ((qzx.f k a0_0 l0_1 l0_2).bind fun bt120 => ((qqk.f k bt111.1 bt111.2.1 bt111.2.2 bt120.1 bt120.2.1 bt120.2.2).bind fun t127 => (if t127 = true then (some true) else (none)))) else (none))))) = some r := H
  have A7 := qq.mk A70
  clear A70
  replace H := Option.bind_eq_some_iff.mp H
  obtain ⟨t110,A80,H⟩ := H
  replace H : ((qzx.f k a0_0 l0_1 l0_2).bind fun bt111 => ((wq.f k bt111.1 bt111.2.1 bt111.2.2).bind fun t119 => (if t119.toList = t110.toList then ((qzx.f k a0_0 l0_1 l0_2).bind fun bt120 => ((qqk.f k bt111.1 bt111.2.1 bt111.2.2 bt120.1 bt120.2.1 bt120.2.2).bind fun t127 => (if t127 = true then (some true) else (none)))) else (none)))) = some r := H
  have A8 := qq.mk A80
  clear A80
  replace H := Option.bind_eq_some_iff.mp H
  obtain ⟨⟨t111,t112,t115⟩,A90,H⟩ := H
  replace H : ((wq.f k t111 t112 t115).bind fun t119 => (if t119.toList = t110.toList then ((qzx.f k a0_0 l0_1 l0_2).bind fun bt120 => ((qqk.f k t111 t112 t115 bt120.1 bt120.2.1 bt120.2.2).bind fun t127 => (if t127 = true then (some true) else (none)))) else (none))) = some r := H
  have A9 := qq.mk A90
  clear A90
  replace H := Option.bind_eq_some_iff.mp H
  obtain ⟨t119,A100,H⟩ := H
  replace H : (if t119.toList = t110.toList then ((qzx.f k a0_0 l0_1 l0_2).bind fun bt120 => ((qqk.f k t111 t112 t115 bt120.1 bt120.2.1 bt120.2.2).bind fun t127 => (if t127 = true then (some true) else (none)))) else (none)) = some r := H
  have A10 := qq.mk A100
  clear A100
  by_cases c11 : t119.toList = t110.toList
  ·rw [if_pos c11] at H
   have c11b0 : (t119.toList == t110.toList) = true := beq_iff_eq.mpr c11
   have c11b1 : (t119.toList != t110.toList) = false := bne_eq_false_iff_eq.mpr c11
   clear c11
   replace H := Option.bind_eq_some_iff.mp H
   obtain ⟨⟨t120,t121,t124⟩,A120,H⟩ := H
   replace H : ((qqk.f k t111 t112 t115 t120 t121 t124).bind fun t127 => (if t127 = true then (some true) else (none))) = some r := H
   have A12 := qq.mk A120
   clear A120
   replace H := Option.bind_eq_some_iff.mp H
   obtain ⟨t127,A130,H⟩ := H
   replace H : (if t127 = true then (some true) else (none)) = some r := H
   have A13 := qq.mk A130
   clear A130
   by_cases c14 : t127 = true
   ·subst c14
    have H1 : (some true) = some r := by rw [if_pos rfl] at H;exact H
    clear H
    have H := H1
    clear H1
    obtain rfl := Option.some.inj H
    go_enter Tryz.func4,Tryz.ntmps4
    try go_wp2_with (first | ((with_reducible refine gate_dst (N := 1) rfl ?_);refine box_event ?hg (N := 1) ?hd (cs := #[.string a0_0,.slice A0_1 l0_1.length c0_1,.slice A0_2 l0_2.length c0_2]) (t := 36) ?hr ?_;(case hd => rfl);(case hg => rfl);(case hr => first | (go_simp;done) | (go_simp;rfl));intro gb101 hg w15 hbox hb;have n0_ := qq.mk (zv (by repeat (first | (with_reducible first | exact HB.out | apply qj | apply qz | apply qk) | exact HB.out)) hb);have n1_ := qq.mk (hbox);have n2_ := qq.mk ((by rw [hg];exact (zw (by repeat (first | (with_reducible first | exact HB.out | apply qj | apply qz | apply qk) | exact HB.out))) : w.heap.size ≤ gb101));have n3_ := qq.mk ((by rw [hg];exact (zw (by repeat (first | (with_reducible first | exact HB.out | apply qj | apply qz | apply qk) | exact HB.out))) : w.heap.size ≤ gb101));clear HB;have HB := n0_;have BK101 := n1_;have GW101 := n2_;have GE101 := n3_;clear n0_ n1_ n2_ n3_;clear hb hbox hg;have hcz16_0 : w15.cell? ⟨gb101,0,none⟩ = some (.string a0_0) := (qw BK101.out 0).trans rfl;have hcz16_1 : w15.cell? ⟨gb101,1,none⟩ = some (.slice A0_1 l0_1.length c0_1) := (qw BK101.out 1).trans rfl;have hcz16_2 : w15.cell? ⟨gb101,2,none⟩ = some (.slice A0_2 l0_2.length c0_2) := (qw BK101.out 2).trans rfl;have hfz16_0 := qv BK101.out 0;have hfz16_1 := qv BK101.out 1;have hfz16_2 := qv BK101.out 2) | ((with_reducible refine jv (f := 10) rfl ?_);refine goesL_ (some 9) rfl rfl Tryz.func10 (by kernel_rfl) rfl #[.agg #[.string a0_0,.slice A0_1 l0_1.length c0_1,.slice A0_2 l0_2.length c0_2],.int .i64 1048576] rfl (by (try simp only [List.map_toArray,List.map_cons,List.map_nil]);first | done | rfl | (simp only [List.length_drop,List.length_take];rfl)) ?_;(with_reducible refine (qzz.calls k a0_0 _ _ l0_1 _ _ l0_2 1048576 t102 _ ?side1 ?side2 ?side3 ?side4 A2.out).mono ?_);(case side1 => repeat (first | exact (Kd.C_below HR0_1.out HB.out) | (with_reducible refine Kd.C_alloc ?_ _) | (with_reducible refine Kd.C_drewN ?_ _) | (with_reducible refine Kd.C_drew ?_)));(case side2 => exact HC0_1.out);(case side3 => repeat (first | exact (Kd.C_below HR0_2.out HB.out) | (with_reducible refine Kd.C_alloc ?_ _) | (with_reducible refine Kd.C_drewN ?_ _) | (with_reducible refine Kd.C_drew ?_)));(case side4 => exact HC0_2.out);rintro e w17 ⟨rfl,hb⟩;refine ⟨_,rfl,?_⟩;have n0_ := qq.mk (kw (g := gb101) (o := .cells #[.string a0_0,.slice A0_1 l0_1.length c0_1,.slice A0_2 l0_2.length c0_2] 36 (0,0)) (by (with_reducible repeat (first | refine zz ?_ _ | refine zj ?_ | refine zq ?_ _));exact BK101.out) hb);have n1_ := qq.mk (zv (by repeat (first | (with_reducible first | exact HB.out | apply qj | apply qz | apply qk | refine qx ?_ GE101.out) | exact HB.out)) hb);clear BK101;clear HB;have BK101 := n0_;have HB := n1_;clear n0_ n1_;(try clear hb);(try clear hb2);(try clear hk);(try clear hi);have hcz18_0 : w17.cell? ⟨gb101,0,none⟩ = some (.string a0_0) := (qw BK101.out 0).trans rfl;have hcz18_1 : w17.cell? ⟨gb101,1,none⟩ = some (.slice A0_1 l0_1.length c0_1) := (qw BK101.out 1).trans rfl;have hcz18_2 : w17.cell? ⟨gb101,2,none⟩ = some (.slice A0_2 l0_2.length c0_2) := (qw BK101.out 2).trans rfl;have hfz18_0 := qv BK101.out 0;have hfz18_1 := qv BK101.out 1;have hfz18_2 := qv BK101.out 2) | ((with_reducible refine jv (f := 12) rfl ?_);refine goesL_ (some 13) rfl rfl Tryz.func12 (by kernel_rfl) rfl #[.agg #[.string a0_0,.slice A0_1 l0_1.length c0_1,.slice A0_2 l0_2.length c0_2]] rfl (by (try simp only [List.map_toArray,List.map_cons,List.map_nil]);first | done | rfl | (simp only [List.length_drop,List.length_take];rfl)) ?_;(with_reducible refine (qzx.calls k a0_0 _ _ l0_1 _ _ l0_2 t103 t104 t107 _ ?side1 ?side2 ?side3 ?side4 A7.out).mono ?_);(case side1 => repeat (first | exact (Kd.C_below HR0_1.out HB.out) | (with_reducible refine Kd.C_alloc ?_ _) | (with_reducible refine Kd.C_drewN ?_ _) | (with_reducible refine Kd.C_drew ?_)));(case side2 => exact HC0_1.out);(case side3 => repeat (first | exact (Kd.C_below HR0_2.out HB.out) | (with_reducible refine Kd.C_alloc ?_ _) | (with_reducible refine Kd.C_drewN ?_ _) | (with_reducible refine Kd.C_drew ?_)));(case side4 => exact HC0_2.out);rintro e w19 ⟨v105,v108,rfl,ho0,ho1,hb⟩;refine ⟨_,rfl,?_⟩;have n0_ := qq.mk (Kd.R_lower ho0 (zw (by repeat (first | (with_reducible first | exact HB.out | apply qj | apply qz | apply qk | refine qx ?_ GE101.out) | exact HB.out))));have n1_ := qq.mk (Kd.R_lower ho1 (zw (by repeat (first | (with_reducible first | exact HB.out | apply qj | apply qz | apply qk | refine qx ?_ GE101.out) | exact HB.out))));have n2_ := qq.mk (kw (g := gb101) (o := .cells #[.string a0_0,.slice A0_1 l0_1.length c0_1,.slice A0_2 l0_2.length c0_2] 36 (0,0)) (by (with_reducible repeat (first | refine zz ?_ _ | refine zj ?_ | refine zq ?_ _));exact BK101.out) hb);have n3_ := qq.mk (zv (by repeat (first | (with_reducible first | exact HB.out | apply qj | apply qz | apply qk | refine qx ?_ GE101.out) | exact HB.out)) hb);clear BK101;clear HB;have HO106 := n0_;have HO109 := n1_;have BK101 := n2_;have HB := n3_;clear n0_ n1_ n2_ n3_;(try clear hb);(try clear hb2);(try clear hk);(try clear hi);(try clear ho0);(try clear ho1);obtain ⟨Ao20,co20,eo20⟩ := Kd.R_slice HO106.out;subst eo20;obtain ⟨Ao21,co21,eo21⟩ := Kd.R_slice HO109.out;subst eo21) | ((with_reducible refine jv (f := 11) rfl ?_);refine goesL_ (some 14) rfl rfl Tryz.func11 (by kernel_rfl) rfl #[.agg #[.string t103,.slice Ao20 t104.length co20,.slice Ao21 t107.length co21]] rfl (by (try simp only [List.map_toArray,List.map_cons,List.map_nil]);first | done | rfl | (simp only [List.length_drop,List.length_take];rfl)) ?_;(with_reducible refine (qjj.calls k t103 _ _ t104 _ _ t107 t110 _ ?side1 ?side2 ?side3 ?side4 A8.out).mono ?_);(case side1 => repeat (first | exact (Kd.R_reads' HO106.out).2.2 | (with_reducible refine Kd.C_alloc ?_ _) | (with_reducible refine Kd.C_drewN ?_ _) | (with_reducible refine Kd.C_drew ?_)));(case side2 => exact (Kd.R_reads' HO106.out).2.1);(case side3 => repeat (first | exact (Kd.R_reads' HO109.out).2.2 | (with_reducible refine Kd.C_alloc ?_ _) | (with_reducible refine Kd.C_drewN ?_ _) | (with_reducible refine Kd.C_drew ?_)));(case side4 => exact (Kd.R_reads' HO109.out).2.1);rintro e w22 ⟨rfl,hb⟩;refine ⟨_,rfl,?_⟩;have n0_ := qq.mk (Kd.R_below (by (with_reducible repeat (first | apply Kd.jq | apply Kd.zx | apply Kd.jz));exact HO106.out) hb);have n1_ := qq.mk (Kd.R_below (by (with_reducible repeat (first | apply Kd.jq | apply Kd.zx | apply Kd.jz));exact HO109.out) hb);have n2_ := qq.mk (kw (g := gb101) (o := .cells #[.string a0_0,.slice A0_1 l0_1.length c0_1,.slice A0_2 l0_2.length c0_2] 36 (0,0)) (by (with_reducible repeat (first | refine zz ?_ _ | refine zj ?_ | refine zq ?_ _));exact BK101.out) hb);have n3_ := qq.mk (zv (by repeat (first | (with_reducible first | exact HB.out | apply qj | apply qz | apply qk | refine qx ?_ GE101.out) | exact HB.out)) hb);clear HO106;clear HO109;clear BK101;clear HB;have HO106 := n0_;have HO109 := n1_;have BK101 := n2_;have HB := n3_;clear n0_ n1_ n2_ n3_;(try clear hb);(try clear hb2);(try clear hk);(try clear hi);have hcz23_0 : w22.cell? ⟨gb101,0,none⟩ = some (.string a0_0) := (qw BK101.out 0).trans rfl;have hcz23_1 : w22.cell? ⟨gb101,1,none⟩ = some (.slice A0_1 l0_1.length c0_1) := (qw BK101.out 1).trans rfl;have hcz23_2 : w22.cell? ⟨gb101,2,none⟩ = some (.slice A0_2 l0_2.length c0_2) := (qw BK101.out 2).trans rfl;have hfz23_0 := qv BK101.out 0;have hfz23_1 := qv BK101.out 1;have hfz23_2 := qv BK101.out 2) | ((with_reducible refine jv (f := 12) rfl ?_);refine goesL_ (some 16) rfl rfl Tryz.func12 (by kernel_rfl) rfl #[.agg #[.string a0_0,.slice A0_1 l0_1.length c0_1,.slice A0_2 l0_2.length c0_2]] rfl (by (try simp only [List.map_toArray,List.map_cons,List.map_nil]);first | done | rfl | (simp only [List.length_drop,List.length_take];rfl)) ?_;(with_reducible refine (qzx.calls k a0_0 _ _ l0_1 _ _ l0_2 t111 t112 t115 _ ?side1 ?side2 ?side3 ?side4 A9.out).mono ?_);(case side1 => repeat (first | exact (Kd.C_below HR0_1.out HB.out) | (with_reducible refine Kd.C_alloc ?_ _) | (with_reducible refine Kd.C_drewN ?_ _) | (with_reducible refine Kd.C_drew ?_)));(case side2 => exact HC0_1.out);(case side3 => repeat (first | exact (Kd.C_below HR0_2.out HB.out) | (with_reducible refine Kd.C_alloc ?_ _) | (with_reducible refine Kd.C_drewN ?_ _) | (with_reducible refine Kd.C_drew ?_)));(case side4 => exact HC0_2.out);rintro e w24 ⟨v113,v116,rfl,ho0,ho1,hb⟩;refine ⟨_,rfl,?_⟩;have n0_ := qq.mk (Kd.R_elder' (by (with_reducible repeat (first | apply Kd.jq | apply Kd.zx | apply Kd.jz));exact HO106.out) (Kd.R_base ho0) hb);have n1_ := qq.mk (Kd.R_elder' (by (with_reducible repeat (first | apply Kd.jq | apply Kd.zx | apply Kd.jz));exact HO109.out) (Kd.R_base ho1) hb);have n2_ := qq.mk (Kd.R_lower (Kd.R_new' ho0 (Kd.R_lt (by (with_reducible repeat (first | apply Kd.jq | apply Kd.zx | apply Kd.jz));exact HO106.out))) (zw (by repeat (first | (with_reducible first | exact HB.out | apply qj | apply qz | apply qk | refine qx ?_ GE101.out) | exact HB.out))));have n3_ := qq.mk (Kd.R_lower (Kd.R_new' ho1 (Kd.R_lt (by (with_reducible repeat (first | apply Kd.jq | apply Kd.zx | apply Kd.jz));exact HO109.out))) (zw (by repeat (first | (with_reducible first | exact HB.out | apply qj | apply qz | apply qk | refine qx ?_ GE101.out) | exact HB.out))));have n4_ := qq.mk (kw (g := gb101) (o := .cells #[.string a0_0,.slice A0_1 l0_1.length c0_1,.slice A0_2 l0_2.length c0_2] 36 (0,0)) (by (with_reducible repeat (first | refine zz ?_ _ | refine zj ?_ | refine zq ?_ _));exact BK101.out) hb);have n5_ := qq.mk (zv (by repeat (first | (with_reducible first | exact HB.out | apply qj | apply qz | apply qk | refine qx ?_ GE101.out) | exact HB.out)) hb);clear HO106;clear HO109;clear BK101;clear HB;have HO106 := n0_;have HO109 := n1_;have HO114 := n2_;have HO117 := n3_;have BK101 := n4_;have HB := n5_;clear n0_ n1_ n2_ n3_ n4_ n5_;(try clear hb);(try clear hb2);(try clear hk);(try clear hi);(try clear ho0);(try clear ho1)) | ((with_reducible refine gate_dst (N := 5) rfl ?_);refine box_event ?hg (N := 5) ?hd (cs := #[.string (⟨#[]⟩ : ByteArray),.slice none 0 0,.slice none 0 0]) (t := 41) ?hr ?_;(case hd => rfl);(case hg => rfl);(case hr => first | (go_simp;done) | (go_simp;rfl));intro gb118 hg w25 hbox hb;have n0_ := qq.mk (Kd.R_below (by (with_reducible repeat (first | apply Kd.jq | apply Kd.zx | apply Kd.jz));exact HO106.out) hb);have n1_ := qq.mk (Kd.R_below (by (with_reducible repeat (first | apply Kd.jq | apply Kd.zx | apply Kd.jz));exact HO109.out) hb);have n2_ := qq.mk (Kd.R_below (by (with_reducible repeat (first | apply Kd.jq | apply Kd.zx | apply Kd.jz));exact HO114.out) hb);have n3_ := qq.mk (Kd.R_below (by (with_reducible repeat (first | apply Kd.jq | apply Kd.zx | apply Kd.jz));exact HO117.out) hb);have n4_ := qq.mk (kw (g := gb101) (o := .cells #[.string a0_0,.slice A0_1 l0_1.length c0_1,.slice A0_2 l0_2.length c0_2] 36 (0,0)) (by (with_reducible repeat (first | refine zz ?_ _ | refine zj ?_ | refine zq ?_ _));exact BK101.out) hb);have n5_ := qq.mk (zv (by repeat (first | (with_reducible first | exact HB.out | apply qj | apply qz | apply qk | refine qx ?_ GE101.out) | exact HB.out)) hb);have n6_ := qq.mk (hbox);have n7_ := qq.mk ((by rw [hg];exact (zw (by repeat (first | (with_reducible first | exact HB.out | apply qj | apply qz | apply qk | refine qx ?_ GE101.out) | exact HB.out))) : w.heap.size ≤ gb118));have n8_ := qq.mk ((by rw [hg];exact (zw (by repeat (first | (with_reducible first | exact HB.out | apply qj | apply qz | apply qk | refine qx ?_ GE101.out) | exact HB.out))) : w.heap.size ≤ gb118));have n9_ := qq.mk ((by rw [hg];exact Nat.ne_of_lt (blk_lt (g := gb101) (o := .cells #[.string a0_0,.slice A0_1 l0_1.length c0_1,.slice A0_2 l0_2.length c0_2] 36 (0,0)) (by (with_reducible repeat (first | refine zz ?_ _ | refine zj ?_ | refine zq ?_ _));exact BK101.out)) : gb101 ≠ gb118));have n10_ := qq.mk ((by rw [hg];exact Nat.ne_of_gt (blk_lt (g := gb101) (o := .cells #[.string a0_0,.slice A0_1 l0_1.length c0_1,.slice A0_2 l0_2.length c0_2] 36 (0,0)) (by (with_reducible repeat (first | refine zz ?_ _ | refine zj ?_ | refine zq ?_ _));exact BK101.out)) : gb118 ≠ gb101));clear HO106;clear HO109;clear HO114;clear HO117;clear BK101;clear HB;have HO106 := n0_;have HO109 := n1_;have HO114 := n2_;have HO117 := n3_;have BK101 := n4_;have HB := n5_;have BK118 := n6_;have GW118 := n7_;have GE118 := n8_;have NB101_118 := n9_;have NB118_101 := n10_;clear n0_ n1_ n2_ n3_ n4_ n5_ n6_ n7_ n8_ n9_ n10_;clear hb hbox hg;have hnb26 := NB118_101.out;have hnc26 := NB101_118.out;have hcz27_0 : w25.cell? ⟨gb118,0,none⟩ = some (.string (⟨#[]⟩ : ByteArray)) := (qw BK118.out 0).trans rfl;have hcz27_1 : w25.cell? ⟨gb118,1,none⟩ = some (.slice none 0 0) := (qw BK118.out 1).trans rfl;have hcz27_2 : w25.cell? ⟨gb118,2,none⟩ = some (.slice none 0 0) := (qw BK118.out 2).trans rfl;have hfz27_0 := qv BK118.out 0;have hfz27_1 := qv BK118.out 1;have hfz27_2 := qv BK118.out 2;obtain ⟨Ao28,co28,eo28⟩ := Kd.R_slice HO114.out;subst eo28;obtain ⟨Ao29,co29,eo29⟩ := Kd.R_slice HO117.out;subst eo29) | ((with_reducible refine jv (f := 13) rfl ?_);refine goesL_ (some 18) rfl rfl Tryz.func13 (by kernel_rfl) rfl #[.agg #[.string t111,.slice Ao28 t112.length co28,.slice Ao29 t115.length co29]] rfl (by (try simp only [List.map_toArray,List.map_cons,List.map_nil]);first | done | rfl | (simp only [List.length_drop,List.length_take];rfl)) ?_;(with_reducible refine (wq.calls k t111 _ _ t112 _ _ t115 t119 _ ?tabw ?side1 ?side2 ?side3 ?side4 A10.out).mono ?_);(case tabw => repeat (first | exact HTAB.out | exact TabW_below HTAB.out HB.out | exact TabW_below HTAB.out (by repeat (first | exact HB.out | apply qj | apply qz | apply qk | refine qx ?_ GE101.out | refine qx ?_ GE118.out)) | (with_reducible refine TabW_drewN ?_ _) | (with_reducible refine TabW_drew ?_) | (with_reducible refine TabW_alloc ?_ _)));(case side1 => refine (Kd.R_reads' (e := 30) (base := w.heap.size) (ok := fun k_ => (True ∧ some k_ ≠ (.slice Ao20 t104.length co20 : Value).ownBlock)) (n := t112.length) (c := co28) ?_).2.2;exact (by (with_reducible repeat (first | apply Kd.jq | apply Kd.zx | apply Kd.jz));exact (Kd.R_mono (Kd.R_far (p := ⟨gb118,2,none⟩) (Kd.R_far (p := ⟨gb118,1,none⟩) (Kd.R_far (p := ⟨gb118,0,none⟩) (Kd.R_types HO114.out BK118.out (by decide)) (fun _ hk => hk.2) (.string t111)) (fun _ hk => hk.2) (.slice Ao28 t112.length co28)) (fun _ hk => hk.2) (.slice Ao29 t115.length co29)) (fun _ h_ => h_.1))));(case side2 => exact (Kd.R_reads' HO114.out).2.1);(case side3 => refine (Kd.R_reads' (e := 5) (base := w.heap.size) (ok := fun k_ => (True ∧ some k_ ≠ (.slice Ao21 t107.length co21 : Value).ownBlock)) (n := t115.length) (c := co29) ?_).2.2;exact (by (with_reducible repeat (first | apply Kd.jq | apply Kd.zx | apply Kd.jz));exact (Kd.R_mono (Kd.R_far (p := ⟨gb118,2,none⟩) (Kd.R_far (p := ⟨gb118,1,none⟩) (Kd.R_far (p := ⟨gb118,0,none⟩) (Kd.R_types HO117.out BK118.out (by decide)) (fun _ hk => hk.2) (.string t111)) (fun _ hk => hk.2) (.slice Ao28 t112.length co28)) (fun _ hk => hk.2) (.slice Ao29 t115.length co29)) (fun _ h_ => h_.1))));(case side4 => exact (Kd.R_reads' HO117.out).2.1);rintro e w30 ⟨rfl,hb⟩;refine ⟨_,rfl,?_⟩;have n0_ := qq.mk (Kd.R_below (by (with_reducible repeat (first | apply Kd.jq | apply Kd.zx | apply Kd.jz));exact (Kd.R_mono (Kd.R_far (p := ⟨gb118,2,none⟩) (Kd.R_far (p := ⟨gb118,1,none⟩) (Kd.R_far (p := ⟨gb118,0,none⟩) (Kd.R_types HO106.out BK118.out (by decide)) (fun _ hk => hk.2) (.string t111)) (fun _ hk => hk.2) (.slice Ao28 t112.length co28)) (fun _ hk => hk.2) (.slice Ao29 t115.length co29)) (fun _ h_ => h_.1))) hb);have n1_ := qq.mk (Kd.R_below (by (with_reducible repeat (first | apply Kd.jq | apply Kd.zx | apply Kd.jz));exact (Kd.R_mono (Kd.R_far (p := ⟨gb118,2,none⟩) (Kd.R_far (p := ⟨gb118,1,none⟩) (Kd.R_far (p := ⟨gb118,0,none⟩) (Kd.R_types HO109.out BK118.out (by decide)) (fun _ hk => hk.2) (.string t111)) (fun _ hk => hk.2) (.slice Ao28 t112.length co28)) (fun _ hk => hk.2) (.slice Ao29 t115.length co29)) (fun _ h_ => h_.1))) hb);have n2_ := qq.mk (Kd.R_below (by (with_reducible repeat (first | apply Kd.jq | apply Kd.zx | apply Kd.jz));exact (Kd.R_mono (Kd.R_far (p := ⟨gb118,2,none⟩) (Kd.R_far (p := ⟨gb118,1,none⟩) (Kd.R_far (p := ⟨gb118,0,none⟩) (Kd.R_types HO114.out BK118.out (by decide)) (fun _ hk => hk.2) (.string t111)) (fun _ hk => hk.2) (.slice Ao28 t112.length co28)) (fun _ hk => hk.2) (.slice Ao29 t115.length co29)) (fun _ h_ => h_.1))) hb);have n3_ := qq.mk (Kd.R_below (by (with_reducible repeat (first | apply Kd.jq | apply Kd.zx | apply Kd.jz));exact (Kd.R_mono (Kd.R_far (p := ⟨gb118,2,none⟩) (Kd.R_far (p := ⟨gb118,1,none⟩) (Kd.R_far (p := ⟨gb118,0,none⟩) (Kd.R_types HO117.out BK118.out (by decide)) (fun _ hk => hk.2) (.string t111)) (fun _ hk => hk.2) (.slice Ao28 t112.length co28)) (fun _ hk => hk.2) (.slice Ao29 t115.length co29)) (fun _ h_ => h_.1))) hb);have n4_ := qq.mk (kw (g := gb101) (o := .cells #[.string a0_0,.slice A0_1 l0_1.length c0_1,.slice A0_2 l0_2.length c0_2] 36 (0,0)) (by (with_reducible repeat (first | refine zz ?_ _ | refine zj ?_ | refine zq ?_ _));refine blk_far ?_ NB101_118.out _;(with_reducible repeat (first | refine zz ?_ _ | refine zj ?_ | refine zq ?_ _));refine blk_far ?_ NB101_118.out _;(with_reducible repeat (first | refine zz ?_ _ | refine zj ?_ | refine zq ?_ _));refine blk_far ?_ NB101_118.out _;(with_reducible repeat (first | refine zz ?_ _ | refine zj ?_ | refine zq ?_ _));exact BK101.out) hb);have n5_ := qq.mk (kw (g := gb118) (o := .cells #[.string t111,.slice Ao28 t112.length co28,.slice Ao29 t115.length co29] 41 (0,0)) (by (with_reducible repeat (first | refine zz ?_ _ | refine zj ?_ | refine zq ?_ _));refine blk_put (cs := #[.string t111,.slice Ao28 t112.length co28,.slice none 0 0]) ?_ 2 _ rfl;(with_reducible repeat (first | refine zz ?_ _ | refine zj ?_ | refine zq ?_ _));refine blk_put (cs := #[.string t111,.slice none 0 0,.slice none 0 0]) ?_ 1 _ rfl;(with_reducible repeat (first | refine zz ?_ _ | refine zj ?_ | refine zq ?_ _));refine blk_put (cs := #[.string (⟨#[]⟩ : ByteArray),.slice none 0 0,.slice none 0 0]) ?_ 0 _ rfl;(with_reducible repeat (first | refine zz ?_ _ | refine zj ?_ | refine zq ?_ _));exact BK118.out) hb);have n6_ := qq.mk (zv (by repeat (first | (with_reducible first | exact HB.out | apply qj | apply qz | apply qk | refine qx ?_ GE101.out | refine qx ?_ GE118.out) | exact HB.out)) hb);clear HO106;clear HO109;clear HO114;clear HO117;clear BK101;clear BK118;clear HB;have HO106 := n0_;have HO109 := n1_;have HO114 := n2_;have HO117 := n3_;have BK101 := n4_;have BK118 := n5_;have HB := n6_;clear n0_ n1_ n2_ n3_ n4_ n5_ n6_;(try clear hb);(try clear hb2);(try clear hk);(try clear hi)))
    have n0_ := qq.mk (Kd.jz HO106.out)
    have n1_ := qq.mk (Kd.jz HO109.out)
    have n2_ := qq.mk (Kd.jz HO114.out)
    have n3_ := qq.mk (Kd.jz HO117.out)
    have n4_ := qq.mk (zj BK101.out)
    have n5_ := qq.mk (zj BK118.out)
    have n6_ := qq.mk (qk HB.out)
    clear HO106
    clear HO109
    clear HO114
    clear HO117
    clear BK101
    clear BK118
    clear HB
    have HO106 := n0_
    have HO109 := n1_
    have HO114 := n2_
    have HO117 := n3_
    have BK101 := n4_
    have BK118 := n5_
    have HB := n6_
    clear n0_ n1_ n2_ n3_ n4_ n5_ n6_
    refine start_ (n := 5) (S := fun w' => w'.cell? ⟨gb118,0,none⟩ = some (.string t111) ∧ w'.cell? ⟨gb118,1,none⟩ = some (.slice Ao28 t112.length co28) ∧ w'.cell? ⟨gb118,2,none⟩ = some (.slice Ao29 t115.length co29) ∧ w'.cell? ⟨gb101,0,none⟩ = some (.string a0_0) ∧ w'.cell? ⟨gb101,1,none⟩ = some (.slice A0_1 l0_1.length c0_1) ∧ w'.cell? ⟨gb101,2,none⟩ = some (.slice A0_2 l0_2.length c0_2)) (ds := []) #[false,false,false,false,false] (by kernel_rfl) rfl rfl ⟨(qw BK118.out 0).trans rfl,(qw BK118.out 1).trans rfl,(qw BK118.out 2).trans rfl,(qw BK101.out 0).trans rfl,(qw BK101.out 1).trans rfl,(qw BK101.out 2).trans rfl⟩ (fun hHeld => ?_)
    generalize w30.drew = w31 at HO106 HO109 HO114 HO117 BK101 BK118 HB hHeld ⊢
    refine take_ (i := 0) (N := some 22) (v := ?_) (a' := ?_) #[true,false,false,false,false] rfl rfl (by kernel_rfl) (fun _ _ _ h => h) (Or.inl ⟨by rfl,?_⟩) hHeld ?_ ?_
    rotate_left
    ·rintro w' ⟨s0,s1,s2,s3,s4,s5⟩
     go_simp
     with_reducible rfl
    rotate_left
    ·simp only [Act.put,List.setIfInBounds_toArray,List.set_cons_zero,List.set_cons_succ,i64_w,i32_w]
     rfl
    refine take_ (i := 1) (N := some 23) (v := ?_) (a' := ?_) #[true,true,false,false,false] rfl rfl (by kernel_rfl) (fun _ _ _ h => h) (Or.inl ⟨by rfl,?_⟩) hHeld ?_ ?_
    rotate_left
    ·rintro w' ⟨s0,s1,s2,s3,s4,s5⟩
     go_simp
     with_reducible rfl
    rotate_left
    ·simp only [Act.put,List.setIfInBounds_toArray,List.set_cons_zero,List.set_cons_succ,i64_w,i32_w]
     rfl
    refine one_ (i := 2) (N := some 24) #[true,true,true,false,false] rfl rfl (by kernel_rfl) (by decide) (fun K hK => ?_)
    refine goes_ Tryz.func12 (by kernel_rfl) rfl #[.agg #[.string a0_0,.slice A0_1 l0_1.length c0_1,.slice A0_2 l0_2.length c0_2]] (by rfl) rfl rfl (by (try simp only [List.map_toArray,List.map_cons,List.map_nil]);first | done | rfl | (simp only [List.length_drop,List.length_take];rfl)) ?_
    with_reducible refine (qzx.calls k a0_0 _ _ l0_1 _ _ l0_2 t120 t121 t124 _ ?side1 ?side2 ?side3 ?side4 A12.out).mono ?_
    (case side1 => repeat (first | exact (Kd.C_below HR0_1.out HB.out) | (with_reducible refine Kd.C_alloc ?_ _) | (with_reducible refine Kd.C_drewN ?_ _) | (with_reducible refine Kd.C_drew ?_)))
    (case side2 => exact HC0_1.out)
    (case side3 => repeat (first | exact (Kd.C_below HR0_2.out HB.out) | (with_reducible refine Kd.C_alloc ?_ _) | (with_reducible refine Kd.C_drewN ?_ _) | (with_reducible refine Kd.C_drew ?_)))
    (case side4 => exact HC0_2.out)
    rintro e w32 ⟨v122,v125,rfl,ho0,ho1,hb⟩
    refine ⟨_,rfl,?_⟩
    have n0_ := qq.mk (Kd.R_elder' (by (with_reducible repeat (first | apply Kd.jq | apply Kd.zx | apply Kd.jz));exact HO106.out) (Kd.R_base ho0) hb)
    have n1_ := qq.mk (Kd.R_elder' (by (with_reducible repeat (first | apply Kd.jq | apply Kd.zx | apply Kd.jz));exact HO109.out) (Kd.R_base ho1) hb)
    have n2_ := qq.mk (Kd.R_elder' (by (with_reducible repeat (first | apply Kd.jq | apply Kd.zx | apply Kd.jz));exact HO114.out) (Kd.R_base ho0) hb)
    have n3_ := qq.mk (Kd.R_elder' (by (with_reducible repeat (first | apply Kd.jq | apply Kd.zx | apply Kd.jz));exact HO117.out) (Kd.R_base ho1) hb)
    have n4_ := qq.mk (Kd.R_lower (Kd.R_new' (Kd.R_new' ho0 (Kd.R_lt (by (with_reducible repeat (first | apply Kd.jq | apply Kd.zx | apply Kd.jz));exact HO106.out))) (Kd.R_lt (by (with_reducible repeat (first | apply Kd.jq | apply Kd.zx | apply Kd.jz));exact HO114.out))) (zw (by repeat (first | (with_reducible first | exact HB.out | apply qj | apply qz | apply qk | refine qx ?_ GE101.out | refine qx ?_ GE118.out) | exact HB.out))))
    have n5_ := qq.mk (Kd.R_lower (Kd.R_new' (Kd.R_new' ho1 (Kd.R_lt (by (with_reducible repeat (first | apply Kd.jq | apply Kd.zx | apply Kd.jz));exact HO109.out))) (Kd.R_lt (by (with_reducible repeat (first | apply Kd.jq | apply Kd.zx | apply Kd.jz));exact HO117.out))) (zw (by repeat (first | (with_reducible first | exact HB.out | apply qj | apply qz | apply qk | refine qx ?_ GE101.out | refine qx ?_ GE118.out) | exact HB.out))))
    have n6_ := qq.mk (kw (g := gb101) (o := .cells #[.string a0_0,.slice A0_1 l0_1.length c0_1,.slice A0_2 l0_2.length c0_2] 36 (0,0)) (by (with_reducible repeat (first | refine zz ?_ _ | refine zj ?_ | refine zq ?_ _));exact BK101.out) hb)
    have n7_ := qq.mk (kw (g := gb118) (o := .cells #[.string t111,.slice Ao28 t112.length co28,.slice Ao29 t115.length co29] 41 (0,0)) (by (with_reducible repeat (first | refine zz ?_ _ | refine zj ?_ | refine zq ?_ _));exact BK118.out) hb)
    have n8_ := qq.mk (zv (by repeat (first | (with_reducible first | exact HB.out | apply qj | apply qz | apply qk | refine qx ?_ GE101.out | refine qx ?_ GE118.out) | exact HB.out)) hb)
    clear HO106
    clear HO109
    clear HO114
    clear HO117
    clear BK101
    clear BK118
    clear HB
    have HO106 := n0_
    have HO109 := n1_
    have HO114 := n2_
    have HO117 := n3_
    have HO123 := n4_
    have HO126 := n5_
    have BK101 := n6_
    have BK118 := n7_
    have HB := n8_
    clear n0_ n1_ n2_ n3_ n4_ n5_ n6_ n7_ n8_
    (try clear hb)
    (try clear hb2)
    (try clear hk)
    (try clear hi)
    (try clear ho0)
    (try clear ho1)
    obtain ⟨Ao33,co33,eo33⟩ := Kd.R_slice HO123.out
    (first | subst eo33 | (injection eo33 with f1_ f2_ f3_;have f4_ := f1_.symm;have f5_ := f3_.symm;clear f1_ f2_ f3_;subst f4_;subst f5_))
    obtain ⟨Ao34,co34,eo34⟩ := Kd.R_slice HO126.out
    (first | subst eo34 | (injection eo34 with f1_ f2_ f3_;have f4_ := f1_.symm;have f5_ := f3_.symm;clear f1_ f2_ f3_;subst f4_;subst f5_))
    refine hK.out _ _ ⟨(qw BK118.out 0).trans rfl,(qw BK118.out 1).trans rfl,(qw BK118.out 2).trans rfl,(qw BK101.out 0).trans rfl,(qw BK101.out 1).trans rfl,(qw BK101.out 2).trans rfl⟩ (fun hHeld => ?_)
    clear hK K
    refine norm_ (a' := ?_) ?_ ?_
    rotate_left
    ·show Act.put _ (some 24) _ = _
     simp only [Act.put,List.setIfInBounds_toArray,List.set_cons_zero,List.set_cons_succ,i64_w,i32_w]
     rfl
    refine one_ (i := 3) (N := some 25) #[true,true,true,true,false] rfl rfl (by kernel_rfl) (by decide) (fun K hK => ?_)
    refine goes_ Tryz.func14 (by kernel_rfl) rfl #[.agg #[.string t111,.slice Ao28 t112.length co28,.slice Ao29 t115.length co29],.agg #[.string t120,.slice Ao33 t121.length co33,.slice Ao34 t124.length co34]] (by rfl) rfl rfl (by (try simp only [List.map_toArray,List.map_cons,List.map_nil]);first | done | rfl | (simp only [List.length_drop,List.length_take];rfl)) ?_
    with_reducible refine (qqk.calls k t111 _ _ t112 _ _ t115 t120 _ _ t121 _ _ t124 true _ ?side1 ?side2 ?side3 ?side4 ?side5 ?side6 ?side7 ?side8 A13.out).mono ?_
    (case side1 => repeat (first | exact (Kd.R_reads' HO114.out).2.2 | (with_reducible refine Kd.C_alloc ?_ _) | (with_reducible refine Kd.C_drewN ?_ _) | (with_reducible refine Kd.C_drew ?_)))
    (case side2 => exact (Kd.R_reads' HO114.out).2.1)
    (case side3 => repeat (first | exact (Kd.R_reads' HO117.out).2.2 | (with_reducible refine Kd.C_alloc ?_ _) | (with_reducible refine Kd.C_drewN ?_ _) | (with_reducible refine Kd.C_drew ?_)))
    (case side4 => exact (Kd.R_reads' HO117.out).2.1)
    (case side5 => repeat (first | exact (Kd.R_reads' HO123.out).2.2 | (with_reducible refine Kd.C_alloc ?_ _) | (with_reducible refine Kd.C_drewN ?_ _) | (with_reducible refine Kd.C_drew ?_)))
    (case side6 => exact (Kd.R_reads' HO123.out).2.1)
    (case side7 => repeat (first | exact (Kd.R_reads' HO126.out).2.2 | (with_reducible refine Kd.C_alloc ?_ _) | (with_reducible refine Kd.C_drewN ?_ _) | (with_reducible refine Kd.C_drew ?_)))
    (case side8 => exact (Kd.R_reads' HO126.out).2.1)
    rintro e w35 ⟨rfl,hb⟩
    refine ⟨_,rfl,?_⟩
    have n0_ := qq.mk (Kd.R_below (by (with_reducible repeat (first | apply Kd.jq | apply Kd.zx | apply Kd.jz));exact HO106.out) hb)
    have n1_ := qq.mk (Kd.R_below (by (with_reducible repeat (first | apply Kd.jq | apply Kd.zx | apply Kd.jz));exact HO109.out) hb)
    have n2_ := qq.mk (Kd.R_below (by (with_reducible repeat (first | apply Kd.jq | apply Kd.zx | apply Kd.jz));exact HO114.out) hb)
    have n3_ := qq.mk (Kd.R_below (by (with_reducible repeat (first | apply Kd.jq | apply Kd.zx | apply Kd.jz));exact HO117.out) hb)
    have n4_ := qq.mk (Kd.R_below (by (with_reducible repeat (first | apply Kd.jq | apply Kd.zx | apply Kd.jz));exact HO123.out) hb)
    have n5_ := qq.mk (Kd.R_below (by (with_reducible repeat (first | apply Kd.jq | apply Kd.zx | apply Kd.jz));exact HO126.out) hb)
    have n6_ := qq.mk (kw (g := gb101) (o := .cells #[.string a0_0,.slice A0_1 l0_1.length c0_1,.slice A0_2 l0_2.length c0_2] 36 (0,0)) (by (with_reducible repeat (first | refine zz ?_ _ | refine zj ?_ | refine zq ?_ _));exact BK101.out) hb)
    have n7_ := qq.mk (kw (g := gb118) (o := .cells #[.string t111,.slice Ao28 t112.length co28,.slice Ao29 t115.length co29] 41 (0,0)) (by (with_reducible repeat (first | refine zz ?_ _ | refine zj ?_ | refine zq ?_ _));exact BK118.out) hb)
    have n8_ := qq.mk (zv (by repeat (first | (with_reducible first | exact HB.out | apply qj | apply qz | apply qk | refine qx ?_ GE101.out | refine qx ?_ GE118.out) | exact HB.out)) hb)
    clear HO106
    clear HO109
    clear HO114
    clear HO117
    clear HO123
    clear HO126
    clear BK101
    clear BK118
    clear HB
    have HO106 := n0_
    have HO109 := n1_
    have HO114 := n2_
    have HO117 := n3_
    have HO123 := n4_
    have HO126 := n5_
    have BK101 := n6_
    have BK118 := n7_
    have HB := n8_
    clear n0_ n1_ n2_ n3_ n4_ n5_ n6_ n7_ n8_
    (try clear hb)
    (try clear hb2)
    (try clear hk)
    (try clear hi)
    refine hK.out _ _ ⟨(qw BK118.out 0).trans rfl,(qw BK118.out 1).trans rfl,(qw BK118.out 2).trans rfl,(qw BK101.out 0).trans rfl,(qw BK101.out 1).trans rfl,(qw BK101.out 2).trans rfl⟩ (fun hHeld => ?_)
    clear hK K
    refine norm_ (a' := ?_) ?_ ?_
    rotate_left
    ·show Act.put _ (some 25) _ = _
     simp only [Act.put,List.setIfInBounds_toArray,List.set_cons_zero,List.set_cons_succ,i64_w,i32_w]
     rfl
    refine pure_ (i := 4) (N := some 26) (v := ?_) (a' := ?_) #[true,true,true,true,true] rfl rfl (by kernel_rfl) (fun _ _ _ h => h) (Or.inl ⟨by rfl,?_⟩) ?_ ?_
    rotate_left
    ·intro w'
     go_simp
     with_reducible rfl
    rotate_left
    ·simp only [Act.put,List.setIfInBounds_toArray,List.set_cons_zero,List.set_cons_succ,i64_w,i32_w]
     rfl
    refine done_ (by kernel_rfl) ?_
    try go_wp2
    go_ret
    exact ⟨by first | rfl | (simp [*,jk,jj] <;> rfl),by repeat (first | (with_reducible first | exact HB.out | apply qj | apply qz | apply qk | refine qx ?_ GE101.out | refine qx ?_ GE118.out) | exact HB.out)⟩
   ·replace c14 := Bool.eq_false_iff.mpr c14
    subst c14
    have H1 : (none) = some r := by rw [if_neg (show ¬ (false = true) by decide)] at H;exact H
    clear H
    have H := H1
    clear H1
    exact absurd H (by simp)
  ·rw [if_neg c11] at H
   exact absurd H (by simp)
open Go.RowKit Go.Proofs.YtnbbbjfjkhglhaaGreatDoor.Read Go.Proofs.YtnbbbjfjkhglhaaGreatDoorW.PrintWords
def ok23 (x : S23) : Prop := okI x.f0 ∧ okI x.f1 ∧ okS x.f2 ∧ okS x.f3
theorem tells23 : Tells Tryz.prog 23 k23 ok23 :=
 tells_iso (fun x : S23 => (x.f0,x.f1,x.f2,x.f3)) (fun a => ⟨a.1,a.2.1,a.2.2.1,a.2.2.2⟩) (fun _ => rfl) (tells_struct Tryz.underlying23 (by kernel_rfl) (fs_cons rfl (tellsI Tryz.underlying3 (by kernel_rfl)) (fs_cons rfl (tellsI Tryz.underlying3 (by kernel_rfl)) (fs_cons rfl (tellsS Tryz.underlying9 (by kernel_rfl)) (fs_one rfl (tellsS Tryz.underlying9 (by kernel_rfl)))))))
def ok25 (x : S25) : Prop := okS x.f0 ∧ okI x.f1 ∧ okS x.f2 ∧ ok23 x.f3
theorem tells25 : Tells Tryz.prog 25 k25 ok25 :=
 tells_iso (fun x : S25 => (x.f0,x.f1,x.f2,x.f3)) (fun a => ⟨a.1,a.2.1,a.2.2.1,a.2.2.2⟩) (fun _ => rfl) (tells_struct Tryz.underlying25 (by kernel_rfl) (fs_cons rfl (tellsS Tryz.underlying9 (by kernel_rfl)) (fs_cons rfl (tellsI Tryz.underlying3 (by kernel_rfl)) (fs_cons rfl (tellsS Tryz.underlying9 (by kernel_rfl)) (fs_one rfl tells23)))))
def qqq.Pure : Prop := ∀ (a0_0 : ByteArray) (l0_1 : (List S25)) (l0_2 : (List Int)),okS a0_0 → (okL ok25) l0_1 → (okL okB) l0_2 → ∃ k,qqq.f k a0_0 l0_1 l0_2 = some true
def prtN (s : ByteArray) : Nat → Bool
 | 0 => true
 | d + 1 => if bt s ((s.size - (d + 1) : Nat) : Int) < 32 then false else if bt s ((s.size - (d + 1) : Nat) : Int) > 126 then false else prtN s d
def prt (s : ByteArray) : Bool := prtN s s.size
theorem l1Printed_l0 (s : ByteArray) (hs : s.size ≤ 9223372036854775807) (d : Nat) : ∀ (k i : Nat),s.size - i = d → i ≤ s.size → d < k → qkx.l0 k s i = some (prtN s d) := by
 induction d with
 | zero =>
  intro k i hd hi hk
  obtain ⟨k,rfl⟩ : ∃ m,k = m + 1 := ⟨k - 1,by omega⟩
  simp only [qkx.l0]
  rw [if_neg (by omega)];rfl
 | succ d ih =>
  intro k i hd hi hk
  obtain ⟨k,rfl⟩ : ∃ m,k = m + 1 := ⟨k - 1,by omega⟩
  have e0 : s.size - (d + 1) = i := by omega
  simp only [qkx.l0,prtN,e0]
  rw [if_pos (by omega),if_pos (by omega),w64 (by omega) (by omega),show ((i : Int) + 1) = ((i + 1 : Nat) : Int) from rfl,ih k (i + 1) (by omega) (by omega) (by omega)]
  split
  ·rfl
  ·split <;> rfl
theorem l1Printed_eq (s : ByteArray) (hs : s.size ≤ 9223372036854775807) (k : Nat) (hk : s.size < k) : qkx.f k s = some (prt s) :=
 l1Printed_l0 s hs s.size k 0 (by omega) (by omega) hk
theorem yprinted_l0 (s : ByteArray) (hs : s.size ≤ 9223372036854775807) (d : Nat) : ∀ (k i : Nat),s.size - i = d → i ≤ s.size → d < k → xv.l0 k s (s.size : Int) i = some (prtN s d) := by
 induction d with
 | zero =>
  intro k i hd hi hk
  obtain ⟨k,rfl⟩ : ∃ m,k = m + 1 := ⟨k - 1,by omega⟩
  simp only [xv.l0]
  rw [if_neg (by omega)];rfl
 | succ d ih =>
  intro k i hd hi hk
  obtain ⟨k,rfl⟩ : ∃ m,k = m + 1 := ⟨k - 1,by omega⟩
  have e0 : s.size - (d + 1) = i := by omega
  simp only [xv.l0,prtN,e0]
  rw [if_pos (by omega),if_pos (by omega),if_pos (by omega),w64 (by omega) (by omega),show ((i : Int) + 1) = ((i + 1 : Nat) : Int) from rfl,ih k (i + 1) (by omega) (by omega) (by omega)]
  split
  ·rfl
  ·split <;> rfl
theorem yprinted_eq (s : ByteArray) (lo hi : Int) (hs : s.size ≤ 9223372036854775807) (k : Nat) (hk : s.size + 1 < k) : xv.f k s lo hi = some (decide (lo ≤ s.size) && decide ((s.size : Int) ≤ hi) && prt s) := by
 obtain ⟨k,rfl⟩ : ∃ m,k = m + 1 := ⟨k - 1,by omega⟩
 unfold xv.f
 have e := yprinted_l0 s hs s.size k 0 (by omega) (by omega) (by omega)
 by_cases h1 : (s.size : Int) < lo
 ·rw [if_pos h1]
  simp only [xv.j0,if_true]
  simp;omega
 ·rw [if_neg h1]
  have h1' : decide (lo ≤ (s.size : Int)) = true := decide_eq_true (by omega)
  by_cases h2 : (s.size : Int) ≤ hi
  ·have h2' : decide ((s.size : Int) > hi) = false := decide_eq_false (by omega)
   have h2'' : decide ((s.size : Int) ≤ hi) = true := decide_eq_true h2
   rw [h1',h2',h2'']
   simp only [xv.j0,Bool.false_eq_true,if_false,Bool.true_and]
   exact e
  ·have h2' : decide ((s.size : Int) > hi) = true := decide_eq_true (by omega)
   have h2'' : decide ((s.size : Int) ≤ hi) = false := decide_eq_false h2
   rw [h1',h2',h2'']
   simp [xv.j0]
def nletC (c : Int) : Bool := decide (97 ≤ c ∧ c ≤ 122 ∨ 65 ≤ c ∧ c ≤ 90)
def ndigC (c : Int) : Bool := decide (48 ≤ c ∧ c ≤ 57)
theorem nsletter_eq (c : Int) : qkk.f c = some (nletC c) := by
 unfold qkk.f nletC
 split
 ·split
  ·congr 1;symm;rw [decide_eq_true_eq];omega
  ·split
   ·congr 1;rw [decide_eq_decide];omega
   ·congr 1;symm;rw [decide_eq_false_iff_not];omega
 ·split
  ·congr 1;rw [decide_eq_decide];omega
  ·congr 1;symm;rw [decide_eq_false_iff_not];omega
theorem nsdigit_eq (c : Int) : qkj.f c = some (ndigC c) := by
 unfold qkj.f ndigC
 split
 ·congr 1;rw [decide_eq_decide];omega
 ·congr 1;symm;rw [decide_eq_false_iff_not];omega
theorem niletter_eq (c : Int) : xj.f c = some (nletC c) := by
 unfold xj.f nletC
 split
 ·split
  ·congr 1;symm;rw [decide_eq_true_eq];omega
  ·split
   ·congr 1;rw [decide_eq_decide];omega
   ·congr 1;symm;rw [decide_eq_false_iff_not];omega
 ·split
  ·congr 1;rw [decide_eq_decide];omega
  ·congr 1;symm;rw [decide_eq_false_iff_not];omega
theorem nidigit_eq (c : Int) : wv.f c = some (ndigC c) := by
 unfold wv.f ndigC
 split
 ·congr 1;rw [decide_eq_decide];omega
 ·congr 1;symm;rw [decide_eq_false_iff_not];omega
def nameC (c : Int) : Bool := if nletC c = true then true else if ndigC c = true then true else if c = 95 then true else false
def nameN (s : ByteArray) : Nat → Bool
 | 0 => true
 | d + 1 => if nameC (bt s ((s.size - (d + 1) : Nat) : Int)) = true then nameN s d else false
theorem sName_l0 (s : ByteArray) (hs : s.size ≤ 9223372036854775807) (d : Nat) : ∀ (k i : Nat),s.size - i = d → i ≤ s.size → d < k → qjv.l0 k s i = some (nameN s d) := by
 induction d with
 | zero =>
  intro k i hd hi hk
  obtain ⟨k,rfl⟩ : ∃ m,k = m + 1 := ⟨k - 1,by omega⟩
  simp only [qjv.l0]
  rw [if_neg (by omega)]
  rfl
 | succ d ih =>
  intro k i hd hi hk
  obtain ⟨k,rfl⟩ : ∃ m,k = m + 1 := ⟨k - 1,by omega⟩
  have e0 : s.size - (d + 1) = i := by omega
  simp only [qjv.l0,nameN,e0,nsletter_eq,nsdigit_eq,Option.bind_some]
  rw [if_pos (by omega),if_pos (by omega),w64 (by omega) (by omega),show ((i : Int) + 1) = ((i + 1 : Nat) : Int) from rfl,ih k (i + 1) (by omega) (by omega) (by omega)]
  unfold nameC
  split
  ·simp only [if_true]
  ·split
   ·simp only [if_true]
   ·split <;> simp only [if_true,Bool.false_eq_true,if_false]
theorem iName_l0 (s : ByteArray) (hs : s.size ≤ 9223372036854775807) (d : Nat) : ∀ (k i : Nat),s.size - i = d → i ≤ s.size → d < k → wj.l0 k s (s.size : Int) i = some (nameN s d) := by
 induction d with
 | zero =>
  intro k i hd hi hk
  obtain ⟨k,rfl⟩ : ∃ m,k = m + 1 := ⟨k - 1,by omega⟩
  simp only [wj.l0]
  rw [if_neg (by omega)]
  rfl
 | succ d ih =>
  intro k i hd hi hk
  obtain ⟨k,rfl⟩ : ∃ m,k = m + 1 := ⟨k - 1,by omega⟩
  have e0 : s.size - (d + 1) = i := by omega
  simp only [wj.l0,nameN,e0,xx.f,niletter_eq,nidigit_eq,Option.bind_some]
  rw [if_pos (by omega),if_pos (by omega),if_pos (by omega),w64 (by omega) (by omega),show ((i : Int) + 1) = ((i + 1 : Nat) : Int) from rfl,ih k (i + 1) (by omega) (by omega) (by omega)]
  unfold nameC
  by_cases h1 : nletC (bt s (i : Int)) = true
  ·simp only [h1,if_true,Option.bind_some]
  ·simp only [h1,Bool.false_eq_true,if_false]
   by_cases h2 : ndigC (bt s (i : Int)) = true
   ·simp only [h2,if_true,Option.bind_some]
   ·simp only [h2,Bool.false_eq_true,if_false,Option.bind_some,beq_iff_eq]
    by_cases h3 : bt s (i : Int) = 95
    ·simp only [h3,if_true]
    ·simp only [h3,if_false,Bool.false_eq_true]
def goodName (s : ByteArray) : Bool := if 1 ≤ s.size ∧ s.size ≤ 30 then (if ndigC (bt s 0) = true then false else nameN s s.size) else false
theorem name_size {s : ByteArray} (h : goodName s = true) : 1 ≤ s.size ∧ s.size ≤ 30 := by
 unfold goodName at h
 by_cases h1 : 1 ≤ s.size ∧ s.size ≤ 30
 ·exact h1
 ·rw [if_neg h1] at h;cases h
theorem list_nil_size {s : ByteArray} : s.toList = ([] : List UInt8) ↔ s.size = 0 := by
 rw [ByteArray.toList_eq]
 constructor
 ·intro h
  have := congrArg List.length h
  rwa [data_length] at this
 ·intro h
  exact List.eq_nil_of_length_eq_zero (by rw [data_length];exact h)
theorem specName_ev (s : ByteArray) (hs : s.size ≤ 9223372036854775807) : Ev (fun k => qjv.f k s) (goodName s) := by
 refine ⟨s.size + 3,fun k hk => ?_⟩
 obtain ⟨k,rfl⟩ : ∃ m,k = m + 1 := ⟨k - 1,by omega⟩
 show qjv.f (k + 1) s = _
 simp only [qjv.f,qjv.j0,if_true,goodName]
 by_cases h1 : (s.size : Int) < 1
 ·rw [if_pos h1,if_neg (show ¬ (1 ≤ s.size ∧ s.size ≤ 30) by omega)]
 by_cases h2 : (s.size : Int) > 30
 ·rw [if_neg h1,if_pos h2,if_neg (show ¬ (1 ≤ s.size ∧ s.size ≤ 30) by omega)]
 rw [if_neg h1,if_neg h2,if_pos (show 1 ≤ s.size ∧ s.size ≤ 30 by omega),if_pos (by omega),nsdigit_eq,Option.bind_some]
 by_cases h3 : ndigC (bt s 0) = true
 ·rw [if_pos h3,if_pos h3]
 ·rw [if_neg h3,if_neg h3]
  exact sName_l0 s hs s.size k 0 (by omega) (by omega) (by omega)
theorem implName_ev (s : ByteArray) (hs : s.size ≤ 9223372036854775807) : Ev (fun k => wj.f k s) (goodName s) := by
 refine ⟨s.size + 3,fun k hk => ?_⟩
 obtain ⟨k,rfl⟩ : ∃ m,k = m + 1 := ⟨k - 1,by omega⟩
 show wj.f (k + 1) s = _
 simp only [wj.f,wj.j0,if_true,goodName]
 by_cases h1 : s.size = 0
 ·rw [if_pos (list_nil_size.2 h1),if_neg (show ¬ (1 ≤ s.size ∧ s.size ≤ 30) by omega)]
 by_cases h2 : (s.size : Int) > 30
 ·rw [if_neg (fun e => h1 (list_nil_size.1 e)),if_pos h2,if_neg (show ¬ (1 ≤ s.size ∧ s.size ≤ 30) by omega)]
 rw [if_neg (fun e => h1 (list_nil_size.1 e)),if_neg h2,if_pos (show 1 ≤ s.size ∧ s.size ≤ 30 by omega),if_pos (by omega),nidigit_eq,Option.bind_some]
 by_cases h3 : ndigC (bt s 0) = true
 ·rw [if_pos h3,if_pos h3]
 ·rw [if_neg h3,if_neg h3]
  exact iName_l0 s hs s.size k 0 (by omega) (by omega) (by omega)
theorem Ev.upA {α : Type} {g : Nat → Option α} {r : α} (h : Ev (fun k => g (k + 1)) r) : Ev g r := by
 obtain ⟨n,h⟩ := h
 refine ⟨n + 1,fun k hk => ?_⟩
 obtain ⟨k,rfl⟩ : ∃ m,k = m + 1 := ⟨k - 1,by omega⟩
 exact h k (by omega)
theorem pow_le62 {n : Nat} (h : n ≤ 62) : (2 : Int) ^ n ≤ 4611686018427387904 := by
 have h2 : (2 : Nat) ^ n ≤ 4611686018427387904 := Nat.pow_le_pow_right (show 0 < 2 by decide) h
 have h3 : ((2 ^ n : Nat) : Int) ≤ ((4611686018427387904 : Nat) : Int) := Int.ofNat_le.2 h2
 rw [Int.natCast_pow] at h3
 exact h3
theorem pow_pos2 (n : Nat) : (0 : Int) < 2 ^ n := Int.pow_pos (by decide)
theorem pow2_l0 (n : Nat) (hn : n ≤ 62) (d : Nat) : ∀ (k j : Nat),j + d = n → d < k → qkw.l0 k (n : Int) (2 ^ j) (j : Int) = some (2 ^ n) := by
 induction d with
 | zero =>
  intro k j hj hk
  obtain ⟨k,rfl⟩ : ∃ m,k = m + 1 := ⟨k - 1,by omega⟩
  obtain rfl : j = n := by omega
  rw [qkw.l0,if_neg (by omega)]
 | succ d ih =>
  intro k j hj hk
  obtain ⟨k,rfl⟩ : ∃ m,k = m + 1 := ⟨k - 1,by omega⟩
  have hp := pow_le62 (n := j + 1) (by omega)
  have h0 := pow_pos2 j
  rw [Int.pow_succ] at hp
  have e1 : wrap64 ((2 : Int) ^ j * 2) = 2 ^ (j + 1) := by rw [w64 (by omega) (by omega),Int.pow_succ]
  have e2 : wrap64 ((j : Int) + 1) = ((j + 1 : Nat) : Int) := by rw [w64 (by omega) (by omega)];rfl
  rw [qkw.l0,if_pos (by omega),e1,e2]
  exact ih k (j + 1) (by omega) (by omega)
theorem pow2_eq (n : Nat) (hn : n ≤ 62) (k : Nat) (hk : n < k) : qkw.f k (n : Int) = some (2 ^ n) := pow2_l0 n hn n k 0 (by omega) hk
def blkOk (n : Int) : Prop := 0 ≤ n ∧ n % 64 ≤ 32 ∧ n / 64 < 4294967296 ∧ n / 64 % 2 ^ (32 - n % 64).toNat = 0
instance (n : Int) : Decidable (blkOk n) := by unfold blkOk;infer_instance
def noTexts (t ty : ByteArray) : Bool := decide (t.size = 0) && decide (ty.size = 0)
def goodAtom (k n : Int) (t ty : ByteArray) : Bool :=
 if k = 1 then noTexts t ty && decide (n = 0 ∨ n = 1)
 else if k = 2 ∨ k = 5 then noTexts t ty
 else if k = 3 then decide (n = 0 ∧ ty.size = 0) && (decide (t.size ≤ 200) && prt t)
 else if k = 4 then decide (n = 0) && (goodName ty && (decide (1 ≤ t.size ∧ t.size ≤ 200) && prt t))
 else if k = 6 then noTexts t ty && decide (blkOk n)
 else if k = 7 then noTexts t ty && decide (-100000000000 ≤ n ∧ n ≤ 100000000000)
 else false
theorem nil_list {s : ByteArray} (h : s.size = 0) : s.toList = ([] : List UInt8) := list_nil_size.2 h
theorem not_nil_list {s : ByteArray} (h : ¬ s.size = 0) : ¬ s.toList = ([] : List UInt8) := fun e => h (list_nil_size.1 e)
theorem bne_nil (s : ByteArray) : (s.toList != ([] : List UInt8)) = !decide (s.size = 0) := by
 by_cases h : s.size = 0
 ·rw [nil_list h,decide_eq_true h];rfl
 ·rw [bne,beq_eq_false_iff_ne.2 (not_nil_list h),decide_eq_false h]
theorem beq_nil (s : ByteArray) : (s.toList == ([] : List UInt8)) = decide (s.size = 0) := by
 by_cases h : s.size = 0
 ·rw [nil_list h,decide_eq_true h];rfl
 ·rw [beq_eq_false_iff_ne.2 (not_nil_list h),decide_eq_false h]
theorem sGood_j1 (k n : Int) (t ty : ByteArray) (ht : t.size ≤ 9223372036854775807) (hty : ty.size ≤ 9223372036854775807) (hn : k = 6 → okI n) (h3 : k ≠ 1) (hA : k ≠ 3 → k ≠ 4 → t.size = 0) (hB : k ≠ 4 → ty.size = 0) (b : Bool) (hb : b = decide (k = 2 ∨ k = 5)) : Ev (fun f => qjk.j1 f k b k n t ty) (goodAtom k n t ty) := by
 refine Ev.upA ?_
 simp only [qjk.j1,hb]
 unfold goodAtom
 rw [if_neg h3]
 by_cases c1 : k = 2 ∨ k = 5
 ·simp only [decide_eq_true c1,if_true,if_pos c1,noTexts]
  rw [hA (by omega) (by omega),hB (by omega)]
  exact Ev.now _
 simp only [decide_eq_false c1,Bool.false_eq_true,if_false,if_neg c1]
 by_cases c3 : k = 3
 ·simp only [if_pos c3]
  by_cases hz : n = 0
  ·simp only [if_pos hz,decide_eq_true (show n = 0 ∧ ty.size = 0 from ⟨hz,hB (by omega)⟩),Bool.true_and]
   by_cases hs : t.size ≤ 200
   ·simp only [if_pos (show (t.size : Int) ≤ 200 by omega),decide_eq_true hs,Bool.true_and]
    exact Ev.bind ⟨t.size + 1,fun k hk => l1Printed_eq t ht k (by omega)⟩ (Ev.now _)
   ·simp only [if_neg (show ¬ (t.size : Int) ≤ 200 by omega),decide_eq_false hs,Bool.false_and]
    exact Ev.now _
  ·simp only [if_neg hz,decide_eq_false (show ¬ (n = 0 ∧ ty.size = 0) from fun h => hz h.1),Bool.false_and]
   exact Ev.now _
 simp only [if_neg c3]
 by_cases c4 : k = 4
 ·simp only [if_pos c4]
  by_cases hz : n = 0
  ·simp only [if_pos hz,decide_eq_true hz,Bool.true_and]
   refine Ev.bind (specName_ev ty hty) ?_
   by_cases hg : goodName ty = true
   ·simp only [hg,if_true,Bool.true_and]
    by_cases h1 : 1 ≤ t.size
    ·simp only [if_pos (show (t.size : Int) ≥ 1 by omega)]
     by_cases hs : t.size ≤ 200
     ·simp only [if_pos (show (t.size : Int) ≤ 200 by omega),decide_eq_true (show 1 ≤ t.size ∧ t.size ≤ 200 from ⟨h1,hs⟩),Bool.true_and]
      exact Ev.bind ⟨t.size + 1,fun k hk => l1Printed_eq t ht k (by omega)⟩ (Ev.now _)
     ·simp only [if_neg (show ¬ (t.size : Int) ≤ 200 by omega),decide_eq_false (show ¬ (1 ≤ t.size ∧ t.size ≤ 200) from fun h => hs h.2),Bool.false_and]
      exact Ev.now _
    ·simp only [if_neg (show ¬ (t.size : Int) ≥ 1 by omega),decide_eq_false (show ¬ (1 ≤ t.size ∧ t.size ≤ 200) from fun h => h1 h.1),Bool.false_and]
     exact Ev.now _
   ·simp only [eq_false_of_ne_true hg,Bool.false_eq_true,if_false,Bool.false_and]
    exact Ev.now _
  ·simp only [if_neg hz,decide_eq_false hz,Bool.false_and]
   exact Ev.now _
 simp only [if_neg c4]
 have hNT : noTexts t ty = true := by unfold noTexts;rw [hA c3 c4,hB c4];rfl
 rw [hNT,Bool.true_and,Bool.true_and]
 by_cases c6 : k = 6
 ·simp only [if_pos c6]
  have hi := hn c6
  have hi1 : -9223372036854775808 ≤ n := hi.1
  have hi2 : n ≤ 9223372036854775807 := by have := hi.2;omega
  by_cases h0 : n < 0
  ·simp only [if_pos h0,decide_eq_false (show ¬ blkOk n from fun h => by have := h.1;omega)]
   exact Ev.now _
  simp only [if_neg h0]
  have e32 : Ev (fun f => qkw.f f 32) 4294967296 := ⟨40,fun k hk => pow2_eq 32 (by omega) k (by omega)⟩
  refine Ev.bind e32 ?_
  have ed : wrap64 (Int.tdiv n 64) = n / 64 := by rw [Int.tdiv_eq_ediv_of_nonneg (by omega),w64 (by omega) (by omega)]
  have em : Int.tmod n 64 = n % 64 := Int.tmod_eq_emod_of_nonneg (by omega)
  have e1 : wrap64 ((4294967296 : Int) - 1) = 4294967295 := w64 (by omega) (by omega)
  simp only [ed,em,e1]
  by_cases h1 : n / 64 > 4294967295
  ·simp only [if_pos h1,decide_eq_false (show ¬ blkOk n from fun h => by have := h.2.2.1;omega)]
   exact Ev.now _
  by_cases h2 : n % 64 > 32
  ·simp only [if_neg h1,if_pos h2,decide_eq_false (show ¬ blkOk n from fun h => by have := h.2.1;omega)]
   exact Ev.now _
  simp only [if_neg h1,if_neg h2]
  have ew : wrap64 (32 - n % 64) = ((32 - n % 64).toNat : Int) := by rw [w64 (by omega) (by omega)];omega
  have hlt : (32 - n % 64).toNat ≤ 32 := by omega
  have eb : Ev (fun f => qkz.f f k n t ty) (n / 64,2 ^ (32 - n % 64).toNat) := by
   simp only [qkz.f,ed,em,ew]
   exact Ev.bind ⟨40,fun k hk => pow2_eq _ (by omega) k (by omega)⟩ (Ev.now _)
  refine Ev.bind eb ?_
  have hp := pow_pos2 (32 - n % 64).toNat
  have emod : Int.tmod (n / 64) (2 ^ (32 - n % 64).toNat) = n / 64 % 2 ^ (32 - n % 64).toNat := Int.tmod_eq_emod_of_nonneg (by omega)
  simp only [if_neg (show ¬ (2 : Int) ^ (32 - n % 64).toNat = 0 by omega),emod]
  have : (n / 64 % 2 ^ (32 - n % 64).toNat == 0) = decide (blkOk n) := by
   rw [Bool.eq_iff_iff,beq_iff_eq,decide_eq_true_iff]
   exact ⟨fun h => ⟨by omega,by omega,by omega,h⟩,fun h => h.2.2.2⟩
  rw [this]
  exact Ev.now _
 simp only [if_neg c6]
 by_cases c7 : k = 7
 ·simp only [if_pos c7]
  by_cases h1 : n ≥ -100000000000
  ·simp only [if_pos h1]
   rw [decide_eq_decide.2 (show (n ≤ 100000000000) ↔ (-100000000000 ≤ n ∧ n ≤ 100000000000) by omega)]
   exact Ev.now _
  ·simp only [if_neg h1]
   rw [decide_eq_false (show ¬ (-100000000000 ≤ n ∧ n ≤ 100000000000) by omega)]
   exact Ev.now _
 ·simp only [if_neg c7]
  exact Ev.now _
theorem good_bad {k n : Int} {t ty : ByteArray} (h : (k ≠ 3 ∧ k ≠ 4 ∧ t.size ≠ 0) ∨ (k ≠ 4 ∧ ty.size ≠ 0)) : goodAtom k n t ty = false := by
 unfold goodAtom
 have hN : k ≠ 3 → k ≠ 4 → noTexts t ty = false := fun h3 h4 => by
  unfold noTexts
  rcases h with h | h
  ·rw [decide_eq_false h.2.2,Bool.false_and]
  ·rw [decide_eq_false h.2,Bool.and_false]
 by_cases c1 : k = 1
 ·rw [if_pos c1,hN (by omega) (by omega),Bool.false_and]
 rw [if_neg c1]
 by_cases c2 : k = 2 ∨ k = 5
 ·rw [if_pos c2,hN (by omega) (by omega)]
 rw [if_neg c2]
 by_cases c3 : k = 3
 ·rw [if_pos c3,decide_eq_false (show ¬ (n = 0 ∧ ty.size = 0) from fun g => h.elim (fun h => h.1 c3) (fun h => h.2 g.2)),Bool.false_and]
 rw [if_neg c3]
 by_cases c4 : k = 4
 ·rcases h with h | h
  ·exact absurd c4 h.2.1
  ·exact absurd c4 h.1
 rw [if_neg c4,hN c3 c4,Bool.false_and,Bool.false_and]
 simp
theorem specGoodAtom_ev (k n : Int) (t ty : ByteArray) (ht : t.size ≤ 9223372036854775807) (hty : ty.size ≤ 9223372036854775807) (hn : k = 6 → okI n) : Ev (fun f => qjk.f f k n t ty) (goodAtom k n t ty) := by
 have hbad : goodAtom k n t ty = false → Ev (fun f => qjk.j0 f true k n t ty) (goodAtom k n t ty) := fun h => by
  refine Ev.upA ?_
  simp only [qjk.j0,if_true,h]
  exact Ev.now _
 have hgo : (k ≠ 3 → k ≠ 4 → t.size = 0) → (k ≠ 4 → ty.size = 0) → Ev (fun f => qjk.j0 f false k n t ty) (goodAtom k n t ty) := fun hA hB => by
  refine Ev.upA ?_
  simp only [qjk.j0,Bool.false_eq_true,if_false]
  by_cases c1 : k = 1
  ·simp only [if_pos c1]
   have hNT : noTexts t ty = true := by unfold noTexts;rw [hA (by omega) (by omega),hB (by omega)];rfl
   rw [goodAtom,if_pos c1,hNT,Bool.true_and]
   by_cases hz : n = 0
   ·simp only [if_pos hz,decide_eq_true (show n = 0 ∨ n = 1 from .inl hz)];exact Ev.now _
   ·simp only [if_neg hz]
    have : (n == 1) = decide (n = 0 ∨ n = 1) := by
     rw [Bool.eq_iff_iff,beq_iff_eq,decide_eq_true_iff]
     omega
    rw [this]
    exact Ev.now _
  simp only [if_neg c1]
  by_cases c2 : k = 2
  ·simp only [if_pos c2]
   refine sGood_j1 k n t ty ht hty hn c1 hA hB _ ?_
   rw [Bool.eq_iff_iff,beq_iff_eq,decide_eq_true_iff];omega
  ·simp only [if_neg c2]
   refine sGood_j1 k n t ty ht hty hn c1 hA hB _ ?_
   rw [Bool.eq_iff_iff,beq_iff_eq,decide_eq_true_iff];omega
 simp only [qjk.f,bne_nil]
 by_cases c3 : k = 3
 ·simp only [if_pos c3,if_neg (show ¬ k = 4 by omega)]
  by_cases hz : ty.size = 0
  ·rw [decide_eq_true hz];exact hgo (fun h => absurd c3 h) (fun _ => hz)
  ·rw [decide_eq_false hz];exact hbad (good_bad (.inr ⟨by omega,hz⟩))
 simp only [if_neg c3]
 by_cases c4 : k = 4
 ·simp only [if_pos c4]
  exact hgo (fun _ h => absurd c4 h) (fun h => absurd c4 h)
 simp only [if_neg c4]
 by_cases hz : t.size = 0
 ·simp only [if_pos (nil_list hz)]
  by_cases hz2 : ty.size = 0
  ·rw [decide_eq_true hz2];exact hgo (fun _ _ => hz) (fun _ => hz2)
  ·rw [decide_eq_false hz2];exact hbad (good_bad (.inr ⟨c4,hz2⟩))
 ·simp only [if_neg (not_nil_list hz)]
  exact hbad (good_bad (.inl ⟨c3,c4,hz⟩))
theorem shl_fin : ∀ e : Fin 33,shl .i64 1 ((e.val : Nat) : Int) = 2 ^ e.val := by decide +kernel
theorem iGood_j1 (k n : Int) (t ty : ByteArray) (ht : t.size ≤ 9223372036854775807) (hty : ty.size ≤ 9223372036854775807) (hn : k = 6 → okI n) (h3 : k ≠ 1) (b : Bool) (hb : b = decide (k = 2 ∨ k = 5)) : Ev (fun f => wz.j1 f (noTexts t ty) k b k n t ty) (goodAtom k n t ty) := by
 refine Ev.upA ?_
 simp only [wz.j1,hb]
 unfold goodAtom
 rw [if_neg h3]
 by_cases c1 : k = 2 ∨ k = 5
 ·simp only [decide_eq_true c1,if_true,if_pos c1]
  exact Ev.now _
 simp only [decide_eq_false c1,Bool.false_eq_true,if_false,if_neg c1]
 by_cases c3 : k = 3
 ·simp only [if_pos c3]
  by_cases hz : n = 0
  ·simp only [if_pos hz]
   by_cases hz2 : ty.size = 0
   ·simp only [if_pos (nil_list hz2),decide_eq_true (show n = 0 ∧ ty.size = 0 from ⟨hz,hz2⟩),Bool.true_and]
    refine Ev.bind ⟨t.size + 2,fun k hk => yprinted_eq t 0 200 ht k (by omega)⟩ ?_
    rw [decide_eq_true (show (0 : Int) ≤ (t.size : Int) by omega),Bool.true_and,decide_eq_decide.2 (show ((t.size : Int) ≤ 200) ↔ t.size ≤ 200 by omega)]
    exact Ev.now _
   ·simp only [if_neg (not_nil_list hz2),decide_eq_false (show ¬ (n = 0 ∧ ty.size = 0) from fun h => hz2 h.2),Bool.false_and]
    exact Ev.now _
  ·simp only [if_neg hz,decide_eq_false (show ¬ (n = 0 ∧ ty.size = 0) from fun h => hz h.1),Bool.false_and]
   exact Ev.now _
 simp only [if_neg c3]
 by_cases c4 : k = 4
 ·simp only [if_pos c4]
  by_cases hz : n = 0
  ·simp only [if_pos hz,decide_eq_true hz,Bool.true_and]
   refine Ev.bind (implName_ev ty hty) ?_
   by_cases hg : goodName ty = true
   ·simp only [hg,if_true,Bool.true_and]
    refine Ev.bind ⟨t.size + 2,fun k hk => yprinted_eq t 1 200 ht k (by omega)⟩ ?_
    rw [← Bool.decide_and,decide_eq_decide.2 (show ((1 : Int) ≤ (t.size : Int) ∧ (t.size : Int) ≤ 200) ↔ (1 ≤ t.size ∧ t.size ≤ 200) by omega)]
    exact Ev.now _
   ·simp only [eq_false_of_ne_true hg,Bool.false_eq_true,if_false,Bool.false_and]
    exact Ev.now _
  ·simp only [if_neg hz,decide_eq_false hz,Bool.false_and]
   exact Ev.now _
 simp only [if_neg c4]
 rcases hNT : noTexts t ty with _ | _
 ·simp only [Bool.false_eq_true,if_false,Bool.false_and]
  rw [show (if k = 6 then some false else if k = 7 then some false else some false) = some false by split <;> (try split) <;> rfl,show (if k = 6 then false else if k = 7 then false else false) = false by split <;> (try split) <;> rfl]
  exact Ev.now _
 simp only [if_true,Bool.true_and]
 by_cases c6 : k = 6
 ·simp only [if_pos c6]
  have hi := hn c6
  have hi1 : -9223372036854775808 ≤ n := hi.1
  have hi2 : n ≤ 9223372036854775807 := by have := hi.2;omega
  by_cases h0 : n < 0
  ·simp only [if_pos h0,decide_eq_false (show ¬ blkOk n from fun h => by have := h.1;omega)]
   exact Ev.now _
  simp only [if_neg h0]
  have ed : wrap64 (Int.tdiv n 64) = n / 64 := by rw [Int.tdiv_eq_ediv_of_nonneg (by omega),w64 (by omega) (by omega)]
  have em : Int.tmod n 64 = n % 64 := Int.tmod_eq_emod_of_nonneg (by omega)
  simp only [ed,em]
  by_cases h2 : n % 64 ≤ 32
  case neg =>
   simp only [if_neg h2,decide_eq_false (show ¬ blkOk n from fun h => h2 h.2.1)]
   exact Ev.now _
  by_cases h1 : n / 64 < 4294967296
  case neg =>
   simp only [if_pos h2,if_neg h1,decide_eq_false (show ¬ blkOk n from fun h => h1 h.2.2.1)]
   exact Ev.now _
  have ew : wrap64 (32 - n % 64) = ((32 - n % 64).toNat : Int) := by rw [w64 (by omega) (by omega)];omega
  have hlt : (32 - n % 64).toNat < 33 := by omega
  have esh := shl_fin ⟨(32 - n % 64).toNat,hlt⟩
  have hp := pow_pos2 (32 - n % 64).toNat
  have emod : Int.tmod (n / 64) (2 ^ (32 - n % 64).toNat) = n / 64 % 2 ^ (32 - n % 64).toNat := Int.tmod_eq_emod_of_nonneg (by omega)
  simp only [if_pos h2,if_pos h1,ew,if_pos (Int.natCast_nonneg _),esh,if_neg (show ¬ (2 : Int) ^ (32 - n % 64).toNat = 0 by omega),emod]
  have : (n / 64 % 2 ^ (32 - n % 64).toNat == 0) = decide (blkOk n) := by
   rw [Bool.eq_iff_iff,beq_iff_eq,decide_eq_true_iff]
   exact ⟨fun h => ⟨by omega,by omega,by omega,h⟩,fun h => h.2.2.2⟩
  rw [this]
  exact Ev.now _
 simp only [if_neg c6]
 by_cases c7 : k = 7
 ·simp only [if_pos c7]
  by_cases h1 : n ≥ -100000000000
  ·simp only [if_pos h1]
   rw [decide_eq_decide.2 (show (n ≤ 100000000000) ↔ (-100000000000 ≤ n ∧ n ≤ 100000000000) by omega)]
   exact Ev.now _
  ·simp only [if_neg h1]
   rw [decide_eq_false (show ¬ (-100000000000 ≤ n ∧ n ≤ 100000000000) by omega)]
   exact Ev.now _
 ·simp only [if_neg c7]
  exact Ev.now _
theorem implGoodAtom_ev (k n : Int) (t ty : ByteArray) (ht : t.size ≤ 9223372036854775807) (hty : ty.size ≤ 9223372036854775807) (hn : k = 6 → okI n) : Ev (fun f => wz.f f k n t ty) (goodAtom k n t ty) := by
 have hj : Ev (fun f => wz.j0 f (noTexts t ty) k n t ty) (goodAtom k n t ty) := by
  refine Ev.upA ?_
  simp only [wz.j0]
  by_cases c1 : k = 1
  ·simp only [if_pos c1]
   rw [goodAtom,if_pos c1]
   rcases hNT : noTexts t ty with _ | _
   ·simp only [Bool.false_eq_true,if_false,Bool.false_and];exact Ev.now _
   simp only [if_true,Bool.true_and]
   by_cases hz : n = 0
   ·simp only [if_pos hz,decide_eq_true (show n = 0 ∨ n = 1 from .inl hz)];exact Ev.now _
   ·simp only [if_neg hz]
    have : (n == 1) = decide (n = 0 ∨ n = 1) := by
     rw [Bool.eq_iff_iff,beq_iff_eq,decide_eq_true_iff]
     omega
    rw [this]
    exact Ev.now _
  simp only [if_neg c1]
  by_cases c2 : k = 2
  ·simp only [if_pos c2]
   refine iGood_j1 k n t ty ht hty hn c1 _ ?_
   rw [Bool.eq_iff_iff,beq_iff_eq,decide_eq_true_iff];omega
  ·simp only [if_neg c2]
   refine iGood_j1 k n t ty ht hty hn c1 _ ?_
   rw [Bool.eq_iff_iff,beq_iff_eq,decide_eq_true_iff];omega
 simp only [wz.f,beq_nil]
 by_cases hz : t.size = 0
 ·simp only [if_pos (nil_list hz)]
  rw [show decide (ty.size = 0) = noTexts t ty by unfold noTexts;rw [decide_eq_true hz,Bool.true_and]]
  exact hj
 ·simp only [if_neg (not_nil_list hz)]
  rw [show false = noTexts t ty by unfold noTexts;rw [decide_eq_false hz,Bool.false_and]]
  exact hj
def intsOf (l : List UInt8) : List Int := l.map fun b => (b.toNat : Int)
theorem intsOf_append (a b : List UInt8) : intsOf (a ++ b) = intsOf a ++ intsOf b := by simp [intsOf]
theorem strOf_ints (l : List UInt8) : strOfNums (intsOf l) = ⟨l.toArray⟩ := by
 unfold strOfNums intsOf
 apply ByteArray.ext
 show (List.map _ (List.map _ l)).toArray = l.toArray
 rw [List.map_map]
 congr 1
 conv => rhs;rw [← List.map_id l]
 apply List.map_congr_left
 intro b _
 show UInt8.ofNat ((b.toNat : Int)).toNat = b
 rw [Int.toNat_natCast,UInt8.ofNat_toNat]
theorem escL_le (l : List UInt8) : (l.flatMap escU).length ≤ 2 * l.length := by
 induction l with
 | nil => exact Nat.zero_le _
 | cons b l ih => have := escU_len b;rw [List.flatMap_cons,List.length_append,List.length_cons];omega
theorem btq_list (s : ByteArray) (i : Nat) (h : i < s.data.toList.length) : bt s (i : Int) = ((s.data.toList[i]).toNat : Int) := by
 have h' : i < s.size := by rw [data_length] at h;exact h
 exact (bt_at s (i : Int) h').symm
theorem quoted_l0 (s : ByteArray) (hs : s.size ≤ 1000000) (d : Nat) : ∀ (k i : Nat),i + d = s.size → d < k →
  qvq.l0 k s (intsOf (34 :: (s.data.toList.take i).flatMap escU)) (i : Int) = some (quoteB s) := by
 induction d with
 | zero =>
  intro k i hi hk
  obtain ⟨k,rfl⟩ : ∃ m,k = m + 1 := ⟨k - 1,by omega⟩
  obtain rfl : i = s.size := by omega
  have hl := escL_le s.data.toList
  rw [data_length] at hl
  rw [qvq.l0,if_neg (by omega),List.take_of_length_le (by rw [data_length];exact Nat.le_refl _),if_pos (by simp only [intsOf,List.length_map,List.length_cons];omega)]
  rw [show ([34] : List Int) = intsOf [34] from rfl,← intsOf_append,strOf_ints]
  congr 1
 | succ d ih =>
  intro k i hi hk
  obtain ⟨k,rfl⟩ : ∃ m,k = m + 1 := ⟨k - 1,by omega⟩
  have hil : i < s.data.toList.length := by rw [data_length];omega
  have hl := escL_le (s.data.toList.take i)
  rw [List.length_take,data_length] at hl
  have e2 : wrap64 ((i : Int) + 1) = ((i + 1 : Nat) : Int) := by rw [w64 (by omega) (by omega)];rfl
  have hstep : intsOf (34 :: (s.data.toList.take (i + 1)).flatMap escU) = intsOf (34 :: (s.data.toList.take i).flatMap escU) ++ intsOf (escU s.data.toList[i]) := by
   rw [List.take_succ_eq_append_getElem hil,List.flatMap_append,← intsOf_append]
   simp
  have ih2 := ih k (i + 1) (by omega) (by omega)
  rw [hstep] at ih2
  have hlen : (intsOf (34 :: (s.data.toList.take i).flatMap escU)).length ≤ 3000000 := by simp only [intsOf,List.length_map,List.length_cons];omega
  rw [qvq.l0,if_pos (by omega),if_pos (by omega),btq_list s i hil,e2]
  obtain ⟨u,eu⟩ : ∃ u,u = s.data.toList[i] := ⟨_,rfl⟩
  obtain ⟨X,eX⟩ : ∃ X,X = intsOf (34 :: (s.data.toList.take i).flatMap escU) := ⟨_,rfl⟩
  rw [← eu,← eX] at ih2
  rw [← eX] at hlen
  rw [← eu,← eX]
  by_cases h34 : (u.toNat : Int) = 34
  ·have hu : u = 34 := UInt8.toNat_inj.1 (show u.toNat = 34 by omega)
   rw [hu] at ih2 ⊢
   rw [show intsOf (escU 34) = [92,34] from rfl] at ih2
   rw [if_pos (by rfl),if_pos (by omega),Option.bind_some,if_pos (by rw [List.length_append,List.length_singleton];omega),List.append_assoc]
   exact ih2
  ·by_cases h92 : (u.toNat : Int) = 92
   ·have hu : u = 92 := UInt8.toNat_inj.1 (show u.toNat = 92 by omega)
    rw [hu] at ih2 ⊢
    rw [show intsOf (escU 92) = [92,92] from rfl] at ih2
    rw [if_neg (by decide),if_pos (by rfl),if_pos (by omega),Option.bind_some,if_pos (by rw [List.length_append,List.length_singleton];omega),List.append_assoc]
    exact ih2
   ·have hn : ¬ (u = 34 ∨ u = 92) := fun h => h.elim (fun e => h34 (by rw [e];rfl)) (fun e => h92 (by rw [e];rfl))
    have he : intsOf (escU u) = [(u.toNat : Int)] := by unfold escU;rw [if_neg hn];rfl
    rw [he] at ih2
    rw [if_neg h34,if_neg h92,if_pos (by omega)]
    exact ih2
theorem l1Quoted_ev (s : ByteArray) (hs : s.size ≤ 1000000) : Ev (fun k => qvq.f k s) (quoteB s) :=
 ⟨s.size + 1,fun k hk => quoted_l0 s hs s.size k 0 (by omega) (by omega)⟩
theorem yquote_eq (s : ByteArray) (hs : s.size ≤ 1000000) : xw.f s = some (quoteB s) := by
 unfold xw.f
 rw [if_pos hs]
theorem quoteB_le (s : ByteArray) : (quoteB s).size ≤ 2 * s.size + 2 := by
 have h := escL_le s.data.toList
 rw [data_length] at h
 unfold quoteB
 rw [ByteArray.size_append,ByteArray.size_append]
 have e : (escB s).size = (s.data.toList.flatMap escU).length := rfl
 rw [e,show (⟨#[34]⟩ : ByteArray).size = 1 from rfl]
 omega
def digS (d : Nat) : ByteArray := ⟨#[UInt8.ofNat (48 + d)]⟩
theorem dig_fin : ∀ d : Fin 10,(strOfNums [((48 + (d.val : Int))) % 256]).data = (digS d.val).data := by decide +kernel
theorem dig_eq {d : Nat} (h : d < 10) : strOfNums [((48 + (d : Int))) % 256] = digS d := ByteArray.ext (dig_fin ⟨d,h⟩)
def decS (u : Nat) : ByteArray := ⟨(Lib.decDigits u).toArray⟩
theorem decS_small {u : Nat} (h : u < 10) : decS u = digS u := by
 unfold decS digS
 rw [Lib.decDigits,dif_pos h]
theorem decS_big {u : Nat} (h : ¬ u < 10) : decS u = decS (u / 10) ++ digS (u % 10) := by
 apply ByteArray.ext
 unfold decS digS
 rw [Lib.decDigits,dif_neg h]
 simp
theorem digS_size (d : Nat) : (digS d).size = 1 := rfl
theorem size_l0 (u : Nat) : 0 < u → ∃ K,∀ k,K ≤ k → ∀ acc : ByteArray,acc.size + u ≤ 9000000000000000000 → qvz.l0 k (u : Int) acc = some (decS u ++ acc) := by
 induction u using Nat.strongRecOn with
 | _ u ih =>
  intro hu
  by_cases h : u < 10
  ·refine ⟨2,fun k hk acc hacc => ?_⟩
   obtain ⟨k,rfl⟩ : ∃ m,k = m + 1 + 1 := ⟨k - 2,by omega⟩
   have e1 : Int.tmod (u : Int) 10 = (u : Int) := by rw [Int.tmod_eq_emod_of_nonneg (by omega)];omega
   have e2 : Int.tdiv (u : Int) 10 = 0 := by rw [Int.tdiv_eq_ediv_of_nonneg (by omega)];omega
   have e3 : wrap64 (48 + (u : Int)) = 48 + (u : Int) := w64 (by omega) (by omega)
   have e4 : wrap64 0 = 0 := w64 (by omega) (by omega)
   simp only [qvz.l0,if_neg (show ¬ ((u : Int) = 0) by omega),e1,e2,e3,e4,if_neg (show ¬ ((u : Int) < 0) by omega),Option.bind_some,dig_eq h,digS_size,if_pos (show 1 + acc.size ≤ 9223372036854775807 by omega),if_true]
   rw [decS_small h]
  ·obtain ⟨K,hK⟩ := ih (u / 10) (by omega) (by omega)
   refine ⟨K + 1,fun k hk acc hacc => ?_⟩
   obtain ⟨k,rfl⟩ : ∃ m,k = m + 1 := ⟨k - 1,by omega⟩
   have e1 : Int.tmod (u : Int) 10 = ((u % 10 : Nat) : Int) := by rw [Int.tmod_eq_emod_of_nonneg (by omega)];omega
   have e2 : wrap64 (Int.tdiv (u : Int) 10) = ((u / 10 : Nat) : Int) := by rw [Int.tdiv_eq_ediv_of_nonneg (by omega),w64 (by omega) (by omega)];omega
   have e3 : wrap64 (48 + ((u % 10 : Nat) : Int)) = 48 + ((u % 10 : Nat) : Int) := w64 (by omega) (by omega)
   simp only [qvz.l0,if_neg (show ¬ ((u : Int) = 0) by omega),e1,e2,e3,if_neg (show ¬ (((u % 10 : Nat) : Int) < 0) by omega),Option.bind_some,dig_eq (show u % 10 < 10 by omega),digS_size,if_pos (show 1 + acc.size ≤ 9223372036854775807 by omega)]
   rw [hK k (by omega) _ (by rw [ByteArray.size_append,digS_size];omega),decS_big h,ByteArray.append_assoc]
theorem itoa_nat (u : Nat) : (⟨(Lib.itoa (u : Int)).toArray⟩ : ByteArray) = decS u := by
 unfold Lib.itoa
 rw [if_neg (by omega),Int.toNat_natCast]
 rfl
theorem l1Num_ev (u : Nat) (h : u ≤ 8000000000000000000) : Ev (fun k => qkv.f k (u : Int)) (decS u) := by
 rcases Nat.eq_zero_or_pos u with rfl | hu
 ·refine ⟨0,fun k _ => ?_⟩
  have : decS 0 = (⟨#[48]⟩ : ByteArray) := by rw [decS_small (by omega)];rfl
  rw [this]
  rfl
 ·obtain ⟨K,hK⟩ := size_l0 u hu
  refine ⟨K,fun k hk => ?_⟩
  show qkv.f k (u : Int) = _
  simp only [qkv.f,qvz.f,if_neg (show ¬ ((u : Int) < 0) by omega),if_neg (show ¬ ((u : Int) = 0) by omega)]
  rw [hK k hk _ (by show 0 + u ≤ _;omega),Option.bind_some]
  congr 1
  apply ByteArray.ext
  simp
theorem itoa_eq (u : Nat) (h : u ≤ 8000000000000000000) : strconv_Itoa.f (u : Int) = some (decS u) := by
 unfold strconv_Itoa.f
 rw [if_pos ⟨by omega,by omega⟩,itoa_nat]
theorem decS_len (u : Nat) : ∀ k,u < 10 ^ (k + 1) → (decS u).size ≤ k + 1 := by
 induction u using Nat.strongRecOn with
 | _ u ih =>
  intro k hk
  by_cases h : u < 10
  ·rw [decS_small h,digS_size];omega
  ·rcases k with _ | k
   ·omega
   ·rw [decS_big h,ByteArray.size_append,digS_size]
    have := ih (u / 10) (by omega) k (by rw [Nat.pow_succ] at hk;omega)
    omega
def numS (n : Int) : ByteArray := ⟨(Lib.itoa n).toArray⟩
theorem numS_nat (u : Nat) : numS (u : Int) = decS u := itoa_nat u
theorem numS_neg (u : Nat) (h : 0 < u) : numS (-(u : Int)) = (⟨#[45]⟩ : ByteArray) ++ decS u := by
 unfold numS decS
 apply ByteArray.ext
 rw [show Lib.itoa (-(u : Int)) = 45 :: Lib.decDigits u by unfold Lib.itoa;rw [if_pos (by omega)];simp]
 simp
theorem itoa_all (n : Int) (h : okI n) : strconv_Itoa.f n = some (numS n) := by
 have h1 := h.1
 have h2 := h.2
 unfold strconv_Itoa.f
 rw [if_pos ⟨by omega,by omega⟩]
 rfl
theorem sizeA_pos (m : Nat) : ∀ (u : Nat),0 < u → u ≤ 9223372036854775807 → u < 10 ^ (m + 1) → ∀ (k : Nat) (acc : ByteArray),m + 1 < k → acc.size + m ≤ 1000000 → qvz.l0 k (u : Int) acc = some (decS u ++ acc) := by
 induction m with
 | zero =>
  intro u hu hm h k acc hk hacc
  obtain ⟨k,rfl⟩ : ∃ m,k = m + 1 + 1 := ⟨k - 2,by omega⟩
  have h10 : u < 10 := by omega
  have e1 : Int.tmod (u : Int) 10 = (u : Int) := by rw [Int.tmod_eq_emod_of_nonneg (by omega)];omega
  have e2 : Int.tdiv (u : Int) 10 = 0 := by rw [Int.tdiv_eq_ediv_of_nonneg (by omega)];omega
  have e3 : wrap64 (48 + (u : Int)) = 48 + (u : Int) := w64 (by omega) (by omega)
  have e4 : wrap64 0 = 0 := w64 (by omega) (by omega)
  simp only [qvz.l0,if_neg (show ¬ ((u : Int) = 0) by omega),e1,e2,e3,e4,if_neg (show ¬ ((u : Int) < 0) by omega),Option.bind_some,dig_eq h10,digS_size,if_pos (show 1 + acc.size ≤ 9223372036854775807 by omega),if_true]
  rw [decS_small h10]
 | succ m ih =>
  intro u hu hm h k acc hk hacc
  obtain ⟨k,rfl⟩ : ∃ m,k = m + 1 := ⟨k - 1,by omega⟩
  have e1 : Int.tmod (u : Int) 10 = ((u % 10 : Nat) : Int) := by rw [Int.tmod_eq_emod_of_nonneg (by omega)];omega
  have e2 : wrap64 (Int.tdiv (u : Int) 10) = ((u / 10 : Nat) : Int) := by rw [Int.tdiv_eq_ediv_of_nonneg (by omega),w64 (by omega) (by omega)];omega
  have e3 : wrap64 (48 + ((u % 10 : Nat) : Int)) = 48 + ((u % 10 : Nat) : Int) := w64 (by omega) (by omega)
  simp only [qvz.l0,if_neg (show ¬ ((u : Int) = 0) by omega),e1,e2,e3,if_neg (show ¬ (((u % 10 : Nat) : Int) < 0) by omega),Option.bind_some,dig_eq (show u % 10 < 10 by omega),digS_size,if_pos (show 1 + acc.size ≤ 9223372036854775807 by omega)]
  by_cases hs : u < 10
  ·obtain ⟨k,rfl⟩ : ∃ m,k = m + 1 := ⟨k - 1,by omega⟩
   rw [show u / 10 = 0 by omega,decS_small hs,show u % 10 = u by omega]
   simp only [qvz.l0,show ((0 : Nat) : Int) = 0 from rfl,if_true]
  ·rw [ih (u / 10) (by omega) (by omega) (by rw [Nat.pow_succ] at h;omega) k _ (by omega) (by rw [ByteArray.size_append,digS_size];omega),decS_big hs,ByteArray.append_assoc]
theorem sizeA_neg (m : Nat) : ∀ (u : Nat),0 < u → u ≤ 9223372036854775808 → u < 10 ^ (m + 1) → ∀ (k : Nat) (acc : ByteArray),m + 1 < k → acc.size + m ≤ 1000000 → qvz.l0 k (-(u : Int)) acc = some (decS u ++ acc) := by
 have step : ∀ (u : Nat),0 < u → u ≤ 9223372036854775808 → ∀ (k : Nat) (acc : ByteArray),acc.size ≤ 1000000 → qvz.l0 (k + 1) (-(u : Int)) acc = qvz.l0 k (-((u / 10 : Nat) : Int)) (digS (u % 10) ++ acc) := by
  intro u hu hm k acc hacc
  have e1 : Int.tmod (-(u : Int)) 10 = -((u % 10 : Nat) : Int) := by rw [Int.neg_tmod,Int.tmod_eq_emod_of_nonneg (by omega)];omega
  have e2 : wrap64 (Int.tdiv (-(u : Int)) 10) = -((u / 10 : Nat) : Int) := by rw [Int.neg_tdiv,Int.tdiv_eq_ediv_of_nonneg (by omega),w64 (by omega) (by omega)];omega
  have e3 : wrap64 (48 + ((u % 10 : Nat) : Int)) = 48 + ((u % 10 : Nat) : Int) := w64 (by omega) (by omega)
  have e5 : wrap64 ((u % 10 : Nat) : Int) = ((u % 10 : Nat) : Int) := w64 (by omega) (by omega)
  rw [qvz.l0,if_neg (show ¬ (-(u : Int) = 0) by omega),e1,e2]
  by_cases hz : u % 10 = 0
  ·rw [hz]
   simp only [show -((0 : Nat) : Int) = 0 from rfl,if_neg (show ¬ ((0 : Int) < 0) by decide),Option.bind_some]
   rw [show ([(wrap64 (48 + 0)) % 256] : List Int) = [((48 + ((0 : Nat) : Int))) % 256] by rw [w64 (by omega) (by omega)];rfl,dig_eq (show 0 < 10 by decide),if_pos (by rw [digS_size];omega)]
  ·rw [if_pos (show -((u % 10 : Nat) : Int) < 0 by omega)]
   simp only [Int.neg_neg,e5,e3,Option.bind_some,dig_eq (show u % 10 < 10 by omega),digS_size,if_pos (show 1 + acc.size ≤ 9223372036854775807 by omega)]
 induction m with
 | zero =>
  intro u hu hm h k acc hk hacc
  obtain ⟨k,rfl⟩ : ∃ m,k = m + 1 + 1 := ⟨k - 2,by omega⟩
  have h10 : u < 10 := by omega
  rw [step u hu hm (k + 1) acc (by omega),show u / 10 = 0 by omega,show u % 10 = u by omega,decS_small h10]
  simp only [qvz.l0,show -((0 : Nat) : Int) = 0 from rfl,if_true]
 | succ m ih =>
  intro u hu hm h k acc hk hacc
  obtain ⟨k,rfl⟩ : ∃ m,k = m + 1 := ⟨k - 1,by omega⟩
  rw [step u hu hm k acc (by omega)]
  by_cases hs : u < 10
  ·obtain ⟨k,rfl⟩ : ∃ m,k = m + 1 := ⟨k - 1,by omega⟩
   rw [show u / 10 = 0 by omega,decS_small hs,show u % 10 = u by omega]
   simp only [qvz.l0,show -((0 : Nat) : Int) = 0 from rfl,if_true]
  ·rw [ih (u / 10) (by omega) (by omega) (by rw [Nat.pow_succ] at h;omega) k _ (by omega) (by rw [ByteArray.size_append,digS_size];omega),decS_big hs,ByteArray.append_assoc]
theorem app_empty (s : ByteArray) : s ++ (⟨#[]⟩ : ByteArray) = s := by apply ByteArray.ext;simp
theorem decS_zero : decS 0 = (⟨#[48]⟩ : ByteArray) := by rw [decS_small (by omega)];rfl
theorem l1Size_ev (n : Int) (h : okI n) : Ev (fun k => qvz.f k n) (decS n.natAbs) := by
 have h1 := h.1
 have h2 := h.2
 refine ⟨30,fun k hk => ?_⟩
 show qvz.f k n = _
 unfold qvz.f
 by_cases hz : n = 0
 ·subst hz;rw [if_pos rfl];exact congrArg some decS_zero.symm
 rw [if_neg hz]
 have hp : n.natAbs < 10 ^ (18 + 1) := by omega
 rcases Int.lt_or_le n 0 with hn | hn
 ·have e : n = -((n.natAbs : Nat) : Int) := by omega
  conv => lhs;rw [e]
  rw [sizeA_neg 18 n.natAbs (by omega) (by omega) hp k _ (by omega) (by show 0 + 18 ≤ _;omega),app_empty]
 ·have e : n = ((n.natAbs : Nat) : Int) := by omega
  conv => lhs;rw [e]
  rw [sizeA_pos 18 n.natAbs (by omega) (by omega) hp k _ (by omega) (by show 0 + 18 ≤ _;omega),app_empty]
theorem decS_le (u : Nat) (h : u ≤ 9223372036854775808) : (decS u).size ≤ 19 := decS_len u 18 (by omega)
theorem l1Num_all (n : Int) (h : okI n) : Ev (fun k => qkv.f k n) (numS n) := by
 have h1 := h.1
 have h2 := h.2
 simp only [qkv.f]
 have hle := decS_le n.natAbs (by omega)
 rcases Int.lt_or_le n 0 with hn | hn
 ·simp only [if_pos hn]
  refine Ev.bind (l1Size_ev n h) ?_
  simp only [if_pos (show 1 + (decS n.natAbs).size ≤ 9223372036854775807 by omega)]
  have e : numS n = (⟨#[45]⟩ : ByteArray) ++ decS n.natAbs := by
   conv => lhs;rw [show n = -((n.natAbs : Nat) : Int) by omega]
   exact numS_neg _ (by omega)
  rw [e]
  exact Ev.now _
 ·simp only [if_neg (show ¬ n < 0 by omega)]
  refine Ev.bind (l1Size_ev n h) ?_
  have e : numS n = decS n.natAbs := by
   conv => lhs;rw [show n = ((n.natAbs : Nat) : Int) by omega]
   exact numS_nat _
  rw [e]
  exact Ev.now _
theorem numS_le (n : Int) (h : okI n) : (numS n).size ≤ 20 := by
 have h1 := h.1
 have h2 := h.2
 have hle := decS_le n.natAbs (by omega)
 rcases Int.lt_or_le n 0 with hn | hn
 ·rw [show numS n = (⟨#[45]⟩ : ByteArray) ++ decS n.natAbs by
   conv => lhs;rw [show n = -((n.natAbs : Nat) : Int) by omega]
   exact numS_neg _ (by omega),ByteArray.size_append,show (⟨#[45]⟩ : ByteArray).size = 1 from rfl]
  omega
 ·rw [show numS n = decS n.natAbs by
   conv => lhs;rw [show n = ((n.natAbs : Nat) : Int) by omega]
   exact numS_nat _]
  omega
def dig4 (r : Nat) : ByteArray := ((digS (r / 1000 % 10) ++ digS (r / 100 % 10)) ++ digS (r / 10 % 10)) ++ digS (r % 10)
theorem dig4_size (r : Nat) : (dig4 r).size = 4 := rfl
theorem decS_four {u : Nat} (h : ¬ u < 10000) : decS u = decS (u / 10000) ++ dig4 (u % 10000) := by
 rw [decS_big (show ¬ u < 10 by omega),decS_big (show ¬ u / 10 < 10 by omega),decS_big (show ¬ u / 10 / 10 < 10 by omega),decS_big (show ¬ u / 10 / 10 / 10 < 10 by omega)]
 unfold dig4
 rw [show u / 10 / 10 / 10 / 10 = u / 10000 by omega,show u / 10 / 10 / 10 % 10 = u % 10000 / 1000 % 10 by omega,show u / 10 / 10 % 10 = u % 10000 / 100 % 10 by omega,show u / 10 % 10 = u % 10000 / 10 % 10 by omega,show u % 10 = u % 10000 % 10 by omega]
 simp only [ByteArray.append_assoc]
def zeroS : ByteArray := ⟨#[48]⟩
theorem digS_zero : digS 0 = zeroS := rfl
theorem fill_one {u : Nat} (h : u < 10) : zeroS ++ (zeroS ++ (zeroS ++ (zeroS ++ decS u))) = zeroS ++ dig4 u := by
 rw [decS_small h]
 unfold dig4
 rw [show u / 1000 % 10 = 0 by omega,show u / 100 % 10 = 0 by omega,show u / 10 % 10 = 0 by omega,show u % 10 = u by omega,digS_zero]
 simp only [ByteArray.append_assoc]
theorem fill_two {u : Nat} (h0 : ¬ u < 10) (h : u < 100) : zeroS ++ (zeroS ++ (zeroS ++ decS u)) = zeroS ++ dig4 u := by
 rw [decS_big h0,decS_small (show u / 10 < 10 by omega)]
 unfold dig4
 rw [show u / 1000 % 10 = 0 by omega,show u / 100 % 10 = 0 by omega,show u / 10 % 10 = u / 10 by omega,digS_zero]
 simp only [ByteArray.append_assoc]
theorem fill_three {u : Nat} (h0 : ¬ u < 100) (h : u < 1000) : zeroS ++ (zeroS ++ decS u) = zeroS ++ dig4 u := by
 rw [decS_big (show ¬ u < 10 by omega),decS_big (show ¬ u / 10 < 10 by omega),decS_small (show u / 10 / 10 < 10 by omega)]
 unfold dig4
 rw [show u / 1000 % 10 = 0 by omega,show u / 10 / 10 = u / 100 % 10 by omega,digS_zero]
 simp only [ByteArray.append_assoc]
theorem fill_four {u : Nat} (h0 : ¬ u < 1000) (h : u < 10000) : zeroS ++ decS u = zeroS ++ dig4 u := by
 rw [decS_big (show ¬ u < 10 by omega),decS_big (show ¬ u / 10 < 10 by omega),decS_big (show ¬ u / 10 / 10 < 10 by omega),decS_small (show u / 10 / 10 / 10 < 10 by omega)]
 unfold dig4
 rw [show u / 10 / 10 / 10 = u / 1000 % 10 by omega,show u / 10 / 10 % 10 = u / 100 % 10 by omega]
def filled (u : Nat) : ByteArray := decS (u / 10000) ++ dig4 (u % 10000)
theorem size_one {u : Nat} (h : u < 10) : (decS u).size = 1 := by rw [decS_small h];rfl
theorem size_two {u : Nat} (h0 : ¬ u < 10) (h : u < 100) : (decS u).size = 2 := by rw [decS_big h0,decS_small (show u / 10 < 10 by omega)];rfl
theorem size_three {u : Nat} (h0 : ¬ u < 100) (h : u < 1000) : (decS u).size = 3 := by rw [decS_big (show ¬ u < 10 by omega),ByteArray.size_append,size_two (by omega) (by omega),digS_size]
theorem size_four {u : Nat} (h0 : ¬ u < 1000) (h : u < 10000) : (decS u).size = 4 := by rw [decS_big (show ¬ u < 10 by omega),ByteArray.size_append,size_three (by omega) (by omega),digS_size]
theorem filled_size (u : Nat) : (filled u).size = (decS (u / 10000)).size + 4 := by unfold filled;rw [ByteArray.size_append,dig4_size]
theorem decS_pos (u : Nat) : 1 ≤ (decS u).size := by
 by_cases h : u < 10
 ·rw [size_one h];exact Nat.le_refl _
 ·rw [decS_big h,ByteArray.size_append,digS_size];omega
theorem filled_small {u : Nat} (h : u < 10000) : filled u = zeroS ++ dig4 u := by
 unfold filled
 rw [show u / 10000 = 0 by omega,Nat.mod_eq_of_lt h,decS_zero]
 rfl
theorem extract_left (a b : ByteArray) : (a ++ b).extract 0 a.size = a := by
 apply ByteArray.ext
 simp [ByteArray.data_extract,ByteArray.data_append,Array.extract_append]
theorem extract_right (a b : ByteArray) : (a ++ b).extract a.size (a ++ b).size = b := by
 apply ByteArray.ext
 have e : a.data.size = a.size := rfl
 have e2 : b.data.size = b.size := rfl
 simp only [ByteArray.data_extract,ByteArray.data_append,Array.extract_append,ByteArray.size_append,← e,← e2,Nat.sub_self,Nat.add_sub_cancel_left,Array.extract_size]
 rw [Array.extract_empty_of_size_le_start (Nat.le_refl _)]
 simp
def decB (n : Int) : ByteArray := ((if n < 0 then (⟨#[45]⟩ : ByteArray) else ⟨#[]⟩) ++ decS (n.natAbs / 10000)) ++ ((⟨#[46]⟩ : ByteArray) ++ dig4 (n.natAbs % 10000))
theorem low_cut (r : Nat) (h : r < 10000) : (decS (r + 10000)).extract 1 (decS (r + 10000)).size = dig4 r := by
 rw [decS_four (show ¬ r + 10000 < 10000 by omega),show (r + 10000) / 10000 = 1 by omega,show (r + 10000) % 10000 = r by omega]
 have e : (decS 1).size = 1 := size_one (by omega)
 have := extract_right (decS 1) (dig4 r)
 rw [e] at this
 exact this
theorem fuint_eq (u : Nat) (h : u < 18446744073709551616) : qwj.f (u : Int) 10 = some (decS u) := by
 unfold qwj.f
 rw [if_pos ⟨rfl,by omega,by omega⟩,Int.toNat_natCast]
 rfl
theorem Ev.ifP {α : Type} {c : Prop} [Decidable c] {f g : Nat → Option α} {r : α} (h : c) (he : Ev f r) : Ev (fun n => if c then f n else g n) r := by
 simp only [if_pos h];exact he
theorem shr_natT (e n : Nat) (hn : n ≤ 64) : shr .i64 (e : Int) (n : Int) = ((e / 2 ^ n : Nat) : Int) := by
 unfold shr
 rw [Int.toNat_natCast,Nat.min_eq_left (show n ≤ IntKind.i64.bits from hn)]
 simp
theorem smallT : ∀ x : Int,0 ≤ x → x < 2 ^ 40 → IntKind.i64.wrap x = x := fun x h0 h1 => IntWalk.i64_in _ (by omega)
theorem and255_i (e n : Nat) (he : e < 4294967296) (hn : n ≤ 64) : Go.bits .and .i64 (shr .i64 (e : Int) (n : Int)) 255 = ((e / 2 ^ n % 256 : Nat) : Int) := by
 have hle : e / 2 ^ n ≤ e := Nat.div_le_self _ _
 obtain ⟨q,eq⟩ : ∃ q,q = e / 2 ^ n := ⟨_,rfl⟩
 rw [shr_natT e n hn,← eq]
 rw [← eq] at hle
 rw [show (255 : Int) = 2 ^ 8 - 1 by decide,Go.bits_mask .i64 40 (by decide) smallT 8 (by decide) _ (by omega) (by omega)]
 omega
def blockB (e m : Nat) : ByteArray := (((((((decS (e / 16777216) ++ (⟨#[46]⟩ : ByteArray)) ++ decS (e / 65536 % 256)) ++ (⟨#[46]⟩ : ByteArray)) ++ decS (e / 256 % 256)) ++ (⟨#[46]⟩ : ByteArray)) ++ decS (e % 256)) ++ (⟨#[47]⟩ : ByteArray)) ++ decS m
def textB (k n : Int) (t ty : ByteArray) : ByteArray :=
 if k = 1 then (if n = 1 then (⟨#[116,114,117,101]⟩ : ByteArray) else (⟨#[102,97,108,115,101]⟩ : ByteArray))
 else if k = 2 then numS n
 else if k = 3 then quoteB t
 else if k = 4 then (ty ++ (⟨#[58,58]⟩ : ByteArray)) ++ quoteB t
 else if k = 5 then decB n
 else if k = 6 then blockB (n / 64).toNat (n % 64).toNat
 else (⟨#[64]⟩ : ByteArray) ++ numS n
theorem dec3 (u : Nat) (h : u < 1000) : (decS u).size ≤ 3 := decS_len u 2 (by omega)
theorem dec10 (u : Nat) (h : u < 10000000000) : (decS u).size ≤ 10 := decS_len u 9 (by omega)
theorem addr_round (e j : Nat) (he : e < 4294967296) (hj : j ≤ 24) (s : ByteArray) (hs : s.size ≤ 1000) (k : Nat) (a b : Int) (t ty : ByteArray) :
  vx.l0 (k + 1) (e : Int) s (j : Int) a b t ty = vx.l0 k (e : Int) (s ++ (decS (e / 2 ^ j % 256) ++ (⟨#[46]⟩ : ByteArray))) ((j : Int) - 8) a b t ty := by
 have h3 := dec3 (e / 2 ^ j % 256) (by omega)
 rw [vx.l0,if_pos (show (j : Int) ≥ 0 by omega),if_pos (show 0 ≤ (j : Int) by omega),and255_i e j he (by omega),itoa_eq _ (by omega),Option.bind_some,if_pos (by omega),if_pos (by rw [ByteArray.size_append,show (⟨#[46]⟩ : ByteArray).size = 1 from rfl];omega),w64 (by omega) (by omega)]
theorem addr_end (e m : Nat) (hm : m < 64) (s : ByteArray) (hs : s.size ≤ 1000) (k : Nat) (a b : Int) (hb : Int.tmod b 64 = (m : Int)) (t ty : ByteArray) :
  vx.l0 (k + 1) (e : Int) (s ++ (⟨#[46]⟩ : ByteArray)) (-8) a b t ty = some ((s ++ (⟨#[47]⟩ : ByteArray)) ++ decS m) := by
 have h3 := dec3 m (by omega)
 have hsz : (s ++ (⟨#[46]⟩ : ByteArray)).size = s.size + 1 := by rw [ByteArray.size_append];rfl
 have ew : wrap64 (((s ++ (⟨#[46]⟩ : ByteArray)).size : Int) - 1) = ((s.size : Nat) : Int) := by rw [hsz,w64 (by omega) (by omega)];omega
 have ex := extract_left s (⟨#[46]⟩ : ByteArray)
 rw [vx.l0,if_neg (by decide),ew,if_pos (by omega),if_pos (by omega),Int.toNat_natCast,ex,if_pos (by omega),hb,itoa_eq _ (by omega),Option.bind_some,if_pos (by rw [ByteArray.size_append,show (⟨#[47]⟩ : ByteArray).size = 1 from rfl];omega)]
theorem addr_text (e m : Nat) (he : e < 4294967296) (hm : m < 64) (a b : Int) (hb : Int.tmod b 64 = (m : Int)) (t ty : ByteArray) : ∀ k,5 < k → vx.l0 k (e : Int) (⟨#[]⟩ : ByteArray) 24 a b t ty = some (blockB e m) := by
 intro k hk
 obtain ⟨k,rfl⟩ : ∃ q,k = q + 1 + 1 + 1 + 1 + 1 := ⟨k - 5,by omega⟩
 have d1 := dec3 (e / 2 ^ 24 % 256) (by omega)
 have d2 := dec3 (e / 2 ^ 16 % 256) (by omega)
 have d3 := dec3 (e / 2 ^ 8 % 256) (by omega)
 have d4 := dec3 (e / 2 ^ 0 % 256) (by omega)
 have one : (⟨#[46]⟩ : ByteArray).size = 1 := rfl
 have zero : (⟨#[]⟩ : ByteArray).size = 0 := rfl
 have r1 := addr_round e 24 he (by omega) (⟨#[]⟩ : ByteArray) (by omega) (k + 1 + 1 + 1 + 1) a b t ty
 rw [show ((24 : Nat) : Int) = 24 from rfl] at r1
 rw [r1]
 have r2 := addr_round e 16 he (by omega) ((⟨#[]⟩ : ByteArray) ++ (decS (e / 2 ^ 24 % 256) ++ (⟨#[46]⟩ : ByteArray))) (by simp only [ByteArray.size_append];omega) (k + 1 + 1 + 1) a b t ty
 rw [show ((16 : Nat) : Int) = 24 - 8 from rfl] at r2
 rw [r2]
 have r3 := addr_round e 8 he (by omega) (((⟨#[]⟩ : ByteArray) ++ (decS (e / 2 ^ 24 % 256) ++ (⟨#[46]⟩ : ByteArray))) ++ (decS (e / 2 ^ 16 % 256) ++ (⟨#[46]⟩ : ByteArray))) (by simp only [ByteArray.size_append];omega) (k + 1 + 1) a b t ty
 rw [show ((8 : Nat) : Int) = 24 - 8 - 8 from rfl] at r3
 rw [r3]
 have r4 := addr_round e 0 he (by omega) ((((⟨#[]⟩ : ByteArray) ++ (decS (e / 2 ^ 24 % 256) ++ (⟨#[46]⟩ : ByteArray))) ++ (decS (e / 2 ^ 16 % 256) ++ (⟨#[46]⟩ : ByteArray))) ++ (decS (e / 2 ^ 8 % 256) ++ (⟨#[46]⟩ : ByteArray))) (by simp only [ByteArray.size_append];omega) (k + 1) a b t ty
 rw [show ((0 : Nat) : Int) = 24 - 8 - 8 - 8 from rfl] at r4
 rw [r4]
 have r5 := addr_end e m hm (((((⟨#[]⟩ : ByteArray) ++ (decS (e / 2 ^ 24 % 256) ++ (⟨#[46]⟩ : ByteArray))) ++ (decS (e / 2 ^ 16 % 256) ++ (⟨#[46]⟩ : ByteArray))) ++ (decS (e / 2 ^ 8 % 256) ++ (⟨#[46]⟩ : ByteArray))) ++ decS (e / 2 ^ 0 % 256)) (by simp only [ByteArray.size_append];omega) k a b hb t ty
 rw [show (-8 : Int) = 24 - 8 - 8 - 8 - 8 from rfl,ByteArray.append_assoc] at r5
 rw [r5]
 congr 1
 unfold blockB
 rw [show e / 2 ^ 24 % 256 = e / 16777216 by omega,show e / 2 ^ 16 % 256 = e / 65536 % 256 by omega,show e / 2 ^ 8 % 256 = e / 256 % 256 by omega,show e / 2 ^ 0 % 256 = e % 256 by omega]
 rw [show (⟨#[]⟩ : ByteArray) ++ (decS (e / 16777216) ++ (⟨#[46]⟩ : ByteArray)) = decS (e / 16777216) ++ (⟨#[46]⟩ : ByteArray) by apply ByteArray.ext;simp]
 simp only [ByteArray.append_assoc]
theorem fill_step (x : ByteArray) (hx : x.size < 5) (k : Nat) (a n : Int) (t ty : ByteArray) : qvj.l0 (k + 1) x a n t ty = qvj.l0 k (zeroS ++ x) a n t ty := by
 rw [qvj.l0,if_pos (by omega),if_pos (by omega)]
 rfl
theorem fill_end (n : Int) (hn : okI n) (k : Nat) (a : Int) (t ty : ByteArray) : qvj.l0 (k + 1) (filled n.natAbs) a n t ty = some (decB n) := by
 have h1 := hn.1
 have h2 := hn.2
 have hp := decS_pos (n.natAbs / 10000)
 have hl := decS_le (n.natAbs / 10000) (by omega)
 have hsz := filled_size n.natAbs
 have ew : wrap64 (((filled n.natAbs).size : Int) - 4) = (((decS (n.natAbs / 10000)).size : Nat) : Int) := by rw [hsz,w64 (by omega) (by omega)];omega
 have x1 : (filled n.natAbs).extract 0 (decS (n.natAbs / 10000)).size = decS (n.natAbs / 10000) := extract_left _ _
 have x2 : (filled n.natAbs).extract (decS (n.natAbs / 10000)).size (filled n.natAbs).size = dig4 (n.natAbs % 10000) := extract_right _ _
 have one : (⟨#[46]⟩ : ByteArray).size = 1 := rfl
 rw [qvj.l0,if_neg (by omega),ew,if_pos (by omega),if_pos (by omega),Int.toNat_natCast,x1,x2,if_pos (by omega),if_pos (by rw [ByteArray.size_append,dig4_size,one];omega)]
 unfold decB
 by_cases hneg : n < 0
 ·rw [if_pos hneg,if_pos hneg,if_pos (by simp only [ByteArray.size_append,dig4_size,one];omega)]
  simp only [ByteArray.append_assoc]
 ·rw [if_neg hneg,if_neg hneg]
  congr 1
  rw [show (⟨#[]⟩ : ByteArray) ++ decS (n.natAbs / 10000) = decS (n.natAbs / 10000) by apply ByteArray.ext;simp]
  simp only [ByteArray.append_assoc]
theorem fill_text (n : Int) (hn : okI n) (a : Int) (t ty : ByteArray) : ∀ k,6 < k → qvj.l0 k (decS n.natAbs) a n t ty = some (decB n) := by
 intro k hk
 obtain ⟨k,rfl⟩ : ∃ q,k = q + 1 + 1 + 1 + 1 + 1 := ⟨k - 5,by omega⟩
 have fe := fun q => fill_end n hn q a t ty
 obtain ⟨u,eu⟩ : ∃ u,u = n.natAbs := ⟨_,rfl⟩
 rw [← eu] at fe ⊢
 have z1 : zeroS.size = 1 := rfl
 by_cases c1 : u < 10
 ·have e := fill_one c1
  rw [← filled_small (by omega)] at e
  have hs := size_one c1
  rw [fill_step _ (by omega),fill_step _ (by simp only [ByteArray.size_append];omega),fill_step _ (by simp only [ByteArray.size_append];omega),fill_step _ (by simp only [ByteArray.size_append];omega),e]
  exact fe _
 by_cases c2 : u < 100
 ·have e := fill_two c1 c2
  rw [← filled_small (by omega)] at e
  have hs := size_two c1 c2
  rw [fill_step _ (by omega),fill_step _ (by simp only [ByteArray.size_append];omega),fill_step _ (by simp only [ByteArray.size_append];omega),e]
  exact fe _
 by_cases c3 : u < 1000
 ·have e := fill_three c2 c3
  rw [← filled_small (by omega)] at e
  have hs := size_three c2 c3
  rw [fill_step _ (by omega),fill_step _ (by simp only [ByteArray.size_append];omega),e]
  exact fe _
 by_cases c4 : u < 10000
 ·have e := fill_four c3 c4
  rw [← filled_small (by omega)] at e
  have hs := size_four c3 c4
  rw [fill_step _ (by omega),e]
  exact fe _
 rw [show decS u = filled u from decS_four c4]
 exact fe _
theorem u64_nonneg (n : Int) (h0 : 0 ≤ n) (h1 : n ≤ 9223372036854775807) : IntKind.u64.wrap n = n := by rw [IntKind.wrap_u64];omega
theorem u64_negneg (n : Int) (h0 : n < 0) (h1 : -9223372036854775808 ≤ n) : IntKind.u64.wrap (-(IntKind.u64.wrap n)) = ((n.natAbs : Nat) : Int) := by rw [IntKind.wrap_u64,IntKind.wrap_u64];omega
theorem dec_parts (u : Nat) (hu : u ≤ 9223372036854775808) : qwj.f (IntKind.u64.wrap ((Int.tmod (u : Int) 10000) + 10000)) 10 = some (decS (u % 10000 + 10000)) ∧ qwj.f (IntKind.u64.wrap (Int.tdiv (u : Int) 10000)) 10 = some (decS (u / 10000)) := by
 rw [Int.tmod_eq_emod_of_nonneg (by omega),Int.tdiv_eq_ediv_of_nonneg (by omega)]
 rw [show IntKind.u64.wrap ((u : Int) % 10000 + 10000) = ((u % 10000 + 10000 : Nat) : Int) by rw [IntKind.wrap_u64];omega,show IntKind.u64.wrap ((u : Int) / 10000) = ((u / 10000 : Nat) : Int) by rw [IntKind.wrap_u64];omega]
 exact ⟨fuint_eq _ (by omega),fuint_eq _ (by omega)⟩
theorem good_six {n : Int} {t ty : ByteArray} (h : goodAtom 6 n t ty = true) : blkOk n := by
 simp only [goodAtom,noTexts,if_neg (show ¬ (6 : Int) = 1 by omega),if_neg (show ¬ ((6 : Int) = 2 ∨ (6 : Int) = 5) by omega),if_neg (show ¬ (6 : Int) = 3 by omega),if_neg (show ¬ (6 : Int) = 4 by omega),if_true,Bool.and_eq_true,decide_eq_true_eq] at h
 exact h.2
theorem good_text {k n : Int} {t ty : ByteArray} (h : goodAtom k n t ty = true) (hk : k = 3 ∨ k = 4) : t.size ≤ 200 ∧ ty.size ≤ 30 := by
 rcases hk with rfl | rfl
 ·simp only [goodAtom,if_neg (show ¬ (3 : Int) = 1 by omega),if_neg (show ¬ ((3 : Int) = 2 ∨ (3 : Int) = 5) by omega),if_true,Bool.and_eq_true,decide_eq_true_eq] at h
  exact ⟨h.2.1,by rw [h.1.2];omega⟩
 ·simp only [goodAtom,if_neg (show ¬ (4 : Int) = 1 by omega),if_neg (show ¬ ((4 : Int) = 2 ∨ (4 : Int) = 5) by omega),if_neg (show ¬ (4 : Int) = 3 by omega),if_true,Bool.and_eq_true,decide_eq_true_eq] at h
  exact ⟨h.2.2.1.2,(name_size h.2.1).2⟩
theorem blk_parts {n : Int} (h : blkOk n) (hi : n ≤ 9223372036854775807) : ∃ e m : Nat,(n / 64).toNat = e ∧ (n % 64).toNat = m ∧ e < 4294967296 ∧ m < 64 ∧ wrap64 (Int.tdiv n 64) = (e : Int) ∧ Int.tmod n 64 = (m : Int) := by
 have h0 := h.1
 have h2 := h.2.2.1
 refine ⟨(n / 64).toNat,(n % 64).toNat,rfl,rfl,by omega,by omega,?_,?_⟩
 ·rw [Int.tdiv_eq_ediv_of_nonneg h0,w64 (by omega) (by omega)];omega
 ·rw [Int.tmod_eq_emod_of_nonneg h0];omega
theorem implText_ev (k n : Int) (t ty : ByteArray) (ht : t.size ≤ 9223372036854775807) (hty : ty.size ≤ 9223372036854775807) (hn : okI n) :
  Ev (fun f => vx.f f k n t ty) (if goodAtom k n t ty = true then textB k n t ty else ⟨#[]⟩) := by
 simp only [vx.f]
 refine Ev.bind (implGoodAtom_ev k n t ty ht hty (fun _ => hn)) ?_
 by_cases hg : goodAtom k n t ty = true
 case neg => simp only [if_neg hg];exact Ev.now _
 simp only [if_pos hg]
 have hnum := numS_le n hn
 have h1 := hn.1
 have h2 := hn.2
 unfold textB
 by_cases k1 : k = 1
 ·simp only [if_pos k1,qwq.f,qwz.f]
  by_cases hz : n = 1
  ·subst hz;exact Ev.now _
  ·rw [show (n == 1) = false from beq_eq_false_iff_ne.2 hz]
   simp only [if_neg hz,Bool.false_eq_true,if_false,Option.bind_some]
   exact Ev.now _
 simp only [if_neg k1]
 by_cases k2 : k = 2
 ·simp only [if_pos k2,itoa_all n hn,Option.bind_some];exact Ev.now _
 simp only [if_neg k2]
 by_cases k3 : k = 3
 ·have hs := (good_text hg (.inl k3)).1
  simp only [if_pos k3,yquote_eq t (by omega),Option.bind_some];exact Ev.now _
 simp only [if_neg k3]
 by_cases k4 : k = 4
 ·have hs := good_text hg (.inr k4)
  have hq := quoteB_le t
  simp only [if_pos k4,if_pos (show ty.size + 2 ≤ 9223372036854775807 by omega),yquote_eq t (by omega),Option.bind_some,if_pos (show (ty ++ (⟨#[58,58]⟩ : ByteArray)).size + (quoteB t).size ≤ 9223372036854775807 by rw [ByteArray.size_append,show (⟨#[58,58]⟩ : ByteArray).size = 2 from rfl];omega)]
  exact Ev.now _
 simp only [if_neg k4]
 by_cases k5 : k = 5
 ·simp only [if_pos k5]
  have hp := decS_pos (n.natAbs / 10000)
  have hl := decS_le (n.natAbs / 10000) (by omega)
  have hlow := low_cut (n.natAbs % 10000) (by omega)
  have hpos := decS_pos (n.natAbs % 10000 + 10000)
  have z0 : (⟨#[]⟩ : ByteArray).size = 0 := rfl
  have z1 : (⟨#[45]⟩ : ByteArray).size = 1 := rfl
  have z2 : (⟨#[46]⟩ : ByteArray).size = 1 := rfl
  have d4 := dig4_size (n.natAbs % 10000)
  obtain ⟨p1,p2⟩ := dec_parts n.natAbs (by omega)
  by_cases hneg : n < 0
  ·simp only [if_pos hneg,u64_negneg n hneg h1,p1,p2,Option.bind_some,hlow]
   simp only [if_pos (show 1 + (decS (n.natAbs / 10000)).size ≤ 9223372036854775807 by omega),if_pos (show ((⟨#[45]⟩ : ByteArray) ++ decS (n.natAbs / 10000)).size + 1 ≤ 9223372036854775807 by rw [ByteArray.size_append];omega),if_pos (show 1 ≤ ((decS (n.natAbs % 10000 + 10000)).size : Int) by omega),if_pos (show (((⟨#[45]⟩ : ByteArray) ++ decS (n.natAbs / 10000)) ++ (⟨#[46]⟩ : ByteArray)).size + (dig4 (n.natAbs % 10000)).size ≤ 9223372036854775807 by simp only [ByteArray.size_append];omega)]
   have e : ((((⟨#[45]⟩ : ByteArray) ++ decS (n.natAbs / 10000)) ++ (⟨#[46]⟩ : ByteArray)) ++ dig4 (n.natAbs % 10000)) = decB n := by unfold decB;rw [if_pos hneg];simp only [ByteArray.append_assoc]
   rw [e]
   exact Ev.now _
  ·have en : n = ((n.natAbs : Nat) : Int) := by omega
   have eu : IntKind.u64.wrap n = ((n.natAbs : Nat) : Int) := by rw [u64_nonneg n (by omega) h2];exact en
   simp only [if_neg hneg,eu,p1,p2,Option.bind_some,hlow]
   simp only [if_pos (show 0 + (decS (n.natAbs / 10000)).size ≤ 9223372036854775807 by omega),if_pos (show ((⟨#[]⟩ : ByteArray) ++ decS (n.natAbs / 10000)).size + 1 ≤ 9223372036854775807 by rw [ByteArray.size_append];omega),if_pos (show 1 ≤ ((decS (n.natAbs % 10000 + 10000)).size : Int) by omega),if_pos (show (((⟨#[]⟩ : ByteArray) ++ decS (n.natAbs / 10000)) ++ (⟨#[46]⟩ : ByteArray)).size + (dig4 (n.natAbs % 10000)).size ≤ 9223372036854775807 by simp only [ByteArray.size_append];omega)]
   have e : ((((⟨#[]⟩ : ByteArray) ++ decS (n.natAbs / 10000)) ++ (⟨#[46]⟩ : ByteArray)) ++ dig4 (n.natAbs % 10000)) = decB n := by unfold decB;rw [if_neg hneg];simp only [ByteArray.append_assoc]
   rw [e]
   exact Ev.now _
 simp only [if_neg k5]
 by_cases k6 : k = 6
 ·subst k6
  obtain ⟨e,m,e1,e2,he,hm,e3,e4⟩ := blk_parts (good_six hg) h2
  simp only [if_true,e1,e2,e3]
  exact ⟨6,fun f hf => addr_text e m he hm _ n e4 t ty f (by omega)⟩
 simp only [if_neg k6,itoa_all n hn,Option.bind_some,if_pos (show 1 + (numS n).size ≤ 9223372036854775807 by omega)]
 exact Ev.now _
theorem specText_ev (k n : Int) (t ty : ByteArray) (hn : okI n) (hg : goodAtom k n t ty = true) : Ev (fun f => qvj.f f k n t ty) (textB k n t ty) := by
 simp only [qvj.f]
 have hnum := numS_le n hn
 have h1 := hn.1
 have h2 := hn.2
 unfold textB
 by_cases k1 : k = 1
 ·simp only [if_pos k1]
  by_cases hz : n = 1
  ·simp only [if_pos hz];exact Ev.now _
  ·simp only [if_neg hz];exact Ev.now _
 simp only [if_neg k1]
 by_cases k2 : k = 2
 ·simp only [if_pos k2]
  exact Ev.bind (l1Num_all n hn) (Ev.now _)
 simp only [if_neg k2]
 by_cases k3 : k = 3
 ·have hs := (good_text hg (.inl k3)).1
  simp only [if_pos k3]
  exact Ev.bind (l1Quoted_ev t (by omega)) (Ev.now _)
 simp only [if_neg k3]
 by_cases k4 : k = 4
 ·have hs := good_text hg (.inr k4)
  have hq := quoteB_le t
  simp only [if_pos k4,if_pos (show ty.size + 2 ≤ 9223372036854775807 by omega)]
  refine Ev.bind (l1Quoted_ev t (by omega)) ?_
  simp only [if_pos (show (ty ++ (⟨#[58,58]⟩ : ByteArray)).size + (quoteB t).size ≤ 9223372036854775807 by rw [ByteArray.size_append,show (⟨#[58,58]⟩ : ByteArray).size = 2 from rfl];omega)]
  exact Ev.now _
 simp only [if_neg k4]
 by_cases k5 : k = 5
 ·simp only [if_pos k5]
  refine Ev.bind (l1Size_ev n hn) ?_
  exact ⟨7,fun f hf => fill_text n hn _ t ty f (by omega)⟩
 simp only [if_neg k5]
 by_cases k6 : k = 6
 ·subst k6
  have hb := good_six hg
  have hb1 := hb.2.1
  obtain ⟨e,m,e1,e2,he,hm,e3,e4⟩ := blk_parts hb h2
  have ew : wrap64 (32 - (m : Int)) = ((32 - m : Nat) : Int) := by rw [w64 (by omega) (by omega)];omega
  have eb : Ev (fun f => qkz.f f 6 n t ty) ((e : Int),2 ^ (32 - m)) := by
   simp only [qkz.f,e3,e4,ew]
   exact Ev.bind ⟨40,fun k hk => pow2_eq _ (by omega) k (by omega)⟩ (Ev.now _)
  simp only [if_true,e1,e2]
  refine Ev.bind eb ?_
  have q1 : wrap64 (Int.tdiv (e : Int) 16777216) = ((e / 16777216 : Nat) : Int) := by rw [Int.tdiv_eq_ediv_of_nonneg (by omega),w64 (by omega) (by omega)];omega
  have q2 : Int.tmod (wrap64 (Int.tdiv (e : Int) 65536)) 256 = ((e / 65536 % 256 : Nat) : Int) := by rw [Int.tdiv_eq_ediv_of_nonneg (by omega),w64 (by omega) (by omega),Int.tmod_eq_emod_of_nonneg (by omega)];omega
  have q3 : Int.tmod (wrap64 (Int.tdiv (e : Int) 256)) 256 = ((e / 256 % 256 : Nat) : Int) := by rw [Int.tdiv_eq_ediv_of_nonneg (by omega),w64 (by omega) (by omega),Int.tmod_eq_emod_of_nonneg (by omega)];omega
  have q4 : Int.tmod (e : Int) 256 = ((e % 256 : Nat) : Int) := by rw [Int.tmod_eq_emod_of_nonneg (by omega)];omega
  have d1 := dec10 (e / 16777216) (by omega)
  have d2 := dec3 (e / 65536 % 256) (by omega)
  have d3 := dec3 (e / 256 % 256) (by omega)
  have d4 := dec3 (e % 256) (by omega)
  have d5 := dec3 m (by omega)
  have z2 : (⟨#[46]⟩ : ByteArray).size = 1 := rfl
  have z3 : (⟨#[47]⟩ : ByteArray).size = 1 := rfl
  simp only [q1,q2,q3,q4,e4]
  refine Ev.bind (l1Num_ev _ (by omega)) ?_
  simp only [if_pos (show (decS (e / 16777216)).size + 1 ≤ 9223372036854775807 by omega)]
  refine Ev.bind (l1Num_ev _ (by omega)) ?_
  refine Ev.ifP (by simp only [ByteArray.size_append];omega) ?_
  refine Ev.ifP (by simp only [ByteArray.size_append];omega) ?_
  refine Ev.bind (l1Num_ev _ (by omega)) ?_
  refine Ev.ifP (by simp only [ByteArray.size_append];omega) ?_
  refine Ev.ifP (by simp only [ByteArray.size_append];omega) ?_
  refine Ev.bind (l1Num_ev _ (by omega)) ?_
  refine Ev.ifP (by simp only [ByteArray.size_append];omega) ?_
  refine Ev.ifP (by simp only [ByteArray.size_append];omega) ?_
  refine Ev.bind (l1Num_ev _ (by omega)) ?_
  refine Ev.ifP (by simp only [ByteArray.size_append];omega) ?_
  exact Ev.now _
 simp only [if_neg k6]
 refine Ev.bind (l1Num_all n hn) ?_
 simp only [if_pos (show 1 + (numS n).size ≤ 9223372036854775807 by omega)]
 exact Ev.now _
def opOk (n k : Int) : Bool := (decide (n = 1 ∨ n = 2 ∨ n = 3) && decide (k = 2 ∨ k = 3 ∨ k = 5 ∨ k = 7)) || (decide (n = 4) && decide (k = 6))
def goodTerm (l : ByteArray) (n : Int) (p : ByteArray) (k m : Int) (t ty : ByteArray) : Bool := goodName l && (decide (p.size = 0) && (goodAtom k m t ty && opOk n k))
theorem op_low {n k : Int} (h : n = 1 ∨ n = 2 ∨ n = 3) : opOk n k = decide (k = 2 ∨ k = 3 ∨ k = 5 ∨ k = 7) := by
 unfold opOk
 rw [decide_eq_true h,decide_eq_false (show ¬ n = 4 by omega),Bool.true_and,Bool.false_and,Bool.or_false]
theorem op_four {n k : Int} (h : n = 4) : opOk n k = (k == 6) := by
 unfold opOk
 rw [decide_eq_false (show ¬ (n = 1 ∨ n = 2 ∨ n = 3) by omega),decide_eq_true h,Bool.true_and,Bool.false_and,Bool.false_or]
 rw [Bool.eq_iff_iff,decide_eq_true_eq,beq_iff_eq]
theorem op_none {n k : Int} (h1 : ¬ n = 1) (h2 : ¬ n = 2) (h3 : ¬ n = 3) (h4 : ¬ n = 4) : opOk n k = false := by
 unfold opOk
 rw [decide_eq_false (show ¬ (n = 1 ∨ n = 2 ∨ n = 3) by omega),decide_eq_false h4]
 rfl
theorem four (k : Int) : (decide (k = 2 ∨ k = 3 ∨ k = 5 ∨ k = 7)) = (if k = 2 then true else if k = 3 then true else if k = 5 then true else (k == 7)) := by
 by_cases k2 : k = 2
 ·subst k2;rfl
 by_cases k3 : k = 3
 ·subst k3;rfl
 by_cases k5 : k = 5
 ·subst k5;rfl
 rw [if_neg k2,if_neg k3,if_neg k5]
 rw [Bool.eq_iff_iff,decide_eq_true_eq,beq_iff_eq]
 omega
theorem some_if {c : Prop} [Decidable c] (b : Bool) : (if c then some true else some b) = some (if c then true else b) := by split <;> rfl
theorem specTerm_j0 (b : Bool) (l : ByteArray) (n : Int) (p : ByteArray) (k m : Int) (t ty : ByteArray) : Ev (fun f => qkq.j0 f b l n p k m t ty) (!b && opOk n k) := by
 refine Ev.upA ?_
 simp only [qkq.j0,some_if,← four]
 cases b
 case true => exact Ev.now _
 simp only [Bool.false_eq_true,if_false,Bool.not_false,Bool.true_and]
 by_cases n1 : n = 1
 ·rw [op_low (.inl n1)];simp only [if_pos n1];exact Ev.now _
 by_cases n2 : n = 2
 ·rw [op_low (.inr (.inl n2))];simp only [if_neg n1,if_pos n2];exact Ev.now _
 by_cases n3 : n = 3
 ·rw [op_low (.inr (.inr n3))];simp only [if_neg n1,if_neg n2,if_pos n3];exact Ev.now _
 by_cases n4 : n = 4
 ·rw [op_four n4];simp only [if_neg n1,if_neg n2,if_neg n3,if_pos n4];exact Ev.now _
 rw [op_none n1 n2 n3 n4]
 simp only [if_neg n1,if_neg n2,if_neg n3,if_neg n4]
 exact Ev.now _
theorem specTerm_ev (l : ByteArray) (n : Int) (p : ByteArray) (k m : Int) (t ty : ByteArray) (hl : okS l) (hp : okS p) (hm : okI m) (ht : okS t) (hty : okS ty) : Ev (fun f => qkq.f f l n p k m t ty) (goodTerm l n p k m t ty) := by
 simp only [qkq.f]
 refine Ev.bind (specName_ev l hl) ?_
 unfold goodTerm
 cases hg : goodName l
 case false => simp only [Bool.false_eq_true,if_false,Bool.false_and];exact specTerm_j0 true l n p k m t ty
 simp only [if_true,Bool.true_and]
 by_cases hz : p.size = 0
 ·simp only [if_pos (nil_list hz),decide_eq_true hz,Bool.true_and]
  refine Ev.bind (specGoodAtom_ev k m t ty ht hty (fun _ => hm)) ?_
  have := specTerm_j0 (!goodAtom k m t ty) l n p k m t ty
  rw [Bool.not_not] at this
  exact this
 ·simp only [if_neg (not_nil_list hz),decide_eq_false hz,Bool.false_and]
  exact specTerm_j0 true l n p k m t ty
theorem fits_ev (n k : Int) : Ev (fun f => xk.f f n k) (decide (n = 1) || opOk n k) := by
 simp only [xk.f]
 by_cases n1 : n = 1
 ·simp only [if_pos n1,decide_eq_true n1,Bool.true_or];exact Ev.now _
 simp only [if_neg n1,decide_eq_false n1,Bool.false_or]
 by_cases n2 : n = 2
 ·subst n2
  simp only [if_true]
  refine Ev.upA ?_
  simp only [xk.j0,show ((2 : Int) == 2) = true from rfl,if_true,some_if,← four]
  rw [op_low (.inr (.inl rfl))]
  exact Ev.now _
 simp only [if_neg n2]
 refine Ev.upA ?_
 simp only [xk.j0,some_if,← four]
 by_cases n3 : n = 3
 ·subst n3
  simp only [show ((3 : Int) == 3) = true from rfl,if_true]
  rw [op_low (.inr (.inr rfl))]
  exact Ev.now _
 simp only [beq_eq_false_iff_ne.2 n3,Bool.false_eq_true,if_false]
 by_cases n4 : n = 4
 ·subst n4
  simp only [if_true]
  rw [op_four rfl]
  exact Ev.now _
 simp only [if_neg n4]
 rw [op_none n1 n2 n3 n4]
 exact Ev.now _
theorem fits_both (n k : Int) (h4 : ¬ n = 4) : ((decide (n = 1) || opOk n k) && (decide ((2 : Int) = 1) || opOk 2 k)) = opOk n k := by
 rw [op_low (n := 2) (.inr (.inl rfl)),show decide ((2 : Int) = 1) = false from rfl,Bool.false_or]
 by_cases n1 : n = 1
 ·rw [decide_eq_true n1,Bool.true_or,Bool.true_and,op_low (.inl n1)]
 rw [decide_eq_false n1,Bool.false_or]
 by_cases h : n = 2 ∨ n = 3
 ·rw [op_low (.inr h),Bool.and_self]
 ·rw [op_none n1 (fun e => h (.inl e)) (fun e => h (.inr e)) h4,Bool.false_and]
theorem implTerm_ev (l : ByteArray) (n : Int) (p : ByteArray) (k m : Int) (t ty : ByteArray) (hl : okS l) (hp : okS p) (hm : okI m) (ht : okS t) (hty : okS ty) : Ev (fun f => xz.f f l n p k m t ty) (goodTerm l n p k m t ty) := by
 simp only [xz.f]
 refine Ev.bind (implName_ev l hl) ?_
 unfold goodTerm
 cases hg : goodName l
 case false => simp only [Bool.false_eq_true,if_false,Bool.false_and];exact Ev.now _
 simp only [if_true,Bool.true_and]
 by_cases hz : p.size = 0
 case neg => simp only [if_neg (not_nil_list hz),decide_eq_false hz,Bool.false_and];exact Ev.now _
 simp only [if_pos (nil_list hz),decide_eq_true hz,Bool.true_and]
 refine Ev.bind (implGoodAtom_ev k m t ty ht hty (fun _ => hm)) ?_
 cases ha : goodAtom k m t ty
 case false => simp only [Bool.false_eq_true,if_false,Bool.false_and];exact Ev.now _
 simp only [if_true,Bool.true_and]
 by_cases n4 : n = 4
 ·subst n4
  simp only [if_true]
  rw [op_four rfl]
  by_cases k6 : k = 6
  ·subst k6;exact Ev.now _
  ·simp only [if_neg k6,beq_eq_false_iff_ne.2 k6];exact Ev.now _
 simp only [if_neg n4]
 rw [← fits_both n k n4]
 refine Ev.bind (fits_ev n k) ?_
 cases hf : (decide (n = 1) || opOk n k)
 case false => simp only [Bool.false_eq_true,if_false,Bool.false_and];exact Ev.now _
 simp only [if_true,Bool.true_and]
 exact Ev.bind (fits_ev 2 k) (Ev.now _)
theorem goodTerm_parts {l : ByteArray} {n : Int} {p : ByteArray} {k m : Int} {t ty : ByteArray} (h : goodTerm l n p k m t ty = true) : l.size ≤ 30 ∧ goodAtom k m t ty = true ∧ (n = 1 ∨ n = 2 ∨ n = 3 ∨ n = 4) := by
 unfold goodTerm opOk at h
 simp only [Bool.and_eq_true,Bool.or_eq_true,decide_eq_true_eq] at h
 exact ⟨(name_size h.1).2,h.2.2.1,by omega⟩
theorem textB_le {k m : Int} {t ty : ByteArray} (h : goodAtom k m t ty = true) (hm : okI m) : (textB k m t ty).size ≤ 500 := by
 have hnum := numS_le m hm
 have h1 := hm.1
 have h2 := hm.2
 have hq := quoteB_le t
 unfold textB
 by_cases k1 : k = 1
 ·rw [if_pos k1];split <;> decide
 rw [if_neg k1]
 by_cases k2 : k = 2
 ·rw [if_pos k2];omega
 rw [if_neg k2]
 by_cases k3 : k = 3
 ·have hs := (good_text h (.inl k3)).1
  rw [if_pos k3];omega
 rw [if_neg k3]
 by_cases k4 : k = 4
 ·have hs := good_text h (.inr k4)
  rw [if_pos k4]
  simp only [ByteArray.size_append,show (⟨#[58,58]⟩ : ByteArray).size = 2 from rfl];omega
 rw [if_neg k4]
 by_cases k5 : k = 5
 ·have hl := decS_le (m.natAbs / 10000) (by omega)
  rw [if_pos k5]
  unfold decB
  have e : (if m < 0 then (⟨#[45]⟩ : ByteArray) else ⟨#[]⟩).size ≤ 1 := by split <;> decide
  simp only [ByteArray.size_append,dig4_size,show (⟨#[46]⟩ : ByteArray).size = 1 from rfl];omega
 rw [if_neg k5]
 by_cases k6 : k = 6
 ·subst k6
  obtain ⟨e,q,e1,e2,he,hq,e3,e4⟩ := blk_parts (good_six h) h2
  rw [if_pos rfl,e1,e2]
  have d1 := dec10 (e / 16777216) (by omega)
  have d2 := dec3 (e / 65536 % 256) (by omega)
  have d3 := dec3 (e / 256 % 256) (by omega)
  have d4 := dec3 (e % 256) (by omega)
  have d5 := dec3 q (by omega)
  unfold blockB
  simp only [ByteArray.size_append,show (⟨#[46]⟩ : ByteArray).size = 1 from rfl,show (⟨#[47]⟩ : ByteArray).size = 1 from rfl];omega
 rw [if_neg k6]
 simp only [ByteArray.size_append,show (⟨#[64]⟩ : ByteArray).size = 1 from rfl];omega
def termS (l : ByteArray) (n : Int) (p : ByteArray) (k m : Int) (t ty : ByteArray) : ByteArray := if goodTerm l n p k m t ty = true then termB l n (textB k m t ty) else ⟨#[]⟩
theorem implTermText_ev (l : ByteArray) (n : Int) (p : ByteArray) (k m : Int) (t ty : ByteArray) (hl : okS l) (hp : okS p) (hm : okI m) (ht : okS t) (hty : okS ty) : Ev (fun f => wk.f f l n p k m t ty) (termS l n p k m t ty) := by
 simp only [wk.f]
 refine Ev.bind (implTerm_ev l n p k m t ty hl hp hm ht hty) ?_
 unfold termS
 cases hg : goodTerm l n p k m t ty
 case false => simp only [Bool.false_eq_true,if_false];exact Ev.now _
 obtain ⟨q1,q2,q3⟩ := goodTerm_parts hg
 have q4 := textB_le q2 hm
 simp only [if_true]
 have hi := implText_ev k m t ty ht hty hm
 rw [if_pos q2] at hi
 refine Ev.bind hi ?_
 refine Ev.ifP ⟨by omega,by omega,by omega,by omega⟩ ?_
 exact Ev.now _
theorem op_same {n : Int} (h : n = 1 ∨ n = 2 ∨ n = 3 ∨ n = 4) : rdOf ByteArray.empty ([(⟨#[]⟩ : ByteArray),(⟨#[61,61]⟩ : ByteArray),(⟨#[60]⟩ : ByteArray),(⟨#[60,61]⟩ : ByteArray),(⟨#[105,110]⟩ : ByteArray)] : List ByteArray) n = opAt n := by
 rcases h with rfl | rfl | rfl | rfl <;> rfl
theorem specTermText_ev (l : ByteArray) (n : Int) (p : ByteArray) (k m : Int) (t ty : ByteArray) (hl : okS l) (hp : okS p) (hm : okI m) (ht : okS t) (hty : okS ty) : Ev (fun f => qjw.f f l n p k m t ty) (termS l n p k m t ty) := by
 simp only [qjw.f]
 refine Ev.bind (specTerm_ev l n p k m t ty hl hp hm ht hty) ?_
 unfold termS
 cases hg : goodTerm l n p k m t ty
 case false => simp only [Bool.false_eq_true,if_false];exact Ev.now _
 obtain ⟨q1,q2,q3⟩ := goodTerm_parts hg
 have q4 := textB_le q2 hm
 have q5 := opAt_size n
 have z1 : (⟨#[32]⟩ : ByteArray).size = 1 := rfl
 simp only [if_true,qvw.f,Option.bind_some]
 refine Ev.ifP (by omega) ?_
 refine Ev.ifP (by omega) ?_
 refine Ev.ifP (by show n < 5;omega) ?_
 rw [op_same q3]
 refine Ev.ifP (by simp only [ByteArray.size_append];omega) ?_
 refine Ev.ifP (by simp only [ByteArray.size_append];omega) ?_
 refine Ev.bind (specText_ev k m t ty hm q2) ?_
 refine Ev.ifP (by simp only [ByteArray.size_append];omega) ?_
 exact Ev.now _
def letC (c : Int) : Bool := decide (97 ≤ c ∧ c ≤ 122 ∨ 65 ≤ c ∧ c ≤ 90)
def digC (c : Int) : Bool := decide (48 ≤ c ∧ c ≤ 57)
theorem sletter_eq (c : Int) : qkk.f c = some (letC c) := by
 unfold qkk.f letC
 split
 ·split
  ·congr 1;symm;rw [decide_eq_true_eq];omega
  ·split
   ·congr 1;rw [decide_eq_decide];omega
   ·congr 1;symm;rw [decide_eq_false_iff_not];omega
 ·split
  ·congr 1;rw [decide_eq_decide];omega
  ·congr 1;symm;rw [decide_eq_false_iff_not];omega
theorem sdigit_eq (c : Int) : qkj.f c = some (digC c) := by
 unfold qkj.f digC
 split
 ·congr 1;rw [decide_eq_decide];omega
 ·congr 1;symm;rw [decide_eq_false_iff_not];omega
theorem iletter_eq (c : Int) : xj.f c = some (letC c) := by
 unfold xj.f letC
 split
 ·split
  ·congr 1;symm;rw [decide_eq_true_eq];omega
  ·split
   ·congr 1;rw [decide_eq_decide];omega
   ·congr 1;symm;rw [decide_eq_false_iff_not];omega
 ·split
  ·congr 1;rw [decide_eq_decide];omega
  ·congr 1;symm;rw [decide_eq_false_iff_not];omega
theorem idigit_eq (c : Int) : wv.f c = some (digC c) := by
 unfold wv.f digC
 split
 ·congr 1;rw [decide_eq_decide];omega
 ·congr 1;symm;rw [decide_eq_false_iff_not];omega
def idC (c : Int) : Bool := if letC c = true then true else if digC c = true then true else if c = 95 then true else if c = 45 then true else if c = 46 then true else false
def idN (s : ByteArray) : Nat → Bool
 | 0 => true
 | d + 1 => if idC (bt s ((s.size - (d + 1) : Nat) : Int)) = true then idN s d else false
theorem l7Id_l0 (s : ByteArray) (hs : s.size ≤ 9223372036854775807) (d : Nat) : ∀ (k i : Nat),s.size - i = d → i ≤ s.size → d < k → qvx.l0 k s i = some (if idN s d = true then (if (s.size : Int) ≥ 1 then decide ((s.size : Int) ≤ 40) else false) else false) := by
 induction d with
 | zero =>
  intro k i hd hi hk
  obtain ⟨k,rfl⟩ : ∃ m,k = m + 1 := ⟨k - 1,by omega⟩
  simp only [qvx.l0,idN,if_true]
  rw [if_neg (by omega)]
  split <;> rfl
 | succ d ih =>
  intro k i hd hi hk
  obtain ⟨k,rfl⟩ : ∃ m,k = m + 1 := ⟨k - 1,by omega⟩
  have e0 : s.size - (d + 1) = i := by omega
  simp only [qvx.l0,idN,e0,sletter_eq,sdigit_eq,Option.bind_some]
  rw [if_pos (by omega),if_pos (by omega),w64 (by omega) (by omega),show ((i : Int) + 1) = ((i + 1 : Nat) : Int) from rfl,ih k (i + 1) (by omega) (by omega) (by omega)]
  unfold idC
  split
  ·simp only [if_true]
  ·split
   ·simp only [if_true]
   ·split
    ·simp only [if_true]
    ·split
     ·simp only [if_true]
     ·split <;> simp only [if_true,Bool.false_eq_true,if_false]
theorem ygoodId_l0 (s : ByteArray) (hs : s.size ≤ 9223372036854775807) (d : Nat) : ∀ (k i : Nat),s.size - i = d → i ≤ s.size → d < k → xq.l0 k s (s.size : Int) i = some (idN s d) := by
 induction d with
 | zero =>
  intro k i hd hi hk
  obtain ⟨k,rfl⟩ : ∃ m,k = m + 1 := ⟨k - 1,by omega⟩
  simp only [xq.l0]
  rw [if_neg (by omega)]
  rfl
 | succ d ih =>
  intro k i hd hi hk
  obtain ⟨k,rfl⟩ : ∃ m,k = m + 1 := ⟨k - 1,by omega⟩
  have e0 : s.size - (d + 1) = i := by omega
  simp only [xq.l0,idN,e0,xx.f,iletter_eq,idigit_eq,Option.bind_some]
  rw [if_pos (by omega),if_pos (by omega),if_pos (by omega),w64 (by omega) (by omega),show ((i : Int) + 1) = ((i + 1 : Nat) : Int) from rfl,ih k (i + 1) (by omega) (by omega) (by omega)]
  unfold idC
  by_cases h1 : letC (bt s (i : Int)) = true
  ·simp only [h1,if_true,Option.bind_some]
  ·simp only [h1,Bool.false_eq_true,if_false]
   by_cases h2 : digC (bt s (i : Int)) = true
   ·simp only [h2,if_true,Option.bind_some]
   ·simp only [h2,Bool.false_eq_true,if_false,Option.bind_some,beq_iff_eq]
    by_cases h3 : bt s (i : Int) = 95
    ·simp only [h3,if_true]
    ·simp only [h3,if_false]
     by_cases h4 : bt s (i : Int) = 45
     ·simp only [h4,if_true]
     ·simp only [h4,if_false]
      by_cases h5 : bt s (i : Int) = 46
      ·simp only [h5,if_true]
      ·simp only [h5,if_false,Bool.false_eq_true]
def goodId (s : ByteArray) : Bool := idN s s.size && (decide (1 ≤ s.size) && decide (s.size ≤ 40))
theorem specId_ev (s : ByteArray) (hs : s.size ≤ 9223372036854775807) : Ev (fun k => qvx.f k s) (goodId s) := by
 refine ⟨s.size + 1,fun k hk => ?_⟩
 show qvx.f k s = _
 unfold qvx.f
 have e := l7Id_l0 s hs s.size k 0 (by omega) (by omega) (by omega)
 rw [show (0 : Int) = ((0 : Nat) : Int) from rfl,e]
 congr 1
 unfold goodId
 cases idN s s.size with
 | false => rfl
 | true =>
  simp only [if_true,Bool.true_and]
  by_cases h : 1 ≤ s.size
  ·rw [if_pos (by omega),decide_eq_true h,Bool.true_and,decide_eq_decide];omega
  ·rw [if_neg (by omega),decide_eq_false h,Bool.false_and]
theorem implId_ev (s : ByteArray) (hs : s.size ≤ 9223372036854775807) : Ev (fun k => xq.f k s) (goodId s) := by
 refine ⟨s.size + 2,fun k hk => ?_⟩
 show xq.f k s = _
 obtain ⟨k,rfl⟩ : ∃ m,k = m + 1 := ⟨k - 1,by omega⟩
 unfold xq.f goodId
 by_cases h1 : 1 ≤ s.size
 ·by_cases h2 : s.size ≤ 40
  ·rw [if_neg (by omega),decide_eq_false (by omega),decide_eq_true h1,decide_eq_true h2]
   simp only [xq.j0,Bool.false_eq_true,if_false,Bool.and_true]
   exact ygoodId_l0 s hs s.size k 0 (by omega) (by omega) (by omega)
  ·rw [if_neg (by omega),decide_eq_true (by omega),decide_eq_false h2]
   simp only [xq.j0,if_true,Bool.and_false]
 ·rw [if_pos (by omega),decide_eq_false h1]
  simp only [xq.j0,if_true,Bool.false_and,Bool.and_false]
theorem Ev.upW {α : Type} {g : Nat → Option α} {r : α} (h : Ev (fun k => g (k + 1)) r) : Ev g r := by
 obtain ⟨n,h⟩ := h
 refine ⟨n + 1,fun k hk => ?_⟩
 obtain ⟨k,rfl⟩ : ∃ m,k = m + 1 := ⟨k - 1,by omega⟩
 exact h k (by omega)
theorem wrap_succ {i n : Nat} (h : i < n) (hn : n ≤ 281474976710656) : wrap64 ((i : Int) + 1) = ((i + 1 : Nat) : Int) := by rw [w64 (by omega) (by omega)];rfl
theorem rows_sz {α : Type} (l : List α) (ok small : α → Prop) (F : Nat → Int → Int → Option Int) (g : Nat → α → Int → Option Int) (hlen : l.length ≤ 1048576)
  (hstop : ∀ k x,F (k + 1) x (l.length : Int) = some x)
  (hstep : ∀ (k : Nat) (i : Nat) (h : i < l.length) (x : Int),F (k + 1) x (i : Int) = (g k l[i] x).bind fun t => if t < 0 then some (-1) else F k t ((i + 1 : Nat) : Int))
  (hok : ∀ e ∈ l,ok e) (hg : ∀ e,ok e → ∀ left : Int,0 ≤ left → left ≤ 1048576 → ∃ r : Int,Ev (fun k => g k e left) r ∧ r ≤ 1048576 ∧ (¬ r < 0 → small e)) (d : Nat) :
  ∀ (i : Nat) (left : Int),i + d = l.length → 0 ≤ left → left ≤ 1048576 → ∃ r : Int,Ev (fun k => F k left (i : Int)) r ∧ r ≤ 1048576 ∧ (¬ r < 0 → ∀ j (h : j < l.length),i ≤ j → small l[j]) := by
 induction d with
 | zero =>
  intro i left hi h0 h1
  obtain rfl : i = l.length := by omega
  refine ⟨left,Ev.upW ?_,h1,fun _ j hj hij => by omega⟩
  simp only [hstop]
  exact Ev.now _
 | succ d ih =>
  intro i left hi h0 h1
  have hlt : i < l.length := by omega
  obtain ⟨r1,e1,hr1,hs1⟩ := hg l[i] (hok _ (List.getElem_mem hlt)) left h0 h1
  by_cases hneg : r1 < 0
  ·refine ⟨-1,Ev.upW ?_,by omega,fun h => by omega⟩
   simp only [hstep _ i hlt]
   refine Ev.bind e1 ?_
   simp only [if_pos hneg]
   exact Ev.now _
  ·obtain ⟨r,er,hr1',hr⟩ := ih (i + 1) r1 (by omega) (by omega) hr1
   refine ⟨r,Ev.upW ?_,hr1',fun hn j hj hij => ?_⟩
   ·simp only [hstep _ i hlt]
    refine Ev.bind e1 ?_
    simp only [if_neg hneg]
    exact er
   ·by_cases hji : j = i
    ·subst hji;exact hs1 hneg
    ·exact hr hn j hj (by omega)
theorem rows_szf {α : Type} (l : List α) (ok small : α → Prop) (G : Nat → Int → Option Int) (F : Nat → Int → Int → Option Int) (g : Nat → α → Int → Option Int) (left : Int) (h0 : 0 ≤ left) (h1 : left ≤ 1048576) (hmax : l.length ≤ 9223372036854775807)
  (hG : ∀ k,G k left = if wrap64 (left - (l.length : Int)) < 0 then some (-1) else F k (wrap64 (left - (l.length : Int))) 0)
  (hstop : ∀ k x,F (k + 1) x (l.length : Int) = some x)
  (hstep : l.length ≤ 1048576 → ∀ (k : Nat) (i : Nat) (h : i < l.length) (x : Int),F (k + 1) x (i : Int) = (g k l[i] x).bind fun t => if t < 0 then some (-1) else F k t ((i + 1 : Nat) : Int))
  (hok : ∀ e ∈ l,ok e) (hg : ∀ e,ok e → ∀ left : Int,0 ≤ left → left ≤ 1048576 → ∃ r : Int,Ev (fun k => g k e left) r ∧ r ≤ 1048576 ∧ (¬ r < 0 → small e)) :
  ∃ r : Int,Ev (fun k => G k left) r ∧ r ≤ 1048576 ∧ (¬ r < 0 → l.length ≤ 1048576 ∧ ∀ e ∈ l,small e) := by
 have ew : wrap64 (left - (l.length : Int)) = left - (l.length : Int) := w64 (by omega) (by omega)
 by_cases h : (l.length : Int) ≤ left
 ·obtain ⟨r,er,hr1,hr⟩ := rows_sz l ok small F g (by omega) hstop (hstep (by omega)) hok hg l.length 0 (left - (l.length : Int)) (by omega) (by omega) (by omega)
  refine ⟨r,?_,hr1,fun hn => ⟨by omega,fun e he => ?_⟩⟩
  ·simp only [hG,ew,if_neg (show ¬ left - (l.length : Int) < 0 by omega)]
   exact er
  ·obtain ⟨j,hj,rfl⟩ := List.getElem_of_mem he
   exact hr hn j hj (by omega)
 ·refine ⟨-1,?_,by omega,fun hn => by omega⟩
  simp only [hG,ew,if_pos (show left - (l.length : Int) < 0 by omega)]
  exact Ev.now _
theorem set_midW {α : Type} (A : List α) (z v : α) (m i : Nat) (h : A.length = i) : (A ++ List.replicate (m + 1) z).set i v = (A ++ [v]) ++ List.replicate m z := by
 subst h
 rw [List.set_append_right _ _ (Nat.le_refl _),Nat.sub_self,List.replicate_succ,List.set_cons_zero,List.append_assoc]
 rfl
theorem rows_to {α β γ : Type} (l : List α) (z : β) (F : Nat → List β → Int → Option (List β)) (g : Nat → α → Option γ) (mk : γ → β) (cp : α → β) (hlen : l.length ≤ 1048576)
  (hstop : ∀ k x,F (k + 1) x (l.length : Int) = some x)
  (hstep : ∀ (k : Nat) (i : Nat) (h : i < l.length) (x : List β),x.length = l.length → F (k + 1) x (i : Int) = (g k l[i]).bind fun t => F k (x.set i (mk t)) ((i + 1 : Nat) : Int))
  (hg : ∀ e ∈ l,∃ t,Ev (fun k => g k e) t ∧ mk t = cp e) (d : Nat) :
  ∀ i,i + d = l.length → Ev (fun k => F k ((l.take i).map cp ++ List.replicate d z) (i : Int)) (l.map cp) := by
 induction d with
 | zero =>
  intro i hi
  obtain rfl : i = l.length := by omega
  refine Ev.upW ?_
  simp only [hstop]
  rw [List.take_length,List.replicate_zero,List.append_nil]
  exact Ev.now _
 | succ d ih =>
  intro i hi
  have hlt : i < l.length := by omega
  obtain ⟨t,et,ht⟩ := hg _ (List.getElem_mem hlt)
  have hlA : ((l.take i).map cp).length = i := by rw [List.length_map,List.length_take];omega
  have hl3 : ((l.take i).map cp ++ List.replicate (d + 1) z).length = l.length := by rw [List.length_append,hlA,List.length_replicate];omega
  refine Ev.upW ?_
  simp only [hstep _ i hlt _ hl3]
  refine Ev.bind et ?_
  rw [ht,set_midW _ _ _ _ _ hlA]
  have hn := ih (i + 1) (by omega)
  rw [List.take_succ_eq_append_getElem hlt,List.map_append,List.map_singleton] at hn
  exact hn
theorem rows_eq {α : Type} (l : List α) (F : Nat → Int → Option Bool) (g : Nat → α → Option Bool) (hlen : l.length ≤ 1048576)
  (hstop : ∀ k,F (k + 1) (l.length : Int) = some true)
  (hstep : ∀ (k : Nat) (i : Nat) (h : i < l.length),F (k + 1) (i : Int) = (g k l[i]).bind fun t => if t = true then F k ((i + 1 : Nat) : Int) else some false)
  (hg : ∀ e ∈ l,Ev (fun k => g k e) true) (d : Nat) : ∀ i,i + d = l.length → Ev (fun k => F k (i : Int)) true := by
 induction d with
 | zero =>
  intro i hi
  obtain rfl : i = l.length := by omega
  refine Ev.upW ?_
  simp only [hstop]
  exact Ev.now _
 | succ d ih =>
  intro i hi
  have hlt : i < l.length := by omega
  refine Ev.upW ?_
  simp only [hstep _ i hlt]
  refine Ev.bind (hg _ (List.getElem_mem hlt)) ?_
  simp only [if_true]
  exact ih (i + 1) (by omega)
def okT (x : S30) : Prop := okS x.f0 ∧ okS x.f2 ∧ okI x.f3.f1 ∧ okS x.f3.f2 ∧ okS x.f3.f3
def gT (x : S30) : Bool := goodTerm x.f0 x.f1 x.f2 x.f3.f0 x.f3.f1 x.f3.f2 x.f3.f3
def sT (x : S30) : ByteArray := termS x.f0 x.f1 x.f2 x.f3.f0 x.f3.f1 x.f3.f2 x.f3.f3
def goodCap (id : ByteArray) (l : List S30) (tag : List Int) : Bool := goodId id && (decide (l.length ≤ 20) && (decide (tag.length = 16) && l.all gT))
theorem rdT_nat {l : List S30} {i : Nat} (h : i < l.length) : vz l (i : Int) = l[i] := by simp [vz,List.getD_eq_getElem?_getD,List.getElem?_eq_getElem h]
theorem specT_ev (x : S30) (h : okT x) : Ev (fun k => qkq.f k x.f0 x.f1 x.f2 x.f3.f0 x.f3.f1 x.f3.f2 x.f3.f3) (gT x) := specTerm_ev _ _ _ _ _ _ _ h.1 h.2.1 h.2.2.1 h.2.2.2.1 h.2.2.2.2
theorem implT_ev (x : S30) (h : okT x) : Ev (fun k => xz.f k x.f0 x.f1 x.f2 x.f3.f0 x.f3.f1 x.f3.f2 x.f3.f3) (gT x) := implTerm_ev _ _ _ _ _ _ _ h.1 h.2.1 h.2.2.1 h.2.2.2.1 h.2.2.2.2
theorem specTT_ev (x : S30) (h : okT x) : Ev (fun k => qjw.f k x.f0 x.f1 x.f2 x.f3.f0 x.f3.f1 x.f3.f2 x.f3.f3) (sT x) := specTermText_ev _ _ _ _ _ _ _ h.1 h.2.1 h.2.2.1 h.2.2.2.1 h.2.2.2.2
theorem implTT_ev (x : S30) (h : okT x) : Ev (fun k => wk.f k x.f0 x.f1 x.f2 x.f3.f0 x.f3.f1 x.f3.f2 x.f3.f3) (sT x) := implTermText_ev _ _ _ _ _ _ _ h.1 h.2.1 h.2.2.1 h.2.2.2.1 h.2.2.2.2
theorem has_ev : ∀ (l : List S30),(∀ x ∈ l,okT x) → Ev (fun k => has_impl_ygoodCap_1.f k l) (!l.all gT)
 | [],_ => Ev.now _
 | x :: xs,h => by
  have ih := has_ev xs (fun y hy => h y (List.mem_cons_of_mem _ hy))
  show Ev (fun k => ((xz.f k x.f0 x.f1 x.f2 x.f3.f0 x.f3.f1 x.f3.f2 x.f3.f3).bind fun t => some (!t)).bind fun b => if b = true then some true else has_impl_ygoodCap_1.f k xs) _
  simp only [Option.bind_assoc,Option.bind_some]
  refine Ev.bind (implT_ev x (h x List.mem_cons_self)) ?_
  rw [List.all_cons]
  cases gT x
  ·simp only [Bool.not_false,if_true,Bool.false_and];exact Ev.now _
  ·simp only [Bool.not_true,Bool.false_eq_true,if_false,Bool.true_and];exact ih
theorem implCap_ev (id : ByteArray) (l : List S30) (tag : List Int) (hi : okS id) (h : ∀ x ∈ l,okT x) : Ev (fun k => ww.f k id l tag) (goodCap id l tag) := by
 simp only [ww.f]
 refine Ev.bind (implId_ev id hi) ?_
 unfold goodCap
 cases goodId id
 case false => simp only [Bool.false_eq_true,if_false,Bool.false_and];exact Ev.now _
 simp only [if_true,Bool.true_and]
 by_cases h20 : l.length ≤ 20
 case neg => simp only [if_neg (show ¬ (l.length : Int) ≤ 20 by omega),decide_eq_false h20,Bool.false_and];exact Ev.now _
 simp only [if_pos (show (l.length : Int) ≤ 20 by omega),decide_eq_true h20,Bool.true_and]
 by_cases h16 : tag.length = 16
 case neg => simp only [if_neg (show ¬ (tag.length : Int) = 16 by omega),decide_eq_false h16,Bool.false_and];exact Ev.now _
 simp only [if_pos (show (tag.length : Int) = 16 by omega),decide_eq_true h16,Bool.true_and]
 refine Ev.bind (has_ev l h) ?_
 rw [Bool.not_not]
 exact Ev.now _
theorem specGood_l0 (id : ByteArray) (l : List S30) (tag : List Int) (hi : okS id) (h : ∀ x ∈ l,okT x) (hlen : l.length ≤ 1048576) (d : Nat) : ∀ i,i + d = l.length → Ev (fun k => qjx.l0 k l (l.length : Int) (i : Int) id l tag) ((l.drop i).all gT && (goodId id && (decide (l.length ≤ 20) && decide (tag.length = 16)))) := by
 induction d with
 | zero =>
  intro i e
  obtain rfl : i = l.length := by omega
  refine Ev.upW ?_
  simp only [qjx.l0,if_neg (Int.lt_irrefl _)]
  rw [List.drop_length,List.all_nil,Bool.true_and]
  refine Ev.bind (specId_ev id hi) ?_
  cases goodId id
  case false => simp only [Bool.false_eq_true,if_false,Bool.false_and];exact Ev.now _
  simp only [if_true,Bool.true_and]
  by_cases h20 : l.length ≤ 20
  case neg => simp only [if_neg (show ¬ (l.length : Int) ≤ 20 by omega),decide_eq_false h20,Bool.false_and];exact Ev.now _
  simp only [if_pos (show (l.length : Int) ≤ 20 by omega),decide_eq_true h20,Bool.true_and]
  have : ((tag.length : Int) == 16) = decide (tag.length = 16) := by rw [Bool.eq_iff_iff,beq_iff_eq,decide_eq_true_eq];omega
  rw [this]
  exact Ev.now _
 | succ d ih =>
  intro i e
  have hlt : i < l.length := by omega
  refine Ev.upW ?_
  simp only [qjx.l0,if_pos (show (i : Int) < (l.length : Int) by omega),if_pos (Int.natCast_nonneg i),rdT_nat hlt,wrap_succ hlt (by omega)]
  refine Ev.bind (specT_ev _ (h _ (List.getElem_mem hlt))) ?_
  rw [List.drop_eq_getElem_cons hlt,List.all_cons]
  cases gT l[i]
  case false => simp only [Bool.false_eq_true,if_false,Bool.false_and];exact Ev.now _
  simp only [if_true,Bool.true_and]
  exact ih (i + 1) (by omega)
theorem specGood_ev (id : ByteArray) (l : List S30) (tag : List Int) (hi : okS id) (h : ∀ x ∈ l,okT x) (hlen : l.length ≤ 1048576) : Ev (fun k => qjx.f k id l tag) (goodCap id l tag) := by
 have := specGood_l0 id l tag hi h hlen l.length 0 (by omega)
 rw [List.drop_zero] at this
 simp only [qjx.f]
 have e : goodCap id l tag = (l.all gT && (goodId id && (decide (l.length ≤ 20) && decide (tag.length = 16)))) := by
  unfold goodCap
  cases goodId id <;> cases decide (l.length ≤ 20) <;> cases decide (tag.length = 16) <;> cases l.all gT <;> rfl
 rw [e]
 exact this
theorem line_le {x : S30} (h : okT x) (hg : gT x = true) : (sT x).size ≤ 540 := by
 unfold gT at hg
 obtain ⟨q1,q2,q3⟩ := goodTerm_parts hg
 have q4 := textB_le q2 h.2.2.1
 have q5 := opAt_size x.f1
 have z1 : (⟨#[32]⟩ : ByteArray).size = 1 := rfl
 unfold sT termS termB
 rw [if_pos hg]
 simp only [ByteArray.size_append]
 omega
def linesU : List S30 → List UInt8
 | [] => []
 | x :: xs => ((sT x).data.toList ++ [10]) ++ linesU xs
theorem linesU_le : ∀ (l : List S30),(∀ x ∈ l,okT x) → l.all gT = true → (linesU l).length ≤ 541 * l.length
 | [],_,_ => by simp [linesU]
 | x :: xs,h,hg => by
  rw [List.all_cons,Bool.and_eq_true] at hg
  have ih := linesU_le xs (fun y hy => h y (List.mem_cons_of_mem _ hy)) hg.2
  have hl := line_le (h x List.mem_cons_self) hg.1
  simp only [linesU,List.length_append,data_length,List.length_cons,List.length_nil]
  omega
theorem capLines_ev : ∀ (l : List S30) (acc : List UInt8),(∀ x ∈ l,okT x) → l.all gT = true → acc.length + 541 * l.length ≤ 1000000 → Ev (fun k => capLines k l acc) (acc ++ linesU l)
 | [],acc,_,_,_ => by rw [linesU,List.append_nil];exact Ev.now _
 | x :: xs,acc,h,hg,hl => by
  rw [List.all_cons,Bool.and_eq_true] at hg
  have hx := line_le (h x List.mem_cons_self) hg.1
  rw [List.length_cons] at hl
  simp only [capLines]
  refine Ev.bind (implTT_ev x (h x List.mem_cons_self)) ?_
  refine Ev.ifP (by omega) ?_
  have ih := capLines_ev xs (acc ++ ((sT x).data.toList ++ [10])) (fun y hy => h y (List.mem_cons_of_mem _ hy)) hg.2 (by rw [List.length_append,List.length_append,data_length,List.length_singleton];omega)
  rw [List.append_assoc] at ih
  exact ih
theorem arr_step (u : List UInt8) (t : ByteArray) : (⟨u.toArray⟩ : ByteArray) ++ (t ++ (⟨#[10]⟩ : ByteArray)) = ⟨(u ++ (t.data.toList ++ [10])).toArray⟩ := by
 apply ByteArray.ext
 rw [ByteArray.data_append,ByteArray.data_append]
 apply Array.toList_inj.1
 simp
theorem arr_size (u : List UInt8) : (⟨u.toArray⟩ : ByteArray).size = u.length := List.size_toArray
def capB (id : ByteArray) (ts : List UInt8) (tag : List Int) : ByteArray := ((capHead id ++ armB (bytesOf ⟨ts.toArray⟩)) ++ (⟨#[126]⟩ : ByteArray)) ++ armB tag
def capS (id : ByteArray) (l : List S30) (tag : List Int) : ByteArray := if goodCap id l tag = true then capB id (linesU l) tag else ⟨#[]⟩
theorem goodCap_parts {id : ByteArray} {l : List S30} {tag : List Int} (h : goodCap id l tag = true) : id.size ≤ 40 ∧ l.length ≤ 20 ∧ tag.length = 16 ∧ l.all gT = true := by
 unfold goodCap goodId at h
 simp only [Bool.and_eq_true,decide_eq_true_eq] at h
 exact ⟨h.1.2.2,h.2.1,h.2.2.1,h.2.2.2⟩
theorem armB_size (d : List Int) : (armB d).size = armN d := by
 unfold armB
 rw [arr_size,armU_len]
theorem armB_le (d : List Int) (n : Nat) (h : d.length ≤ n) : (armB d).size ≤ 2 * n + 1 := by
 rw [armB_size]
 unfold armN
 omega
theorem bytesLen (u : List UInt8) : (bytesOf ⟨u.toArray⟩).length = u.length := by rw [bytesOf_length,arr_size]
theorem bytesAll (u : List UInt8) : isBytes (bytesOf ⟨u.toArray⟩) := by
 intro x hx
 unfold bytesOf at hx
 obtain ⟨y,_,rfl⟩ := List.mem_map.1 hx
 have := y.toNat_lt
 omega
theorem implCapText_ev (id : ByteArray) (l : List S30) (tag : List Int) (hi : okS id) (h : ∀ x ∈ l,okT x) (ht : isBytes tag) : Ev (fun k => wq.f k id l tag) (capS id l tag) := by
 simp only [wq.f]
 refine Ev.bind (implCap_ev id l tag hi h) ?_
 unfold capS
 cases hg : goodCap id l tag
 case false => simp only [Bool.false_eq_true,if_false];exact Ev.now _
 obtain ⟨q1,q2,q3,q4⟩ := goodCap_parts hg
 have hll := linesU_le l h q4
 simp only [if_true]
 refine Ev.bind (capLines_ev l [] h q4 (by rw [List.length_nil];omega)) ?_
 rw [List.nil_append]
 have hb1 := armB_le (bytesOf ⟨(linesU l).toArray⟩) 20000 (by rw [bytesLen];omega)
 have hb2 := armB_le tag 16 (by omega)
 have e1 : vw.f (bytesOf ⟨(linesU l).toArray⟩) = some (armB (bytesOf ⟨(linesU l).toArray⟩)) := by
  unfold vw.f
  rw [if_pos (bytesAll _),if_neg (by rw [bytesLen];omega)]
 have e2 : vw.f tag = some (armB tag) := by
  unfold vw.f
  rw [if_pos ht,if_neg (by omega)]
 rw [e1,e2,Option.bind_some,Option.bind_some]
 refine Ev.ifP ⟨by omega,by omega,by omega,by omega,by omega⟩ ?_
 exact Ev.now _
theorem specCap_l0 (id : ByteArray) (l : List S30) (tag : List Int) (hi : id.size ≤ 40) (h : ∀ x ∈ l,okT x) (hg : l.all gT = true) (hlen : l.length ≤ 20) (ht : isBytes tag) (htl : tag.length = 16) (d : Nat) : ∀ (i : Nat) (u : List UInt8),i + d = l.length → u.length + 541 * d ≤ 20000 → Ev (fun k => qjj.l0 k (⟨u.toArray⟩ : ByteArray) l (l.length : Int) (i : Int) id l tag) (capB id (u ++ linesU (l.drop i)) tag) := by
 have z1 : (⟨#[126]⟩ : ByteArray).size = 1 := rfl
 have z4 : (⟨#[99,97,112,126]⟩ : ByteArray).size = 4 := rfl
 have z0 : (⟨#[10]⟩ : ByteArray).size = 1 := rfl
 induction d with
 | zero =>
  intro i u e hu
  obtain rfl : i = l.length := by omega
  refine Ev.upW ?_
  simp only [qjj.l0,if_neg (Int.lt_irrefl _)]
  rw [List.drop_length,linesU,List.append_nil]
  have hb1 := armB_le (bytesOf ⟨u.toArray⟩) 20000 (by rw [bytesLen];omega)
  have hb2 := armB_le tag 16 (by omega)
  have eb : bytesOfS.f (⟨u.toArray⟩ : ByteArray) = some (bytesOf ⟨u.toArray⟩) := by
   unfold bytesOfS.f
   rw [if_pos (by rw [arr_size];omega)]
  refine Ev.ifP (by omega) ?_
  refine Ev.ifP (by simp only [ByteArray.size_append];omega) ?_
  simp only [eb,Option.bind_some]
  refine Ev.bind (specArmor_ev _ (bytesAll u) (by rw [bytesLen];omega)) ?_
  refine Ev.ifP (by simp only [ByteArray.size_append];omega) ?_
  refine Ev.ifP (by simp only [ByteArray.size_append];omega) ?_
  refine Ev.bind (specArmor_ev _ ht (by omega)) ?_
  refine Ev.ifP (by simp only [ByteArray.size_append];omega) ?_
  exact Ev.now _
 | succ d ih =>
  intro i u e hu
  have hlt : i < l.length := by omega
  have hgi : gT l[i] = true := List.all_eq_true.1 hg _ (List.getElem_mem hlt)
  have hx := line_le (h _ (List.getElem_mem hlt)) hgi
  refine Ev.upW ?_
  simp only [qjj.l0,if_pos (show (i : Int) < (l.length : Int) by omega),if_pos (Int.natCast_nonneg i),rdT_nat hlt,wrap_succ hlt (by omega)]
  refine Ev.bind (specTT_ev _ (h _ (List.getElem_mem hlt))) ?_
  refine Ev.ifP (by omega) ?_
  refine Ev.ifP (by rw [ByteArray.size_append,arr_size];omega) ?_
  rw [arr_step,List.drop_eq_getElem_cons hlt,linesU]
  have hn := ih (i + 1) (u ++ ((sT l[i]).data.toList ++ [10])) (by omega) (by simp only [List.length_append,data_length,List.length_cons,List.length_nil];omega)
  rw [List.append_assoc u ((sT l[i]).data.toList ++ [10])] at hn
  exact hn
theorem specCapText_ev (id : ByteArray) (l : List S30) (tag : List Int) (hi : okS id) (h : ∀ x ∈ l,okT x) (ht : isBytes tag) (hlen : l.length ≤ 1048576) : Ev (fun k => qjj.f k id l tag) (capS id l tag) := by
 simp only [qjj.f]
 refine Ev.bind (specGood_ev id l tag hi h hlen) ?_
 unfold capS
 cases hg : goodCap id l tag
 case false => simp only [Bool.false_eq_true,if_false];exact Ev.now _
 obtain ⟨q1,q2,q3,q4⟩ := goodCap_parts hg
 simp only [if_true]
 have := specCap_l0 id l tag q1 h q4 q2 ht q3 l.length 0 [] (by omega) (by rw [List.length_nil];omega)
 rw [List.drop_zero,List.nil_append] at this
 exact this
def toT (e : S25) : S30 := ⟨e.f0,e.f1,e.f2,⟨e.f3.f0,e.f3.f1,e.f3.f2,e.f3.f3⟩⟩
theorem rdTL_nat {l : List S25} {i : Nat} (h : i < l.length) : vq l (i : Int) = l[i] := by simp [vq,List.getD_eq_getElem?_getD,List.getElem?_eq_getElem h]
theorem rdTI_nat {l : List S30} {i : Nat} (h : i < l.length) : vz l (i : Int) = l[i] := by simp [vz,List.getD_eq_getElem?_getD,List.getElem?_eq_getElem h]
theorem szAtom_eq (k m : Int) (t ty : ByteArray) (left : Int) (ht : okS t) (hty : okS ty) (h0 : 0 ≤ left) (h1 : left ≤ 1048576) : ∃ r : Int,qqx.f k m t ty left = some r ∧ r ≤ 1048576 := by
 unfold okS at ht hty
 unfold qqx.f
 rw [w64 (by omega) (by omega)]
 by_cases h : left - (t.size : Int) < 0
 ·exact ⟨_,if_pos h,by omega⟩
 rw [if_neg h,w64 (by omega) (by omega)]
 by_cases h2 : left - (t.size : Int) - (ty.size : Int) < 0
 ·exact ⟨_,if_pos h2,by omega⟩
 ·exact ⟨_,if_neg h2,by omega⟩
theorem szTerm_eq (l : ByteArray) (n : Int) (p : ByteArray) (k m : Int) (t ty : ByteArray) (left : Int) (hl : okS l) (hp : okS p) (ht : okS t) (hty : okS ty) (h0 : 0 ≤ left) (h1 : left ≤ 1048576) : ∃ r : Int,qzj.f l n p k m t ty left = some r ∧ r ≤ 1048576 ∧ (¬ r < 0 → True) := by
 unfold okS at hl hp
 unfold qzj.f
 rw [w64 (by omega) (by omega)]
 by_cases h : left - (l.size : Int) < 0
 ·exact ⟨_,if_pos h,by omega,fun _ => trivial⟩
 rw [if_neg h,w64 (by omega) (by omega)]
 by_cases h2 : left - (l.size : Int) - (p.size : Int) < 0
 ·exact ⟨_,if_pos h2,by omega,fun _ => trivial⟩
 rw [if_neg h2]
 obtain ⟨r,hr,hr1⟩ := szAtom_eq k m t ty (left - (l.size : Int) - (p.size : Int)) ht hty (by omega) (by omega)
 rw [hr,Option.bind_some]
 by_cases h3 : r < 0
 ·exact ⟨_,if_pos h3,by omega,fun _ => trivial⟩
 ·exact ⟨_,if_neg h3,by omega,fun _ => trivial⟩
def okLT (e : S25) : Prop := okS e.f0 ∧ okS e.f2 ∧ okS e.f3.f2 ∧ okS e.f3.f3
theorem szCavTermS_ev (l : List S25) (hok : ∀ e ∈ l,okLT e) (hmax : l.length ≤ 9223372036854775807) (left : Int) (h0 : 0 ≤ left) (h1 : left ≤ 1048576) : ∃ r : Int,Ev (fun k => qzk.f k l left) r ∧ r ≤ 1048576 ∧ (¬ r < 0 → l.length ≤ 1048576 ∧ ∀ e ∈ l,True) :=
 rows_szf l okLT (fun _ => True) (fun k x => qzk.f k l x) (fun k x i => qzk.l0 k l x i) (fun _ e x => qzj.f e.f0 e.f1 e.f2 e.f3.f0 e.f3.f1 e.f3.f2 e.f3.f3 x) left h0 h1 hmax (fun _ => rfl)
  (fun k x => by simp only [qzk.l0,if_neg (Int.lt_irrefl _)])
  (fun hl k i h x => by simp only [qzk.l0,if_pos (show (i : Int) < (l.length : Int) by omega),if_pos (Int.natCast_nonneg i),rdTL_nat h,wrap_succ h (by omega)])
  hok (fun e he x hx0 hx1 => by obtain ⟨r,e1,e2,e3⟩ := szTerm_eq e.f0 e.f1 e.f2 e.f3.f0 e.f3.f1 e.f3.f2 e.f3.f3 x he.1 he.2.1 he.2.2.1 he.2.2.2 hx0 hx1;exact ⟨r,⟨0,fun _ _ => e1⟩,e2,e3⟩)
theorem toCavTermS_ev (l : List S25) (hlen : l.length ≤ 1048576) : Ev (fun k => qjz.f k l) (l.map toT) := by
 simp only [qjz.f,if_pos (Int.natCast_nonneg l.length),Int.toNat_natCast,if_pos (show l.length ≤ 3198579280802 by omega)]
 have := rows_to l z30 (fun k x i => qjz.l0 k l x i) (fun _ e => qjq.f e.f0 e.f1 e.f2 e.f3.f0 e.f3.f1 e.f3.f2 e.f3.f3) (fun t => (⟨t.1,t.2.1,t.2.2.1,⟨t.2.2.2.1,t.2.2.2.2.1,t.2.2.2.2.2.1,t.2.2.2.2.2.2⟩⟩ : S30)) toT hlen
  (fun k x => by simp only [qjz.l0,if_neg (Int.lt_irrefl _)])
  (fun k i h x hx => by simp only [qjz.l0,if_pos (show (i : Int) < (l.length : Int) by omega),if_pos (Int.natCast_nonneg i),rdTL_nat h,wrap_succ h (by omega),if_pos (show (i : Int) < (x.length : Int) by omega),Int.toNat_natCast])
  (fun e _ => ⟨_,⟨0,fun _ _ => rfl⟩,rfl⟩) l.length 0 (by omega)
 rw [List.take_zero,List.map_nil,List.nil_append] at this
 exact this
theorem eqCavTerm_refl (a : ByteArray) (b : Int) (c : ByteArray) (d e : Int) (f g : ByteArray) : qqv.f a b c d e f g a b c d e f g = some true := by unfold qqv.f qqz.f;simp only [if_true,Option.bind_some]
theorem eqCavTermS_refl (l : List S30) (hlen : l.length ≤ 1048576) : Ev (fun k => qqw.f k l l) true := by
 simp only [qqw.f,if_true]
 exact rows_eq l (fun k i => qqw.l0 k l l i) (fun _ e => qqv.f e.f0 e.f1 e.f2 e.f3.f0 e.f3.f1 e.f3.f2 e.f3.f3 e.f0 e.f1 e.f2 e.f3.f0 e.f3.f1 e.f3.f2 e.f3.f3) hlen
  (fun k => by simp only [qqw.l0,if_neg (Int.lt_irrefl _)])
  (fun k i h => by simp only [qqw.l0,if_pos (show (i : Int) < (l.length : Int) by omega),if_pos (Int.natCast_nonneg i),rdTI_nat h,wrap_succ h (by omega)])
  (fun e _ => ⟨0,fun _ _ => eqCavTerm_refl _ _ _ _ _ _ _⟩) l.length 0 (by omega)
end Go.Proofs.YtnbbbjfjkhglhaaGreatDoor.Pr
namespace Go.Proofs.YtnbbbjfjkhglhaaGreatDoor.Pure
open Go.RowKit Go.Proofs.YtnbbbjfjkhglhaaGreatDoor.Read Go.Proofs.YtnbbbjfjkhglhaaGreatDoorW.PrintWords Go.Proofs.YtnbbbjfjkhglhaaGreatDoor.Pr
theorem szCap_ev (id : ByteArray) (l : List S25) (tag : List Int) (hi : okS id) (hl : okL ok25 l) (ht : okL okB tag) : ∃ r : Int,Ev (fun k => qzz.f k id l tag 1048576) r ∧ (¬ r < 0 → l.length ≤ 1048576 ∧ tag.length ≤ 1048576) := by
 have hl0 := hl.1
 have ht0 := ht.1
 have hi0 : id.size ≤ 9223372036854775807 := hi
 have hok : ∀ e ∈ l,okLT e := fun e he => ⟨(hl.2 e he).1,(hl.2 e he).2.2.1,(hl.2 e he).2.2.2.2.2.1,(hl.2 e he).2.2.2.2.2.2⟩
 simp only [qzz.f,w64 (show -9223372036854775808 ≤ (1048576 : Int) - (id.size : Int) by omega) (show (1048576 : Int) - (id.size : Int) ≤ 9223372036854775807 by omega)]
 by_cases h : (1048576 : Int) - (id.size : Int) < 0
 ·simp only [if_pos h];exact ⟨-1,Ev.now _,fun h => absurd (show (-1 : Int) < 0 by decide) h⟩
 simp only [if_neg h]
 obtain ⟨r,er,hr1,hr2⟩ := szCavTermS_ev l hok hl0 ((1048576 : Int) - (id.size : Int)) (by omega) (by omega)
 by_cases h2 : r < 0
 ·refine ⟨-1,Ev.bind er ?_,fun h => absurd (show (-1 : Int) < 0 by decide) h⟩
  simp only [if_pos h2];exact Ev.now _
 have hw : wrap64 (r - (tag.length : Int)) = r - (tag.length : Int) := w64 (by omega) (by omega)
 by_cases h3 : r - (tag.length : Int) < 0
 ·refine ⟨-1,Ev.bind er ?_,fun h => absurd (show (-1 : Int) < 0 by decide) h⟩
  simp only [if_neg h2,qzq.f,hw,if_pos h3,Option.bind_some,if_pos (show (-1 : Int) < 0 by decide)];exact Ev.now _
 ·refine ⟨r - (tag.length : Int),Ev.bind er ?_,fun _ => ⟨(hr2 h2).1,by omega⟩⟩
  simp only [if_neg h2,qzq.f,hw,if_neg h3,Option.bind_some];exact Ev.now _
theorem toCap_ev (id : ByteArray) (l : List S25) (tag : List Int) (hl : l.length ≤ 1048576) (ht : tag.length ≤ 1048576) : Ev (fun k => qzx.f k id l tag) (id,l.map toT,tag) := by
 simp only [qzx.f]
 refine Ev.bind (toCavTermS_ev l hl) ?_
 refine Ev.bind (toByteS_ev tag (by omega)) ?_
 exact Ev.now _
theorem eqCap_refl (id : ByteArray) (l : List S30) (tag : List Int) (hl : l.length ≤ 1048576) (ht : tag.length ≤ 1048576) : Ev (fun k => qqk.f k id l tag id l tag) true := by
 simp only [qqk.f,if_true]
 refine Ev.bind (eqCavTermS_refl l hl) ?_
 simp only [if_true]
 refine Ev.bind (eqByteS_refl tag (by omega)) ?_
 simp only [if_true]
 exact Ev.now _
theorem FnExactCapText : qqq.Pure := by
 intro id l tag hi hl ht
 obtain ⟨z,hz,hz2⟩ := szCap_ev id l tag hi hl ht
 have h : Ev (fun f => qqq.f f id l tag) true := by
  simp only [qqq.f]
  refine Ev.bind hz ?_
  by_cases h0 : z < 0
  ·simp only [if_pos h0];exact Ev.now _
  obtain ⟨n1,n2⟩ := hz2 h0
  simp only [if_neg h0]
  have hT : ∀ x ∈ l.map toT,okT x := by
   intro x hx
   obtain ⟨e,he,rfl⟩ := List.mem_map.1 hx
   have := hl.2 e he
   exact ⟨this.1,this.2.2.1,this.2.2.2.2.1,this.2.2.2.2.2.1,this.2.2.2.2.2.2⟩
  have htb : isBytes tag := ht.2
  refine Ev.bind (toCap_ev id l tag n1 n2) ?_
  refine Ev.bind (specCapText_ev id (l.map toT) tag hi hT htb (by rw [List.length_map];exact n1)) ?_
  refine Ev.bind (toCap_ev id l tag n1 n2) ?_
  refine Ev.bind (implCapText_ev id (l.map toT) tag hi hT htb) ?_
  simp only [if_true]
  refine Ev.bind (toCap_ev id l tag n1 n2) ?_
  refine Ev.bind (eqCap_refl id (l.map toT) tag (by rw [List.length_map];exact n1) n2) ?_
  simp only [if_true]
  exact Ev.now _
 exact h.elim fun K hK => ⟨K,hK K (Nat.le_refl _)⟩
end Go.Proofs.YtnbbbjfjkhglhaaGreatDoor.Pure
namespace Go.Proofs.YtnbbbjfjkhglhaaGreatDoor.fnExactCapText
open Go.ChangeShapes Go.WideShapes Go.ChangeAt Go.RowKit Go.Proofs.YtnbbbjfjkhglhaaGreatDoor.Read Go.Proofs.YtnbbbjfjkhglhaaGreatDoorW.PrintWords Go.Proofs.YtnbbbjfjkhglhaaGreatDoor.Pr
open Go.ChangeMaps (open_string shut_string)
set_option linter.unusedVariables false
theorem own : ownKnob Tryz.prog.godebug = none := by kernel_rfl
theorem laidOut : laidOutB Tryz.prog = true := by kernel_rfl
def tabCells (d : DataW Unit) : Array Value := match d with | .agg l => (l.map fun x => match x with | .lit (.int k z) => Value.int k z | _ => undef).toArray | _ => #[]
noncomputable def laidWorld (os : Os) : World := { World.holding Tryz.prog os ⟨#[],#[],[]⟩ with heap := (fun h => (h.modify 0 fun | .cells _ t frozen => .cells #[.slice (some ⟨h.size,0,none⟩) 4 4] t frozen | o => o).push (.cells #[.string ⟨#[61,61]⟩,.string ⟨#[60]⟩,.string ⟨#[60,61]⟩,.string ⟨#[105,110]⟩] 9 (0,0))) <| (fun h => h.modify 2 fun | .cells _ t frozen => .cells (tabCells Rows.laid_math_bits_deBruijn32tab) t frozen | o => o) <| (fun h => h.modify 3 fun | .cells _ t frozen => .cells (tabCells Rows.laid_math_bits_deBruijn64tab) t frozen | o => o) <| (fun h => h.modify 1 fun | .cells _ t frozen => .cells (tabCells Rows.laid_internal_strconv_uint64pow10) t frozen | o => o) <| (World.holding Tryz.prog os ⟨#[],#[],[]⟩).heap }
set_option maxRecDepth 100000 in
theorem laidWorld_met (os : Os) (args : Array Value) : laidMet Tryz.prog Rows.fnExactCapTextRow.laid ((laidWorld os).forCall (fun _ _ => 0) ⟨#[],args,[]⟩).memory :=
 laidMet_of_run' 8 (by kernel_rfl) (by kernel_rfl)
set_option maxRecDepth 100000 in
theorem tab_of_laid {W : World} (h : laidMet Tryz.prog Rows.fnExactCapTextRow.laid W) : TabW W := by
 have h2 : laidMet Tryz.prog (("internal/strconv.uint64pow10", Lib.tabData .u64 Lib.pow10Tab) :: ("loop.example/g00036/impl.yopWords", Rows.laid_loop_example_g00036_impl_yopWords) :: []) W := laidMet.tail (laidMet.tail ((show laidMet Tryz.prog (("math/bits.deBruijn32tab", Rows.laid_math_bits_deBruijn32tab) :: ("math/bits.deBruijn64tab", Rows.laid_math_bits_deBruijn64tab) :: ("internal/strconv.uint64pow10", Lib.tabData .u64 Lib.pow10Tab) :: ("loop.example/g00036/impl.yopWords", Rows.laid_loop_example_g00036_impl_yopWords) :: []) W from h)))
 refine ⟨Lib.tabIs_of_head (g := 1) (t := 129) (e := 81) (n := 20) (by kernel_rfl) (by kernel_rfl) Tryz.underlying129 Tryz.underlying81 (by kernel_rfl) (by kernel_rfl) h2,?_⟩
 obtain ⟨ps, hv, _, _⟩ := (laidMet.tail (h2) : laidMet Tryz.prog (("loop.example/g00036/impl.yopWords", Rows.laid_loop_example_g00036_impl_yopWords) :: []) W)
 obtain ⟨g,t,cs,fuel,p,q,hg,ht,hvar,htrod,_,_⟩ := hv
 obtain rfl : g = 0 := Option.some.inj (hg.symm.trans (by kernel_rfl))
 obtain rfl : t = 50 := Option.some.inj (ht.symm.trans (by kernel_rfl))
 obtain ⟨a,cap,hcs,hle,hel⟩ := open_row Tryz.underlying50 (by kernel_rfl) (show DataW.trod (fun _ => ()) Tryz.prog W 0 (fun _ => true) false fuel 50 cs.toList = some (.slice [.lit (.string [61,61]),.lit (.string [60]),.lit (.string [60,61]),.lit (.string [105,110])] [],p) from htrod)
 have hcs2 : cs = #[.slice (some a) 4 cap] := by cases cs;simp_all
 subst hcs2
 have hS : ∀ (i : Nat) (l : List UInt8),([.lit (.string [61,61]),.lit (.string [60]),.lit (.string [60,61]),.lit (.string [105,110])] : List (DataW Unit))[i]? = some (.lit (.string l)) → W.cell? (a.add i) = some (.string ⟨l.toArray⟩) := fun i l hi => by
  obtain ⟨v,m,q2,hc,hd⟩ := hel i _ hi
  obtain ⟨s,es,ex,_⟩ := DataW.trod_string Tryz.underlying9 hd
  obtain rfl : v = .string s := by simpa using es
  have e2 : l = s.data.toList := (show l = s.data.toList ∧ q2 = [] by simpa using ex).1
  rw [hc,e2]
 refine ⟨a,cap,by simpa using World.var?_cell hg hvar 0,fun i s hi => ?_⟩
 match i,hi with
 | 0,hi => obtain rfl := Option.some.inj hi;exact hS 0 _ rfl
 | 1,hi => obtain rfl := Option.some.inj hi;exact hS 1 _ rfl
 | 2,hi => obtain rfl := Option.some.inj hi;exact hS 2 _ rfl
 | 3,hi => obtain rfl := Option.some.inj hi;exact hS 3 _ rfl
 | i + 4,hi => cases hi
set_option maxRecDepth 100000 in
theorem lifted (os : Os) (started : os.Started) (H : Type) (enc : TypeId × Value → H) :
  ReturnsInHanded {} Tryz.checked os 4 .any (fun w args => (Rows.fnExactCapTextSpec.pre enc Tryz.prog Tryz.f4 Rows.fnExactCapTextRow.domain false w args ∧ laidMet Tryz.prog Rows.fnExactCapTextRow.laid w) ∧ sizedMet enc Tryz.prog Tryz.f4 (OpenSpec.ofChange Rows.fnExactCapTextSpec) false w args) (Rows.fnExactCapTextSpec.post enc Tryz.prog Tryz.f4 false true false false) := by
 refine returnsInHanded_of_change_and (C := Tryz.checked) (X := fun w _ => laidMet Tryz.prog Rows.fnExactCapTextRow.laid w) (fun _ _ _ hh h => h.of_heap hh) own started (by kernel_rfl) Tryz.func4
  (ChangeSpec.witness_shaped (enc := enc) (C := Tryz.checked) (os := os) (X := fun w _ => laidMet Tryz.prog Rows.fnExactCapTextRow.laid w) false (laidWorld os) #[.agg #[.string ByteArray.empty,.slice none 0 0,.slice none 0 0]] 8 rfl (World.shaped_of_RefB (by kernel_rfl) (by kernel_rfl)) (by kernel_rfl) (by kernel_rfl) (by kernel_rfl) (laidWorld_met os _)) ?_
 intro W base args ds gs before hval0 hW hcnd _ hL _
 have htab := tab_of_laid hL
 clear hL
 have hval : ∀ (j : Nat) t v,Tryz.f4.params[j]? = some t → args[j]? = some v → Value.okWide Tryz.prog W .any base t v := hval0
 have hW' := hW
 obtain ⟨p,q,hA0,hV,rfl,hfz,hnd⟩ := hW
 have hA : DataW.TrodAll enc Tryz.prog W 0 (fun _ => true) true Tryz.f4.params.toList args.toList ds p := hA0
 rw [Tryz.params4] at hA hval
 obtain ⟨v0,vs0,d0,ds0,p0,q0,hargs,rfl,rfl,h0,r0⟩ := trodAll_cons hA
 obtain ⟨rfl,rfl,rfl⟩ := trodAll_nil r0
 obtain rfl : args = #[v0] := by cases args;simp_all
 obtain ⟨_,_,_,_,g1_,_,egs,_⟩ := trodVars_one hV
 subst egs
 have lt0 : ∀ x ∈ p0,x.block < W.heap.size := by obtain ⟨m,hm⟩ := h0;exact DataW.trod_lt m _ _ _ hm
 have bk0 := fun {W' : World} (bel : Below W.heap.size W W') => Below.trod laidOut (by kernel_rfl) (of_decide_eq_true (by kernel_rfl)) h0 bel lt0
 obtain ⟨⟨a0_0,⟨l0_1,l0_2⟩⟩,cs0,hv0,hK0,⟨o0_0,⟨o0_1,o0_2⟩⟩⟩ := arg_struct Tryz.underlying36 (tells_struct Tryz.underlying36 (by kernel_rfl) (fs_cons rfl (tellsS Tryz.underlying9 (by kernel_rfl)) (fs_cons rfl (tellsL Tryz.underlying33 (by kernel_rfl) tells25) (fs_one rfl (tellsL Tryz.underlying34 (by kernel_rfl) (tellsB Tryz.underlying5 (by kernel_rfl))))))) (hval 0 36 v0 rfl rfl) h0
 obtain ⟨_,_,rfl,rfl,⟨_,_,rfl,⟨A0_1,c0_1,rfl,hl0_1,hC0_1⟩,⟨A0_2,c0_2,rfl,hl0_2,hC0_2⟩⟩⟩ := hK0
 simp only [List.cons_append,List.nil_append] at hv0
 subst hv0
 obtain ⟨k,hk⟩ := Pure.FnExactCapText a0_0 l0_1 l0_2 o0_0 o0_1 o0_2
 refine (qqq.calls k a0_0 _ _ l0_1 _ _ l0_2 true W htab hC0_1 hl0_1 hC0_2 hl0_2 hk).mono fun e W' hpost => ?_
 obtain ⟨he,hb⟩ := hpost
 have bel : Below W.heap.size W W' := hb
 subst he
 exact ⟨_,rfl,_,_,_,[],_,_,hW',trodAll_mk1 (shut_bool Tryz.underlying4 _),(trodAll_cons_mk (bk0 bel) trodAll_mk0),Below.trodVars laidOut bel (by kernel_rfl) hV,bel.frame _,fun h => by cases h⟩
theorem over : Rows.fnExactCapTextRow.holds Tryz.pinned (OpenSpec.ofChange Rows.fnExactCapTextSpec) :=
 OpenClaim.holds_of_wide 4 Tryz.f4 rfl rfl rfl rfl rfl rfl rfl ⟨rfl,rfl,rfl,rfl,rfl⟩ rfl rfl rfl rfl rfl (by kernel_rfl) Tryz.func4 (by kernel_rfl)
  (of_decide_eq_true (by kernel_rfl)) (by unfold Func.isWrapper;first | (rw [if_pos (by decide +kernel)];kernel_rfl) | (rw [if_neg (by decide +kernel)];exact ⟨rfl,rfl⟩))
  (fun os started H enc _ => lifted os started H enc)
theorem row_holds : Rows.FnExactCapTextSaid := over
set_option maxRecDepth 100000 in
theorem proved : Rows.FnExactCapTextCardSaid :=
 Claim7.holds_tied_plain_at .later [] [.data, .data, .data, .widerDeep] true (true, "e76814c29f84dc0503eca739d862b5251f16267a6e53cac6adbafa9274c78e8d") true over (fun _ h => by cases h) (by kernel_rfl) (fun _ h => by cases h) fnExactCapText_row_tie rfl ⟨rfl, rfl⟩ (by kernel_rfl) rfl
  (fun f fn hf hfn => by
   obtain rfl : f = 4 := Option.some.inj ((show Tryz.prog.funcNamed "loop.example/g00036/laws.FnExactCapText" = some 4 by kernel_rfl).symm.trans hf) |>.symm
   obtain rfl : fn = Tryz.f4 := (Option.some.inj (Tryz.func4.symm.trans hfn)).symm
   exact ⟨by kernel_rfl,fun j t ht => by
    rw [Tryz.params4] at ht
    have hm : t ∈ ([36] : List TypeId) := by
     have h2 : ([36] : List TypeId)[j]? = some t := by simpa using ht
     exact List.mem_of_getElem? h2
    simp only [List.mem_cons,List.not_mem_nil,or_false] at hm
    rcases hm with rfl
    ·exact (show Tryz.prog.wantsStandIn 36 = false by kernel_rfl)⟩)
  (by kernel_rfl)
#print axioms proved
end Go.Proofs.YtnbbbjfjkhglhaaGreatDoor.fnExactCapText
namespace Go.Proofs.YtnbbbjfjkhglhaaGreatDoor
theorem fnExactCapText_holds : Rows.FnExactCapTextCardSaid := fnExactCapText.proved
end Go.Proofs.YtnbbbjfjkhglhaaGreatDoor
