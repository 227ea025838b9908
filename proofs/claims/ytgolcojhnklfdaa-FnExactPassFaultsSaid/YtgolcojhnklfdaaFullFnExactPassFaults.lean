/- The law FnExactPassFaults: whatever the input, the call returns true and the arguments read as before. No conditions. -/
import Derived.Test.YtgolcojhnklfdaaFullFnExactPassFaultsD
import Derived.Test.YtgolcojhnklfdaaRows
import Derived.WalkKit
import Derived.ProofKit
import Derived.OpenShut
import Derived.ShutString
import Derived.ChangeOld
import Derived.Below
import Derived.HandedShaped
import Derived.Shelf.Vars
namespace Go.Proofs.Ytgolcojhnklfdaa.Pr
open Go.RowKit Go.Proofs.YtgolcojhnklfdaaW.PrintWords Go.Proofs.YtgolcojhnklfdaaW.PrintLast Go.Proofs.YtgolcojhnklfdaaW.PrintMore
attribute [local go_sem] max2_int min2_int max_two min_two max_three min_three max_four min_four
set_option linter.unusedVariables false
set_option linter.unusedSimpArgs false
def xx.f (k : Nat) (a0_0 : Int) (a0_1 : Int) (l0_2 : List ByteArray) (a0_3 : Int) (a1 : ByteArray) (a2 : ByteArray) (l3 : List (S102)) : Option (Bool) := if (a1.size : Int) > 1048576 then (some true) else (if (a2.size : Int) > 1048576 then (some true) else ((qzx.f k a0_0 a0_1 l0_2 a0_3 1048576).bind fun t102 => (if t102 < 0 then (some true) else ((qjz.f k l3 t102).bind fun t103 => (if t103 < 0 then (some true) else ((qjv.f k a0_0 a0_1 l0_2 a0_3).bind fun bt104 => ((qjx.f k l3).bind fun t110 => ((qkj.f k bt104.1 bt104.2.1 bt104.2.2.1 bt104.2.2.2 a1 a2 t110).bind fun t113 => ((qjv.f k a0_0 a0_1 l0_2 a0_3).bind fun bt116 => ((qjx.f k l3).bind fun t123 => ((wx.f k bt116.1 bt116.2.1 bt116.2.2.1 bt116.2.2.2 a1 a2 t123).bind fun t126 => ((qqz.f k t126 t113).bind fun t129 => (if t129 = true then ((qjv.f k a0_0 a0_1 l0_2 a0_3).bind fun bt130 => ((qqj.f k bt116.1 bt116.2.1 bt116.2.2.1 bt116.2.2.2 bt130.1 bt130.2.1 bt130.2.2.1 bt130.2.2.2).bind fun t136 => (if t136 = true then ((qjx.f k l3).bind fun t137 => ((qqv.f k t123 t137).bind fun t140 => (if t140 = true then ((qzz.f k bt116.1 bt116.2.1 bt116.2.2.1 bt116.2.2.2 1).bind fun bt141 => ((qzj.f t123 bt141.1).bind fun t143 => (if t143 < 0 then (none) else ((qqz.f k t126 t113).bind fun t144 => (if t144 = true then ((qzq.f k t126 1).bind fun bt145 => ((qqx.f k bt145.2 1).bind fun t147 => (if t147 < 0 then (none) else (if t147 = bt145.1 then ((qjv.f k a0_0 a0_1 l0_2 a0_3).bind fun bt148 => ((qjx.f k l3).bind fun t154 => ((wx.f k bt148.1 bt148.2.1 bt148.2.2.1 bt148.2.2.2 a1 a2 t154).bind fun t157 => ((qqz.f k t157 t113).bind fun t160 => (if t160 = true then ((qqx.f k bt145.2 1).bind fun t161 => (if t161 < 0 then (none) else (if t161 = bt145.1 then (some true) else (none)))) else (none)))))) else (none))))) else (none)))))) else (none)))) else (none)))) else (none))))))))))))))
set_option maxHeartbeats 8000000 in
set_option maxRecDepth 100000 in
theorem xx.calls (k : Nat) (a0_0 : Int) (a0_1 : Int) (A0_2 : Option Addr) (c0_2 : Nat) (l0_2 : List ByteArray) (a0_3 : Int) (a1 : ByteArray) (a2 : ByteArray) (A3 : Option Addr) (c3 : Nat) (l3 : List (S102)) (r : Bool) (w : World) (htab : TabW w) (hr0_2 : Kd.C Kd.string w A0_2 l0_2.length l0_2) (hc0_2 : l0_2.length ≤ c0_2) (hr3 : Kd.C k102 w A3 l3.length l3) (hc3 : l3.length ≤ c3) (h : xx.f k a0_0 a0_1 l0_2 a0_3 a1 a2 l3 = some r) :
  Calls Try.prog 5 #[.agg #[.int .i64 a0_0,.int .i64 a0_1,.slice A0_2 l0_2.length c0_2,.int .i64 a0_3],.string a1,.string a2,.slice A3 l3.length c3] w fun e w' => e = .returned (.bool r) ∧ Below w.heap.size w w' := by
 have HTAB := qq.mk htab
 clear htab
 have hu47 := Try.underlying47
 have hu53 := Try.underlying53
 have HR0_2 := qq.mk hr0_2
 have HC0_2 := qq.mk hc0_2
 clear hr0_2 hc0_2
 have HR3 := qq.mk hr3
 have HC3 := qq.mk hc3
 clear hr3 hc3
 have HB := qq.mk (Below.refl w.heap.size w)
 have H : (if (a1.size : Int) > 1048576 then (some true) else (if (a2.size : Int) > 1048576 then (some true) else ((qzx.f k a0_0 a0_1 l0_2 a0_3 1048576).bind fun t102 => (if t102 < 0 then (some true) else ((qjz.f k l3 t102).bind fun t103 => (if t103 < 0 then (some true) else ((qjv.f k a0_0 a0_1 l0_2 a0_3).bind fun bt104 => ((qjx.f k l3).bind fun t110 => ((qkj.f k bt104.1 bt104.2.1 bt104.2.2.1 bt104.2.2.2 a1 a2 t110).bind fun t113 => ((qjv.f k a0_0 a0_1 l0_2 a0_3).bind fun bt116 => ((qjx.f k l3).bind fun t123 => ((wx.f k bt116.1 bt116.2.1 bt116.2.2.1 bt116.2.2.2 a1 a2 t123).bind fun t126 => ((qqz.f k t126 t113).bind fun t129 => (if t129 = true then ((qjv.f k a0_0 a0_1 l0_2 a0_3).bind fun bt130 => ((qqj.f k bt116.1 bt116.2.1 bt116.2.2.1 bt116.2.2.2 bt130.1 bt130.2.1 bt130.2.2.1 bt130.2.2.2).bind fun t136 => (if t136 = true then ((qjx.f k l3).bind fun t137 => ((qqv.f k t123 t137).bind fun t140 => (if t140 = true then ((qzz.f k bt116.1 bt116.2.1 bt116.2.2.1 bt116.2.2.2 1).bind fun bt141 => ((qzj.f t123 bt141.1).bind fun t143 => (if t143 < 0 then (none) else ((qqz.f k t126 t113).bind fun t144 => (if t144 = true then ((qzq.f k t126 1).bind fun bt145 => ((qqx.f k bt145.2 1).bind fun t147 => (if t147 < 0 then (none) else (if t147 = bt145.1 then ((qjv.f k a0_0 a0_1 l0_2 a0_3).bind fun bt148 => ((qjx.f k l3).bind fun t154 => ((wx.f k bt148.1 bt148.2.1 bt148.2.2.1 bt148.2.2.2 a1 a2 t154).bind fun t157 => ((qqz.f k t157 t113).bind fun t160 => (if t160 = true then ((qqx.f k bt145.2 1).bind fun t161 => (if t161 < 0 then (none) else (if t161 = bt145.1 then (some true) else (none)))) else (none)))))) else (none))))) else (none)))))) else (none)))) else (none)))) else (none))))))))))))))) = some r := h
 clear h
 by_cases c5 : (a1.size : Int) > 1048576
 ·rw [if_pos c5] at H
  have c5b0 : decide (1048576 < (a1.size : Int)) = true := decide_eq_true c5
  have c5b1 : decide (1048576 < a1.size) = true := decide_eq_true (by omega)
  clear c5
  obtain rfl := Option.some.inj H
  go_enter Try.func5,Try.ntmps5
  go_wp2_with (first | ((with_reducible refine gate_dst (N := 4) rfl ?_);refine box_event ?hg (N := 4) ?hd (cs := #[.int .i64 a0_0,.int .i64 a0_1,.slice A0_2 l0_2.length c0_2,.int .i64 a0_3]) (t := 47) ?hr ?_;(case hd => rfl);(case hg => rfl);(case hr => first | (go_simp;done) | (go_simp;rfl));intro gb101 hg w6 hbox hb;have n0_ := qq.mk (zv (by repeat (first | (with_reducible first | exact HB.out | apply qj | apply qz | apply qk) | exact HB.out)) hb);have n1_ := qq.mk (hbox);have n2_ := qq.mk ((by rw [hg];exact (zw (by repeat (first | (with_reducible first | exact HB.out | apply qj | apply qz | apply qk) | exact HB.out))) : w.heap.size ≤ gb101));have n3_ := qq.mk ((by rw [hg];exact (zw (by repeat (first | (with_reducible first | exact HB.out | apply qj | apply qz | apply qk) | exact HB.out))) : w.heap.size ≤ gb101));clear HB;have HB := n0_;have BK101 := n1_;have GW101 := n2_;have GE101 := n3_;clear n0_ n1_ n2_ n3_;clear hb hbox hg))
  go_ret
  exact ⟨by first | rfl | (simp [*,jk,jj] <;> rfl),by repeat (first | (with_reducible first | exact HB.out | apply qj | apply qz | apply qk | refine qx ?_ GE101.out) | exact HB.out)⟩
 ·rw [if_neg c5] at H
  have c5b0 : decide (1048576 < (a1.size : Int)) = false := decide_eq_false c5
  have c5b1 : decide (1048576 < a1.size) = false := decide_eq_false (by omega)
  clear c5
  by_cases c7 : (a2.size : Int) > 1048576
  ·rw [if_pos c7] at H
   have c7b0 : decide (1048576 < (a2.size : Int)) = true := decide_eq_true c7
   have c7b1 : decide (1048576 < a2.size) = true := decide_eq_true (by omega)
   clear c7
   obtain rfl := Option.some.inj H
   go_enter Try.func5,Try.ntmps5
   go_wp2_with (first | ((with_reducible refine gate_dst (N := 4) rfl ?_);refine box_event ?hg (N := 4) ?hd (cs := #[.int .i64 a0_0,.int .i64 a0_1,.slice A0_2 l0_2.length c0_2,.int .i64 a0_3]) (t := 47) ?hr ?_;(case hd => rfl);(case hg => rfl);(case hr => first | (go_simp;done) | (go_simp;rfl));intro gb101 hg w8 hbox hb;have n0_ := qq.mk (zv (by repeat (first | (with_reducible first | exact HB.out | apply qj | apply qz | apply qk) | exact HB.out)) hb);have n1_ := qq.mk (hbox);have n2_ := qq.mk ((by rw [hg];exact (zw (by repeat (first | (with_reducible first | exact HB.out | apply qj | apply qz | apply qk) | exact HB.out))) : w.heap.size ≤ gb101));have n3_ := qq.mk ((by rw [hg];exact (zw (by repeat (first | (with_reducible first | exact HB.out | apply qj | apply qz | apply qk) | exact HB.out))) : w.heap.size ≤ gb101));clear HB;have HB := n0_;have BK101 := n1_;have GW101 := n2_;have GE101 := n3_;clear n0_ n1_ n2_ n3_;clear hb hbox hg))
   go_ret
   exact ⟨by first | rfl | (simp [*,jk,jj] <;> rfl),by repeat (first | (with_reducible first | exact HB.out | apply qj | apply qz | apply qk | refine qx ?_ GE101.out) | exact HB.out)⟩
  ·rw [if_neg c7] at H
   have c7b0 : decide (1048576 < (a2.size : Int)) = false := decide_eq_false c7
   have c7b1 : decide (1048576 < a2.size) = false := decide_eq_false (by omega)
   clear c7
   replace H := Option.bind_eq_some_iff.mp H
   obtain ⟨t102,A90,H⟩ := H
   replace H : (if t102 < 0 then (some true) else ((qjz.f k l3 t102).bind fun t103 => (if t103 < 0 then (some true) else ((qjv.f k a0_0 a0_1 l0_2 a0_3).bind fun bt104 => ((qjx.f k l3).bind fun t110 => ((qkj.f k bt104.1 bt104.2.1 bt104.2.2.1 bt104.2.2.2 a1 a2 t110).bind fun t113 => ((qjv.f k a0_0 a0_1 l0_2 a0_3).bind fun bt116 => ((qjx.f k l3).bind fun t123 => ((wx.f k bt116.1 bt116.2.1 bt116.2.2.1 bt116.2.2.2 a1 a2 t123).bind fun t126 => ((qqz.f k t126 t113).bind fun t129 => (if t129 = true then ((qjv.f k a0_0 a0_1 l0_2 a0_3).bind fun bt130 => ((qqj.f k bt116.1 bt116.2.1 bt116.2.2.1 bt116.2.2.2 bt130.1 bt130.2.1 bt130.2.2.1 bt130.2.2.2).bind fun t136 => (if t136 = true then ((qjx.f k l3).bind fun t137 => ((qqv.f k t123 t137).bind fun t140 => (if t140 = true then ((qzz.f k bt116.1 bt116.2.1 bt116.2.2.1 bt116.2.2.2 1).bind fun bt141 => ((qzj.f t123 bt141.1).bind fun t143 => (if t143 < 0 then (none) else ((qqz.f k t126 t113).bind fun t144 => (if t144 = true then ((qzq.f k t126 1).bind fun bt145 => ((qqx.f k bt145.2 1).bind fun t147 => (if t147 < 0 then (none) else (if t147 = bt145.1 then ((qjv.f k a0_0 a0_1 l0_2 a0_3).bind fun bt148 => ((qjx.f k l3).bind fun t154 => ((wx.f k bt148.1 bt148.2.1 bt148.2.2.1 bt148.2.2.2 a1 a2 t154).bind fun t157 => ((qqz.f k t157 t113).bind fun t160 => (if t160 = true then ((qqx.f k bt145.2 1).bind fun t161 => (if t161 < 0 then (none) else (if t161 = bt145.1 then (some true) else (none)))) else (none)))))) else (none))))) else (none)))))) else (none)))) else (none)))) else (none)))))))))))) = some r := H
   have A9 := qq.mk A90
   clear A90
   by_cases c10 : t102 < 0
   ·rw [if_pos c10] at H
    have c10b0 : decide (t102 < 0) = true := decide_eq_true c10
    clear c10
    obtain rfl := Option.some.inj H
    go_enter Try.func5,Try.ntmps5
    go_wp2_with (first | ((with_reducible refine gate_dst (N := 4) rfl ?_);refine box_event ?hg (N := 4) ?hd (cs := #[.int .i64 a0_0,.int .i64 a0_1,.slice A0_2 l0_2.length c0_2,.int .i64 a0_3]) (t := 47) ?hr ?_;(case hd => rfl);(case hg => rfl);(case hr => first | (go_simp;done) | (go_simp;rfl));intro gb101 hg w11 hbox hb;have n0_ := qq.mk (zv (by repeat (first | (with_reducible first | exact HB.out | apply qj | apply qz | apply qk) | exact HB.out)) hb);have n1_ := qq.mk (hbox);have n2_ := qq.mk ((by rw [hg];exact (zw (by repeat (first | (with_reducible first | exact HB.out | apply qj | apply qz | apply qk) | exact HB.out))) : w.heap.size ≤ gb101));have n3_ := qq.mk ((by rw [hg];exact (zw (by repeat (first | (with_reducible first | exact HB.out | apply qj | apply qz | apply qk) | exact HB.out))) : w.heap.size ≤ gb101));clear HB;have HB := n0_;have BK101 := n1_;have GW101 := n2_;have GE101 := n3_;clear n0_ n1_ n2_ n3_;clear hb hbox hg;have hcz12_0 : w11.cell? ⟨gb101,0,none⟩ = some (.int .i64 a0_0) := (qw BK101.out 0).trans rfl;have hcz12_1 : w11.cell? ⟨gb101,1,none⟩ = some (.int .i64 a0_1) := (qw BK101.out 1).trans rfl;have hcz12_2 : w11.cell? ⟨gb101,2,none⟩ = some (.slice A0_2 l0_2.length c0_2) := (qw BK101.out 2).trans rfl;have hcz12_3 : w11.cell? ⟨gb101,3,none⟩ = some (.int .i64 a0_3) := (qw BK101.out 3).trans rfl;have hfz12_0 := qv BK101.out 0;have hfz12_1 := qv BK101.out 1;have hfz12_2 := qv BK101.out 2;have hfz12_3 := qv BK101.out 3) | ((with_reducible refine jv (f := 21) rfl ?_);refine goesL_ (some 26) rfl rfl Try.func21 (by kernel_rfl) rfl #[.agg #[.int .i64 a0_0,.int .i64 a0_1,.slice A0_2 l0_2.length c0_2,.int .i64 a0_3],.int .i64 1048576] rfl (by (try simp only [List.map_toArray,List.map_cons,List.map_nil]);first | done | rfl | (simp only [List.length_drop,List.length_take];rfl)) ?_;(with_reducible refine (qzx.calls k a0_0 a0_1 _ _ l0_2 a0_3 1048576 t102 _ ?side1 ?side2 A9.out).mono ?_);(case side1 => repeat (first | exact (Kd.C_below HR0_2.out HB.out) | (with_reducible refine Kd.C_alloc ?_ _) | (with_reducible refine Kd.C_drewN ?_ _) | (with_reducible refine Kd.C_drew ?_)));(case side2 => exact HC0_2.out);rintro e w13 ⟨rfl,hb⟩;refine ⟨_,rfl,?_⟩;have n0_ := qq.mk (vz (g := gb101) (o := .cells #[.int .i64 a0_0,.int .i64 a0_1,.slice A0_2 l0_2.length c0_2,.int .i64 a0_3] 47 (0,0)) (by (with_reducible repeat (first | refine zz ?_ _ | refine zj ?_ | refine zq ?_ _));exact BK101.out) hb);have n1_ := qq.mk (zv (by repeat (first | (with_reducible first | exact HB.out | apply qj | apply qz | apply qk | refine qx ?_ GE101.out) | exact HB.out)) hb);clear BK101;clear HB;have BK101 := n0_;have HB := n1_;clear n0_ n1_;(try clear hb);(try clear hb2);(try clear hk);(try clear hi)))
    go_ret
    exact ⟨by first | rfl | (simp [*,jk,jj] <;> rfl),by repeat (first | (with_reducible first | exact HB.out | apply qj | apply qz | apply qk | refine qx ?_ GE101.out) | exact HB.out)⟩
   ·rw [if_neg c10] at H
    have c10b0 : decide (t102 < 0) = false := decide_eq_false c10
    clear c10
    replace H := Option.bind_eq_some_iff.mp H
    obtain ⟨t103,A140,H⟩ := H
    replace H : (if t103 < 0 then (some true) else ((qjv.f k a0_0 a0_1 l0_2 a0_3).bind fun bt104 => ((qjx.f k l3).bind fun t110 => ((qkj.f k bt104.1 bt104.2.1 bt104.2.2.1 bt104.2.2.2 a1 a2 t110).bind fun t113 => ((qjv.f k a0_0 a0_1 l0_2 a0_3).bind fun bt116 => ((qjx.f k l3).bind fun t123 => ((wx.f k bt116.1 bt116.2.1 bt116.2.2.1 bt116.2.2.2 a1 a2 t123).bind fun t126 => ((qqz.f k t126 t113).bind fun t129 => (if t129 = true then ((qjv.f k a0_0 a0_1 l0_2 a0_3).bind fun bt130 => ((qqj.f k bt116.1 bt116.2.1 bt116.2.2.1 bt116.2.2.2 bt130.1 bt130.2.1 bt130.2.2.1 bt130.2.2.2).bind fun t136 => (if t136 = true then ((qjx.f k l3).bind fun t137 => ((qqv.f k t123 t137).bind fun t140 => (if t140 = true then ((qzz.f k bt116.1 bt116.2.1 bt116.2.2.1 bt116.2.2.2 1).bind fun bt141 => ((qzj.f t123 bt141.1).bind fun t143 => (if t143 < 0 then (none) else ((qqz.f k t126 t113).bind fun t144 => (if t144 = true then ((qzq.f k t126 1).bind fun bt145 => ((qqx.f k bt145.2 1).bind fun t147 => (if t147 < 0 then (none) else (if t147 = bt145.1 then ((qjv.f k a0_0 a0_1 l0_2 a0_3).bind fun bt148 => ((qjx.f k l3).bind fun t154 => ((wx.f k bt148.1 bt148.2.1 bt148.2.2.1 bt148.2.2.2 a1 a2 t154).bind fun t157 => ((qqz.f k t157 t113).bind fun t160 => (if t160 = true then ((qqx.f k bt145.2 1).bind fun t161 => (if t161 < 0 then (none) else (if t161 = bt145.1 then (some true) else (none)))) else (none)))))) else (none))))) else (none)))))) else (none)))) else (none)))) else (none)))))))))) = some r := H
    have A14 := qq.mk A140
    clear A140
    by_cases c15 : t103 < 0
    ·rw [if_pos c15] at H
     have c15b0 : decide (t103 < 0) = true := decide_eq_true c15
     clear c15
     obtain rfl := Option.some.inj H
     go_enter Try.func5,Try.ntmps5
     go_wp2_with (first | ((with_reducible refine gate_dst (N := 4) rfl ?_);refine box_event ?hg (N := 4) ?hd (cs := #[.int .i64 a0_0,.int .i64 a0_1,.slice A0_2 l0_2.length c0_2,.int .i64 a0_3]) (t := 47) ?hr ?_;(case hd => rfl);(case hg => rfl);(case hr => first | (go_simp;done) | (go_simp;rfl));intro gb101 hg w16 hbox hb;have n0_ := qq.mk (zv (by repeat (first | (with_reducible first | exact HB.out | apply qj | apply qz | apply qk) | exact HB.out)) hb);have n1_ := qq.mk (hbox);have n2_ := qq.mk ((by rw [hg];exact (zw (by repeat (first | (with_reducible first | exact HB.out | apply qj | apply qz | apply qk) | exact HB.out))) : w.heap.size ≤ gb101));have n3_ := qq.mk ((by rw [hg];exact (zw (by repeat (first | (with_reducible first | exact HB.out | apply qj | apply qz | apply qk) | exact HB.out))) : w.heap.size ≤ gb101));clear HB;have HB := n0_;have BK101 := n1_;have GW101 := n2_;have GE101 := n3_;clear n0_ n1_ n2_ n3_;clear hb hbox hg;have hcz17_0 : w16.cell? ⟨gb101,0,none⟩ = some (.int .i64 a0_0) := (qw BK101.out 0).trans rfl;have hcz17_1 : w16.cell? ⟨gb101,1,none⟩ = some (.int .i64 a0_1) := (qw BK101.out 1).trans rfl;have hcz17_2 : w16.cell? ⟨gb101,2,none⟩ = some (.slice A0_2 l0_2.length c0_2) := (qw BK101.out 2).trans rfl;have hcz17_3 : w16.cell? ⟨gb101,3,none⟩ = some (.int .i64 a0_3) := (qw BK101.out 3).trans rfl;have hfz17_0 := qv BK101.out 0;have hfz17_1 := qv BK101.out 1;have hfz17_2 := qv BK101.out 2;have hfz17_3 := qv BK101.out 3) | ((with_reducible refine jv (f := 21) rfl ?_);refine goesL_ (some 26) rfl rfl Try.func21 (by kernel_rfl) rfl #[.agg #[.int .i64 a0_0,.int .i64 a0_1,.slice A0_2 l0_2.length c0_2,.int .i64 a0_3],.int .i64 1048576] rfl (by (try simp only [List.map_toArray,List.map_cons,List.map_nil]);first | done | rfl | (simp only [List.length_drop,List.length_take];rfl)) ?_;(with_reducible refine (qzx.calls k a0_0 a0_1 _ _ l0_2 a0_3 1048576 t102 _ ?side1 ?side2 A9.out).mono ?_);(case side1 => repeat (first | exact (Kd.C_below HR0_2.out HB.out) | (with_reducible refine Kd.C_alloc ?_ _) | (with_reducible refine Kd.C_drewN ?_ _) | (with_reducible refine Kd.C_drew ?_)));(case side2 => exact HC0_2.out);rintro e w18 ⟨rfl,hb⟩;refine ⟨_,rfl,?_⟩;have n0_ := qq.mk (vz (g := gb101) (o := .cells #[.int .i64 a0_0,.int .i64 a0_1,.slice A0_2 l0_2.length c0_2,.int .i64 a0_3] 47 (0,0)) (by (with_reducible repeat (first | refine zz ?_ _ | refine zj ?_ | refine zq ?_ _));exact BK101.out) hb);have n1_ := qq.mk (zv (by repeat (first | (with_reducible first | exact HB.out | apply qj | apply qz | apply qk | refine qx ?_ GE101.out) | exact HB.out)) hb);clear BK101;clear HB;have BK101 := n0_;have HB := n1_;clear n0_ n1_;(try clear hb);(try clear hb2);(try clear hk);(try clear hi)) | ((with_reducible refine jv (f := 22) rfl ?_);refine goesL_ (some 31) rfl rfl Try.func22 (by kernel_rfl) rfl #[.slice A3 l3.length c3,.int .i64 t102] rfl (by (try simp only [List.map_toArray,List.map_cons,List.map_nil]);first | done | rfl | (simp only [List.length_drop,List.length_take];rfl)) ?_;(with_reducible refine (qjz.calls k _ _ l3 t102 t103 _ ?side1 ?side2 A14.out).mono ?_);(case side1 => repeat (first | exact (Kd.C_below HR3.out HB.out) | (with_reducible refine Kd.C_alloc ?_ _) | (with_reducible refine Kd.C_drewN ?_ _) | (with_reducible refine Kd.C_drew ?_)));(case side2 => exact HC3.out);rintro e w19 ⟨rfl,hb⟩;refine ⟨_,rfl,?_⟩;have n0_ := qq.mk (vz (g := gb101) (o := .cells #[.int .i64 a0_0,.int .i64 a0_1,.slice A0_2 l0_2.length c0_2,.int .i64 a0_3] 47 (0,0)) (by (with_reducible repeat (first | refine zz ?_ _ | refine zj ?_ | refine zq ?_ _));exact BK101.out) hb);have n1_ := qq.mk (zv (by repeat (first | (with_reducible first | exact HB.out | apply qj | apply qz | apply qk | refine qx ?_ GE101.out) | exact HB.out)) hb);clear BK101;clear HB;have BK101 := n0_;have HB := n1_;clear n0_ n1_;(try clear hb);(try clear hb2);(try clear hk);(try clear hi)))
     go_ret
     exact ⟨by first | rfl | (simp [*,jk,jj] <;> rfl),by repeat (first | (with_reducible first | exact HB.out | apply qj | apply qz | apply qk | refine qx ?_ GE101.out) | exact HB.out)⟩
    ·rw [if_neg c15] at H
     have c15b0 : decide (t103 < 0) = false := decide_eq_false c15
     clear c15
     replace H := Option.bind_eq_some_iff.mp H
     obtain ⟨⟨t104,t105,t106,t109⟩,A200,H⟩ := H
     replace H : ((qjx.f k l3).bind fun t110 => ((qkj.f k t104 t105 t106 t109 a1 a2 t110).bind fun t113 => ((qjv.f k a0_0 a0_1 l0_2 a0_3).bind fun bt116 => ((qjx.f k l3).bind fun t123 => ((wx.f k bt116.1 bt116.2.1 bt116.2.2.1 bt116.2.2.2 a1 a2 t123).bind fun t126 => ((qqz.f k t126 t113).bind fun t129 => (if t129 = true then ((qjv.f k a0_0 a0_1 l0_2 a0_3).bind fun bt130 => ((qqj.f k bt116.1 bt116.2.1 bt116.2.2.1 bt116.2.2.2 bt130.1 bt130.2.1 bt130.2.2.1 bt130.2.2.2).bind fun t136 => (if t136 = true then ((qjx.f k l3).bind fun t137 => ((qqv.f k t123 t137).bind fun t140 => (if t140 = true then ((qzz.f k bt116.1 bt116.2.1 bt116.2.2.1 bt116.2.2.2 1).bind fun bt141 => ((qzj.f t123 bt141.1).bind fun t143 => (if t143 < 0 then (none) else ((qqz.f k t126 t113).bind fun t144 => (if t144 = true then ((qzq.f k t126 1).bind fun bt145 => ((qqx.f k bt145.2 1).bind fun t147 => (if t147 < 0 then (none) else (if t147 = bt145.1 then ((qjv.f k a0_0 a0_1 l0_2 a0_3).bind fun bt148 => ((qjx.f k l3).bind fun t154 => ((wx.f k bt148.1 bt148.2.1 bt148.2.2.1 bt148.2.2.2 a1 a2 t154).bind fun t157 => ((qqz.f k t157 t113).bind fun t160 => (if t160 = true then ((qqx.f k bt145.2 1).bind fun t161 => (if t161 < 0 then (none) else (if t161 = bt145.1 then (some true) else (none)))) else (none)))))) else (none))))) else (none)))))) else (none)))) else (none)))) else (none)))))))) = some r := H
     have A20 := qq.mk A200
     clear A200
     replace H := Option.bind_eq_some_iff.mp H
     obtain ⟨t110,A210,H⟩ := H
     replace H : ((qkj.f k t104 t105 t106 t109 a1 a2 t110).bind fun t113 => ((qjv.f k a0_0 a0_1 l0_2 a0_3).bind fun bt116 => ((qjx.f k l3).bind fun t123 => ((wx.f k bt116.1 bt116.2.1 bt116.2.2.1 bt116.2.2.2 a1 a2 t123).bind fun t126 => ((qqz.f k t126 t113).bind fun t129 => (if t129 = true then ((qjv.f k a0_0 a0_1 l0_2 a0_3).bind fun bt130 => ((qqj.f k bt116.1 bt116.2.1 bt116.2.2.1 bt116.2.2.2 bt130.1 bt130.2.1 bt130.2.2.1 bt130.2.2.2).bind fun t136 => (if t136 = true then ((qjx.f k l3).bind fun t137 => ((qqv.f k t123 t137).bind fun t140 => (if t140 = true then ((qzz.f k bt116.1 bt116.2.1 bt116.2.2.1 bt116.2.2.2 1).bind fun bt141 => ((qzj.f t123 bt141.1).bind fun t143 => (if t143 < 0 then (none) else ((qqz.f k t126 t113).bind fun t144 => (if t144 = true then ((qzq.f k t126 1).bind fun bt145 => ((qqx.f k bt145.2 1).bind fun t147 => (if t147 < 0 then (none) else (if t147 = bt145.1 then ((qjv.f k a0_0 a0_1 l0_2 a0_3).bind fun bt148 => ((qjx.f k l3).bind fun t154 => ((wx.f k bt148.1 bt148.2.1 bt148.2.2.1 bt148.2.2.2 a1 a2 t154).bind fun t157 => ((qqz.f k t157 t113).bind fun t160 => (if t160 = true then ((qqx.f k bt145.2 1).bind fun t161 => (if t161 < 0 then (none) else (if t161 = bt145.1 then (some true) else (none)))) else (none)))))) else (none))))) else (none)))))) else (none)))) else (none)))) else (none))))))) = some r := H
     have A21 := qq.mk A210
     clear A210
     replace H := Option.bind_eq_some_iff.mp H
     obtain ⟨t113,A220,H⟩ := H
     replace H : ((qjv.f k a0_0 a0_1 l0_2 a0_3).bind fun bt116 => ((qjx.f k l3).bind fun t123 => ((wx.f k bt116.1 bt116.2.1 bt116.2.2.1 bt116.2.2.2 a1 a2 t123).bind fun t126 => ((qqz.f k t126 t113).bind fun t129 => (if t129 = true then ((qjv.f k a0_0 a0_1 l0_2 a0_3).bind fun bt130 => ((qqj.f k bt116.1 bt116.2.1 bt116.2.2.1 bt116.2.2.2 bt130.1 bt130.2.1 bt130.2.2.1 bt130.2.2.2).bind fun t136 => (if t136 = true then ((qjx.f k l3).bind fun t137 => ((qqv.f k t123 t137).bind fun t140 => (if t140 = true then ((qzz.f k bt116.1 bt116.2.1 bt116.2.2.1 bt116.2.2.2 1).bind fun bt141 => ((qzj.f t123 bt141.1).bind fun t143 => (if t143 < 0 then (none) else ((qqz.f k t126 t113).bind fun t144 => (if t144 = true then ((qzq.f k t126 1).bind fun bt145 => ((qqx.f k bt145.2 1).bind fun t147 => (if t147 < 0 then (none) else (if t147 = bt145.1 then ((qjv.f k a0_0 a0_1 l0_2 a0_3).bind fun bt148 => ((qjx.f k l3).bind fun t154 => ((wx.f k bt148.1 bt148.2.1 bt148.2.2.1 bt148.2.2.2 a1 a2 t154).bind fun t157 => ((qqz.f k t157 t113).bind fun t160 => (if t160 = true then ((qqx.f k bt145.2 1).bind fun t161 => (if t161 < 0 then (none) else (if t161 = bt145.1 then (some true) else (none)))) else (none)))))) else (none))))) else (none)))))) else (none)))) else (none)))) else (none)))))) = some r := H
     have A22 := qq.mk A220
     clear A220
     replace H := Option.bind_eq_some_iff.mp H
     obtain ⟨⟨t116,t117,t118,t121⟩,A230,H⟩ := H
     replace H : ((qjx.f k l3).bind fun t123 => ((wx.f k t116 t117 t118 t121 a1 a2 t123).bind fun t126 => ((qqz.f k t126 t113).bind fun t129 => (if t129 = true then ((qjv.f k a0_0 a0_1 l0_2 a0_3).bind fun bt130 => ((qqj.f k t116 t117 t118 t121 bt130.1 bt130.2.1 bt130.2.2.1 bt130.2.2.2).bind fun t136 => (if t136 = true then ((qjx.f k l3).bind fun t137 => ((qqv.f k t123 t137).bind fun t140 => (if t140 = true then ((qzz.f k t116 t117 t118 t121 1).bind fun bt141 => ((qzj.f t123 bt141.1).bind fun t143 => (if t143 < 0 then (none) else ((qqz.f k t126 t113).bind fun t144 => (if t144 = true then ((qzq.f k t126 1).bind fun bt145 => ((qqx.f k bt145.2 1).bind fun t147 => (if t147 < 0 then (none) else (if t147 = bt145.1 then ((qjv.f k a0_0 a0_1 l0_2 a0_3).bind fun bt148 => ((qjx.f k l3).bind fun t154 => ((wx.f k bt148.1 bt148.2.1 bt148.2.2.1 bt148.2.2.2 a1 a2 t154).bind fun t157 => ((qqz.f k t157 t113).bind fun t160 => (if t160 = true then ((qqx.f k bt145.2 1).bind fun t161 => (if t161 < 0 then (none) else (if t161 = bt145.1 then (some true) else (none)))) else (none)))))) else (none))))) else (none)))))) else (none)))) else (none)))) else (none))))) = some r := H
     have A23 := qq.mk A230
     clear A230
     replace H := Option.bind_eq_some_iff.mp H
     obtain ⟨t123,A240,H⟩ := H
     replace H : ((wx.f k t116 t117 t118 t121 a1 a2 t123).bind fun t126 => ((qqz.f k t126 t113).bind fun t129 => (if t129 = true then ((qjv.f k a0_0 a0_1 l0_2 a0_3).bind fun bt130 => ((qqj.f k t116 t117 t118 t121 bt130.1 bt130.2.1 bt130.2.2.1 bt130.2.2.2).bind fun t136 => (if t136 = true then ((qjx.f k l3).bind fun t137 => ((qqv.f k t123 t137).bind fun t140 => (if t140 = true then ((qzz.f k t116 t117 t118 t121 1).bind fun bt141 => ((qzj.f t123 bt141.1).bind fun t143 => (if t143 < 0 then (none) else ((qqz.f k t126 t113).bind fun t144 => (if t144 = true then ((qzq.f k t126 1).bind fun bt145 => ((qqx.f k bt145.2 1).bind fun t147 => (if t147 < 0 then (none) else (if t147 = bt145.1 then ((qjv.f k a0_0 a0_1 l0_2 a0_3).bind fun bt148 => ((qjx.f k l3).bind fun t154 => ((wx.f k bt148.1 bt148.2.1 bt148.2.2.1 bt148.2.2.2 a1 a2 t154).bind fun t157 => ((qqz.f k t157 t113).bind fun t160 => (if t160 = true then ((qqx.f k bt145.2 1).bind fun t161 => (if t161 < 0 then (none) else (if t161 = bt145.1 then (some true) else (none)))) else (none)))))) else (none))))) else (none)))))) else (none)))) else (none)))) else (none)))) = some r := H
     have A24 := qq.mk A240
     clear A240
     replace H := Option.bind_eq_some_iff.mp H
     obtain ⟨t126,A250,H⟩ := H
     replace H : ((qqz.f k t126 t113).bind fun t129 => (if t129 = true then ((qjv.f k a0_0 a0_1 l0_2 a0_3).bind fun bt130 => ((qqj.f k t116 t117 t118 t121 bt130.1 bt130.2.1 bt130.2.2.1 bt130.2.2.2).bind fun t136 => (if t136 = true then ((qjx.f k l3).bind fun t137 => ((qqv.f k t123 t137).bind fun t140 => (if t140 = true then ((qzz.f k t116 t117 t118 t121 1).bind fun bt141 => ((qzj.f t123 bt141.1).bind fun t143 => (if t143 < 0 then (none) else ((qqz.f k t126 t113).bind fun t144 => (if t144 = true then ((qzq.f k t126 1).bind fun bt145 => ((qqx.f k bt145.2 1).bind fun t147 => (if t147 < 0 then (none) else (if t147 = bt145.1 then ((qjv.f k a0_0 a0_1 l0_2 a0_3).bind fun bt148 => ((qjx.f k l3).bind fun t154 => ((wx.f k bt148.1 bt148.2.1 bt148.2.2.1 bt148.2.2.2 a1 a2 t154).bind fun t157 => ((qqz.f k t157 t113).bind fun t160 => (if t160 = true then ((qqx.f k bt145.2 1).bind fun t161 => (if t161 < 0 then (none) else (if t161 = bt145.1 then (some true) else (none)))) else (none)))))) else (none))))) else (none)))))) else (none)))) else (none)))) else (none))) = some r := H
     have A25 := qq.mk A250
     clear A250
     replace H := Option.bind_eq_some_iff.mp H
     obtain ⟨t129,A260,H⟩ := H
     replace H : (if t129 = true then ((qjv.f k a0_0 a0_1 l0_2 a0_3).bind fun bt130 => ((qqj.f k t116 t117 t118 t121 bt130.1 bt130.2.1 bt130.2.2.1 bt130.2.2.2).bind fun t136 => (if t136 = true then ((qjx.f k l3).bind fun t137 => ((qqv.f k t123 t137).bind fun t140 => (if t140 = true then ((qzz.f k t116 t117 t118 t121 1).bind fun bt141 => ((qzj.f t123 bt141.1).bind fun t143 => (if t143 < 0 then (none) else ((qqz.f k t126 t113).bind fun t144 => (if t144 = true then ((qzq.f k t126 1).bind fun bt145 => ((qqx.f k bt145.2 1).bind fun t147 => (if t147 < 0 then (none) else (if t147 = bt145.1 then ((qjv.f k a0_0 a0_1 l0_2 a0_3).bind fun bt148 => ((qjx.f k l3).bind fun t154 => ((wx.f k bt148.1 bt148.2.1 bt148.2.2.1 bt148.2.2.2 a1 a2 t154).bind fun t157 => ((qqz.f k t157 t113).bind fun t160 => (if t160 = true then ((qqx.f k bt145.2 1).bind fun t161 => (if t161 < 0 then (none) else (if t161 = bt145.1 then (some true) else (none)))) else (none)))))) else (none))))) else (none)))))) else (none)))) else (none)))) else (none)) = some r := H
     have A26 := qq.mk A260
     clear A260
     by_cases c27 : t129 = true
     ·subst c27
      have H1 : ((qjv.f k a0_0 a0_1 l0_2 a0_3).bind fun bt130 => ((qqj.f k t116 t117 t118 t121 bt130.1 bt130.2.1 bt130.2.2.1 bt130.2.2.2).bind fun t136 => (if t136 = true then ((qjx.f k l3).bind fun t137 => ((qqv.f k t123 t137).bind fun t140 => (if t140 = true then ((qzz.f k t116 t117 t118 t121 1).bind fun bt141 => ((qzj.f t123 bt141.1).bind fun t143 => (if t143 < 0 then (none) else ((qqz.f k t126 t113).bind fun t144 => (if t144 = true then ((qzq.f k t126 1).bind fun bt145 => ((qqx.f k bt145.2 1).bind fun t147 => (if t147 < 0 then (none) else (if t147 = bt145.1 then ((qjv.f k a0_0 a0_1 l0_2 a0_3).bind fun bt148 => ((qjx.f k l3).bind fun t154 => ((wx.f k bt148.1 bt148.2.1 bt148.2.2.1 bt148.2.2.2 a1 a2 t154).bind fun t157 => ((qqz.f k t157 t113).bind fun t160 => (if t160 = true then ((qqx.f k bt145.2 1).bind fun t161 => (if t161 < 0 then (none) else (if t161 = bt145.1 then (some true) else (none)))) else (none)))))) else (none))))) else (none)))))) else (none)))) else (none)))) = some r := by rw [if_pos rfl] at H;exact H
      clear H
      have H := H1
      clear H1
      replace H := Option.bind_eq_some_iff.mp H
      obtain ⟨⟨t130,t131,t132,t135⟩,A280,H⟩ := H
      replace H : ((qqj.f k t116 t117 t118 t121 t130 t131 t132 t135).bind fun t136 => (if t136 = true then ((qjx.f k l3).bind fun t137 => ((qqv.f k t123 t137).bind fun t140 => (if t140 = true then ((qzz.f k t116 t117 t118 t121 1).bind fun bt141 => ((qzj.f t123 bt141.1).bind fun t143 => (if t143 < 0 then (none) else ((qqz.f k t126 t113).bind fun t144 => (if t144 = true then ((qzq.f k t126 1).bind fun bt145 => ((qqx.f k bt145.2 1).bind fun t147 => (if t147 < 0 then (none) else (if t147 = bt145.1 then ((qjv.f k a0_0 a0_1 l0_2 a0_3).bind fun bt148 => ((qjx.f k l3).bind fun t154 => ((wx.f k bt148.1 bt148.2.1 bt148.2.2.1 bt148.2.2.2 a1 a2 t154).bind fun t157 => ((qqz.f k t157 t113).bind fun t160 => (if t160 = true then ((qqx.f k bt145.2 1).bind fun t161 => (if t161 < 0 then (none) else (if t161 = bt145.1 then (some true) else (none)))) else (none)))))) else (none))))) else (none)))))) else (none)))) else (none))) = some r := H
      have A28 := qq.mk A280
      clear A280
      replace H := Option.bind_eq_some_iff.mp H
      obtain ⟨t136,A290,H⟩ := H
      replace H : (if t136 = true then ((qjx.f k l3).bind fun t137 => ((qqv.f k t123 t137).bind fun t140 => (if t140 = true then ((qzz.f k t116 t117 t118 t121 1).bind fun bt141 => ((qzj.f t123 bt141.1).bind fun t143 => (if t143 < 0 then (none) else ((qqz.f k t126 t113).bind fun t144 => (if t144 = true then ((qzq.f k t126 1).bind fun bt145 => ((qqx.f k bt145.2 1).bind fun t147 => (if t147 < 0 then (none) else (if t147 = bt145.1 then ((qjv.f k a0_0 a0_1 l0_2 a0_3).bind fun bt148 => ((qjx.f k l3).bind fun t154 => ((wx.f k bt148.1 bt148.2.1 bt148.2.2.1 bt148.2.2.2 a1 a2 t154).bind fun t157 => ((qqz.f k t157 t113).bind fun t160 => (if t160 = true then ((qqx.f k bt145.2 1).bind fun t161 => (if t161 < 0 then (none) else (if t161 = bt145.1 then (some true) else (none)))) else (none)))))) else (none))))) else (none)))))) else (none)))) else (none)) = some r := H
      have A29 := qq.mk A290
      clear A290
      by_cases c30 : t136 = true
      ·subst c30
       have H1 : ((qjx.f k l3).bind fun t137 => ((qqv.f k t123 t137).bind fun t140 => (if t140 = true then ((qzz.f k t116 t117 t118 t121 1).bind fun bt141 => ((qzj.f t123 bt141.1).bind fun t143 => (if t143 < 0 then (none) else ((qqz.f k t126 t113).bind fun t144 => (if t144 = true then ((qzq.f k t126 1).bind fun bt145 => ((qqx.f k bt145.2 1).bind fun t147 => (if t147 < 0 then (none) else (if t147 = bt145.1 then ((qjv.f k a0_0 a0_1 l0_2 a0_3).bind fun bt148 => ((qjx.f k l3).bind fun t154 => ((wx.f k bt148.1 bt148.2.1 bt148.2.2.1 bt148.2.2.2 a1 a2 t154).bind fun t157 => ((qqz.f k t157 t113).bind fun t160 => (if t160 = true then ((qqx.f k bt145.2 1).bind fun t161 => (if t161 < 0 then (none) else (if t161 = bt145.1 then (some true) else (none)))) else (none)))))) else (none))))) else (none)))))) else (none)))) = some r := by rw [if_pos rfl] at H;exact H
       clear H
       have H := H1
       clear H1
       replace H := Option.bind_eq_some_iff.mp H
       obtain ⟨t137,A310,H⟩ := H
       replace H : ((qqv.f k t123 t137).bind fun t140 => (if t140 = true then ((qzz.f k t116 t117 t118 t121 1).bind fun bt141 => ((qzj.f t123 bt141.1).bind fun t143 => (if t143 < 0 then (none) else ((qqz.f k t126 t113).bind fun t144 => (if t144 = true then ((qzq.f k t126 1).bind fun bt145 => ((qqx.f k bt145.2 1).bind fun t147 => (if t147 < 0 then (none) else (if t147 = bt145.1 then ((qjv.f k a0_0 a0_1 l0_2 a0_3).bind fun bt148 => ((qjx.f k l3).bind fun t154 => ((wx.f k bt148.1 bt148.2.1 bt148.2.2.1 bt148.2.2.2 a1 a2 t154).bind fun t157 => ((qqz.f k t157 t113).bind fun t160 => (if t160 = true then ((qqx.f k bt145.2 1).bind fun t161 => (if t161 < 0 then (none) else (if t161 = bt145.1 then (some true) else (none)))) else (none)))))) else (none))))) else (none)))))) else (none))) = some r := H
       have A31 := qq.mk A310
       clear A310
       replace H := Option.bind_eq_some_iff.mp H
       obtain ⟨t140,A320,H⟩ := H
       replace H : (if t140 = true then ((qzz.f k t116 t117 t118 t121 1).bind fun bt141 => ((qzj.f t123 bt141.1).bind fun t143 => (if t143 < 0 then (none) else ((qqz.f k t126 t113).bind fun t144 => (if t144 = true then ((qzq.f k t126 1).bind fun bt145 => ((qqx.f k bt145.2 1).bind fun t147 => (if t147 < 0 then (none) else (if t147 = bt145.1 then ((qjv.f k a0_0 a0_1 l0_2 a0_3).bind fun bt148 => ((qjx.f k l3).bind fun t154 => ((wx.f k bt148.1 bt148.2.1 bt148.2.2.1 bt148.2.2.2 a1 a2 t154).bind fun t157 => ((qqz.f k t157 t113).bind fun t160 => (if t160 = true then ((qqx.f k bt145.2 1).bind fun t161 => (if t161 < 0 then (none) else (if t161 = bt145.1 then (some true) else (none)))) else (none)))))) else (none))))) else (none)))))) else (none)) = some r := H
       have A32 := qq.mk A320
       clear A320
       by_cases c33 : t140 = true
       ·subst c33
        have H1 : ((qzz.f k t116 t117 t118 t121 1).bind fun bt141 => ((qzj.f t123 bt141.1).bind fun t143 => (if t143 < 0 then (none) else ((qqz.f k t126 t113).bind fun t144 => (if t144 = true then ((qzq.f k t126 1).bind fun bt145 => ((qqx.f k bt145.2 1).bind fun t147 => (if t147 < 0 then (none) else (if t147 = bt145.1 then ((qjv.f k a0_0 a0_1 l0_2 a0_3).bind fun bt148 => ((qjx.f k l3).bind fun t154 => ((wx.f k bt148.1 bt148.2.1 bt148.2.2.1 bt148.2.2.2 a1 a2 t154).bind fun t157 => ((qqz.f k t157 t113).bind fun t160 => (if t160 = true then ((qqx.f k bt145.2 1).bind fun t161 => (if t161 < 0 then (none) else (if t161 = bt145.1 then (some true) else (none)))) else (none)))))) else (none))))) else (none)))))) = some r := by rw [if_pos rfl] at H;exact H
        clear H
        have H := H1
        clear H1
        replace H := Option.bind_eq_some_iff.mp H
        obtain ⟨⟨t141,t142⟩,A340,H⟩ := H
        replace H : ((qzj.f t123 t141).bind fun t143 => (if t143 < 0 then (none) else ((qqz.f k t126 t113).bind fun t144 => (if t144 = true then ((qzq.f k t126 1).bind fun bt145 => ((qqx.f k bt145.2 1).bind fun t147 => (if t147 < 0 then (none) else (if t147 = bt145.1 then ((qjv.f k a0_0 a0_1 l0_2 a0_3).bind fun bt148 => ((qjx.f k l3).bind fun t154 => ((wx.f k bt148.1 bt148.2.1 bt148.2.2.1 bt148.2.2.2 a1 a2 t154).bind fun t157 => ((qqz.f k t157 t113).bind fun t160 => (if t160 = true then ((qqx.f k bt145.2 1).bind fun t161 => (if t161 < 0 then (none) else (if t161 = bt145.1 then (some true) else (none)))) else (none)))))) else (none))))) else (none))))) = some r := H
        have A34 := qq.mk A340
        clear A340
        replace H := Option.bind_eq_some_iff.mp H
        obtain ⟨t143,A350,H⟩ := H
        replace H : (if t143 < 0 then (none) else ((qqz.f k t126 t113).bind fun t144 => (if t144 = true then ((qzq.f k t126 1).bind fun bt145 => ((qqx.f k bt145.2 1).bind fun t147 => (if t147 < 0 then (none) else (if t147 = bt145.1 then ((qjv.f k a0_0 a0_1 l0_2 a0_3).bind fun bt148 => ((qjx.f k l3).bind fun t154 => ((wx.f k bt148.1 bt148.2.1 bt148.2.2.1 bt148.2.2.2 a1 a2 t154).bind fun t157 => ((qqz.f k t157 t113).bind fun t160 => (if t160 = true then ((qqx.f k bt145.2 1).bind fun t161 => (if t161 < 0 then (none) else (if t161 = bt145.1 then (some true) else (none)))) else (none)))))) else (none))))) else (none)))) = some r := H
        have A35 := qq.mk A350
        clear A350
        by_cases c36 : t143 < 0
        ·rw [if_pos c36] at H
         exact absurd H (by simp)
        ·rw [if_neg c36] at H
         have c36b0 : decide (t143 < 0) = false := decide_eq_false c36
         clear c36
         replace H := Option.bind_eq_some_iff.mp H
         obtain ⟨t144,A370,H⟩ := H
         replace H : (if t144 = true then ((qzq.f k t126 1).bind fun bt145 => ((qqx.f k bt145.2 1).bind fun t147 => (if t147 < 0 then (none) else (if t147 = bt145.1 then ((qjv.f k a0_0 a0_1 l0_2 a0_3).bind fun bt148 => ((qjx.f k l3).bind fun t154 => ((wx.f k bt148.1 bt148.2.1 bt148.2.2.1 bt148.2.2.2 a1 a2 t154).bind fun t157 => ((qqz.f k t157 t113).bind fun t160 => (if t160 = true then ((qqx.f k bt145.2 1).bind fun t161 => (if t161 < 0 then (none) else (if t161 = bt145.1 then (some true) else (none)))) else (none)))))) else (none))))) else (none)) = some r := H
         have A37 := qq.mk A370
         clear A370
         by_cases c38 : t144 = true
         ·subst c38
          have H1 : ((qzq.f k t126 1).bind fun bt145 => ((qqx.f k bt145.2 1).bind fun t147 => (if t147 < 0 then (none) else (if t147 = bt145.1 then ((qjv.f k a0_0 a0_1 l0_2 a0_3).bind fun bt148 => ((qjx.f k l3).bind fun t154 => ((wx.f k bt148.1 bt148.2.1 bt148.2.2.1 bt148.2.2.2 a1 a2 t154).bind fun t157 => ((qqz.f k t157 t113).bind fun t160 => (if t160 = true then ((qqx.f k bt145.2 1).bind fun t161 => (if t161 < 0 then (none) else (if t161 = bt145.1 then (some true) else (none)))) else (none)))))) else (none))))) = some r := by rw [if_pos rfl] at H;exact H
          clear H
          have H := H1
          clear H1
          replace H := Option.bind_eq_some_iff.mp H
          obtain ⟨⟨t145,t146⟩,A390,H⟩ := H
          replace H : ((qqx.f k t146 1).bind fun t147 => (if t147 < 0 then (none) else (if t147 = t145 then ((qjv.f k a0_0 a0_1 l0_2 a0_3).bind fun bt148 => ((qjx.f k l3).bind fun t154 => ((wx.f k bt148.1 bt148.2.1 bt148.2.2.1 bt148.2.2.2 a1 a2 t154).bind fun t157 => ((qqz.f k t157 t113).bind fun t160 => (if t160 = true then ((qqx.f k t146 1).bind fun t161 => (if t161 < 0 then (none) else (if t161 = t145 then (some true) else (none)))) else (none)))))) else (none)))) = some r := H
          have A39 := qq.mk A390
          clear A390
          replace H := Option.bind_eq_some_iff.mp H
          obtain ⟨t147,A400,H⟩ := H
          replace H : (if t147 < 0 then (none) else (if t147 = t145 then ((qjv.f k a0_0 a0_1 l0_2 a0_3).bind fun bt148 => ((qjx.f k l3).bind fun t154 => ((wx.f k bt148.1 bt148.2.1 bt148.2.2.1 bt148.2.2.2 a1 a2 t154).bind fun t157 => ((qqz.f k t157 t113).bind fun t160 => (if t160 = true then ((qqx.f k t146 1).bind fun t161 => (if t161 < 0 then (none) else (if t161 = t145 then (some true) else (none)))) else (none)))))) else (none))) = some r := H
          have A40 := qq.mk A400
          clear A400
          by_cases c41 : t147 < 0
          ·rw [if_pos c41] at H
           exact absurd H (by simp)
          ·rw [if_neg c41] at H
           have c41b0 : decide (t147 < 0) = false := decide_eq_false c41
           clear c41
           by_cases c42 : t147 = t145
           ·rw [if_pos c42] at H
            have c42b0 : (t147 == t145) = true := beq_iff_eq.mpr c42
            have c42b1 : (t147 != t145) = false := bne_eq_false_iff_eq.mpr c42
            clear c42
            replace H := Option.bind_eq_some_iff.mp H
            obtain ⟨⟨t148,t149,t150,t153⟩,A430,H⟩ := H
            replace H : ((qjx.f k l3).bind fun t154 => ((wx.f k t148 t149 t150 t153 a1 a2 t154).bind fun t157 => ((qqz.f k t157 t113).bind fun t160 => (if t160 = true then ((qqx.f k t146 1).bind fun t161 => (if t161 < 0 then (none) else (if t161 = t145 then (some true) else (none)))) else (none))))) = some r := H
            have A43 := qq.mk A430
            clear A430
            replace H := Option.bind_eq_some_iff.mp H
            obtain ⟨t154,A440,H⟩ := H
            replace H : ((wx.f k t148 t149 t150 t153 a1 a2 t154).bind fun t157 => ((qqz.f k t157 t113).bind fun t160 => (if t160 = true then ((qqx.f k t146 1).bind fun t161 => (if t161 < 0 then (none) else (if t161 = t145 then (some true) else (none)))) else (none)))) = some r := H
            have A44 := qq.mk A440
            clear A440
            replace H := Option.bind_eq_some_iff.mp H
            obtain ⟨t157,A450,H⟩ := H
            replace H : ((qqz.f k t157 t113).bind fun t160 => (if t160 = true then ((qqx.f k t146 1).bind fun t161 => (if t161 < 0 then (none) else (if t161 = t145 then (some true) else (none)))) else (none))) = some r := H
            have A45 := qq.mk A450
            clear A450
            replace H := Option.bind_eq_some_iff.mp H
            obtain ⟨t160,A460,H⟩ := H
            replace H : (if t160 = true then ((qqx.f k t146 1).bind fun t161 => (if t161 < 0 then (none) else (if t161 = t145 then (some true) else (none)))) else (none)) = some r := H
            have A46 := qq.mk A460
            clear A460
            by_cases c47 : t160 = true
            ·subst c47
             have H1 : ((qqx.f k t146 1).bind fun t161 => (if t161 < 0 then (none) else (if t161 = t145 then (some true) else (none)))) = some r := by rw [if_pos rfl] at H;exact H
             clear H
             have H := H1
             clear H1
             replace H := Option.bind_eq_some_iff.mp H
             obtain ⟨t161,A480,H⟩ := H
             replace H : (if t161 < 0 then (none) else (if t161 = t145 then (some true) else (none))) = some r := H
             have A48 := qq.mk A480
             clear A480
             by_cases c49 : t161 < 0
             ·rw [if_pos c49] at H
              exact absurd H (by simp)
             ·rw [if_neg c49] at H
              have c49b0 : decide (t161 < 0) = false := decide_eq_false c49
              clear c49
              by_cases c50 : t161 = t145
              ·rw [if_pos c50] at H
               have c50b0 : (t161 == t145) = true := beq_iff_eq.mpr c50
               have c50b1 : (t161 != t145) = false := bne_eq_false_iff_eq.mpr c50
               clear c50
               obtain rfl := Option.some.inj H
               go_enter Try.func5,Try.ntmps5
               try go_wp2_with (first | ((with_reducible refine gate_dst (N := 4) rfl ?_);refine box_event ?hg (N := 4) ?hd (cs := #[.int .i64 a0_0,.int .i64 a0_1,.slice A0_2 l0_2.length c0_2,.int .i64 a0_3]) (t := 47) ?hr ?_;(case hd => rfl);(case hg => rfl);(case hr => first | (go_simp;done) | (go_simp;rfl));intro gb101 hg w51 hbox hb;have n0_ := qq.mk (zv (by repeat (first | (with_reducible first | exact HB.out | apply qj | apply qz | apply qk) | exact HB.out)) hb);have n1_ := qq.mk (hbox);have n2_ := qq.mk ((by rw [hg];exact (zw (by repeat (first | (with_reducible first | exact HB.out | apply qj | apply qz | apply qk) | exact HB.out))) : w.heap.size ≤ gb101));have n3_ := qq.mk ((by rw [hg];exact (zw (by repeat (first | (with_reducible first | exact HB.out | apply qj | apply qz | apply qk) | exact HB.out))) : w.heap.size ≤ gb101));clear HB;have HB := n0_;have BK101 := n1_;have GW101 := n2_;have GE101 := n3_;clear n0_ n1_ n2_ n3_;clear hb hbox hg;have hcz52_0 : w51.cell? ⟨gb101,0,none⟩ = some (.int .i64 a0_0) := (qw BK101.out 0).trans rfl;have hcz52_1 : w51.cell? ⟨gb101,1,none⟩ = some (.int .i64 a0_1) := (qw BK101.out 1).trans rfl;have hcz52_2 : w51.cell? ⟨gb101,2,none⟩ = some (.slice A0_2 l0_2.length c0_2) := (qw BK101.out 2).trans rfl;have hcz52_3 : w51.cell? ⟨gb101,3,none⟩ = some (.int .i64 a0_3) := (qw BK101.out 3).trans rfl;have hfz52_0 := qv BK101.out 0;have hfz52_1 := qv BK101.out 1;have hfz52_2 := qv BK101.out 2;have hfz52_3 := qv BK101.out 3) | ((with_reducible refine jv (f := 21) rfl ?_);refine goesL_ (some 26) rfl rfl Try.func21 (by kernel_rfl) rfl #[.agg #[.int .i64 a0_0,.int .i64 a0_1,.slice A0_2 l0_2.length c0_2,.int .i64 a0_3],.int .i64 1048576] rfl (by (try simp only [List.map_toArray,List.map_cons,List.map_nil]);first | done | rfl | (simp only [List.length_drop,List.length_take];rfl)) ?_;(with_reducible refine (qzx.calls k a0_0 a0_1 _ _ l0_2 a0_3 1048576 t102 _ ?side1 ?side2 A9.out).mono ?_);(case side1 => repeat (first | exact (Kd.C_below HR0_2.out HB.out) | (with_reducible refine Kd.C_alloc ?_ _) | (with_reducible refine Kd.C_drewN ?_ _) | (with_reducible refine Kd.C_drew ?_)));(case side2 => exact HC0_2.out);rintro e w53 ⟨rfl,hb⟩;refine ⟨_,rfl,?_⟩;have n0_ := qq.mk (vz (g := gb101) (o := .cells #[.int .i64 a0_0,.int .i64 a0_1,.slice A0_2 l0_2.length c0_2,.int .i64 a0_3] 47 (0,0)) (by (with_reducible repeat (first | refine zz ?_ _ | refine zj ?_ | refine zq ?_ _));exact BK101.out) hb);have n1_ := qq.mk (zv (by repeat (first | (with_reducible first | exact HB.out | apply qj | apply qz | apply qk | refine qx ?_ GE101.out) | exact HB.out)) hb);clear BK101;clear HB;have BK101 := n0_;have HB := n1_;clear n0_ n1_;(try clear hb);(try clear hb2);(try clear hk);(try clear hi)) | ((with_reducible refine jv (f := 22) rfl ?_);refine goesL_ (some 31) rfl rfl Try.func22 (by kernel_rfl) rfl #[.slice A3 l3.length c3,.int .i64 t102] rfl (by (try simp only [List.map_toArray,List.map_cons,List.map_nil]);first | done | rfl | (simp only [List.length_drop,List.length_take];rfl)) ?_;(with_reducible refine (qjz.calls k _ _ l3 t102 t103 _ ?side1 ?side2 A14.out).mono ?_);(case side1 => repeat (first | exact (Kd.C_below HR3.out HB.out) | (with_reducible refine Kd.C_alloc ?_ _) | (with_reducible refine Kd.C_drewN ?_ _) | (with_reducible refine Kd.C_drew ?_)));(case side2 => exact HC3.out);rintro e w54 ⟨rfl,hb⟩;refine ⟨_,rfl,?_⟩;have n0_ := qq.mk (vz (g := gb101) (o := .cells #[.int .i64 a0_0,.int .i64 a0_1,.slice A0_2 l0_2.length c0_2,.int .i64 a0_3] 47 (0,0)) (by (with_reducible repeat (first | refine zz ?_ _ | refine zj ?_ | refine zq ?_ _));exact BK101.out) hb);have n1_ := qq.mk (zv (by repeat (first | (with_reducible first | exact HB.out | apply qj | apply qz | apply qk | refine qx ?_ GE101.out) | exact HB.out)) hb);clear BK101;clear HB;have BK101 := n0_;have HB := n1_;clear n0_ n1_;(try clear hb);(try clear hb2);(try clear hk);(try clear hi);have hcz55_0 : w54.cell? ⟨gb101,0,none⟩ = some (.int .i64 a0_0) := (qw BK101.out 0).trans rfl;have hcz55_1 : w54.cell? ⟨gb101,1,none⟩ = some (.int .i64 a0_1) := (qw BK101.out 1).trans rfl;have hcz55_2 : w54.cell? ⟨gb101,2,none⟩ = some (.slice A0_2 l0_2.length c0_2) := (qw BK101.out 2).trans rfl;have hcz55_3 : w54.cell? ⟨gb101,3,none⟩ = some (.int .i64 a0_3) := (qw BK101.out 3).trans rfl;have hfz55_0 := qv BK101.out 0;have hfz55_1 := qv BK101.out 1;have hfz55_2 := qv BK101.out 2;have hfz55_3 := qv BK101.out 3) | ((with_reducible refine jv (f := 24) rfl ?_);refine goesL_ (some 35) rfl rfl Try.func24 (by kernel_rfl) rfl #[.agg #[.int .i64 a0_0,.int .i64 a0_1,.slice A0_2 l0_2.length c0_2,.int .i64 a0_3]] rfl (by (try simp only [List.map_toArray,List.map_cons,List.map_nil]);first | done | rfl | (simp only [List.length_drop,List.length_take];rfl)) ?_;(with_reducible refine (qjv.calls k a0_0 a0_1 _ _ l0_2 a0_3 t104 t105 t106 t109 _ ?side1 ?side2 A20.out).mono ?_);(case side1 => repeat (first | exact (Kd.C_below HR0_2.out HB.out) | (with_reducible refine Kd.C_alloc ?_ _) | (with_reducible refine Kd.C_drewN ?_ _) | (with_reducible refine Kd.C_drew ?_)));(case side2 => exact HC0_2.out);rintro e w56 ⟨v107,rfl,ho0,hb⟩;refine ⟨_,rfl,?_⟩;have n0_ := qq.mk (Kd.R_lower ho0 (zw (by repeat (first | (with_reducible first | exact HB.out | apply qj | apply qz | apply qk | refine qx ?_ GE101.out) | exact HB.out))));have n1_ := qq.mk (vz (g := gb101) (o := .cells #[.int .i64 a0_0,.int .i64 a0_1,.slice A0_2 l0_2.length c0_2,.int .i64 a0_3] 47 (0,0)) (by (with_reducible repeat (first | refine zz ?_ _ | refine zj ?_ | refine zq ?_ _));exact BK101.out) hb);have n2_ := qq.mk (zv (by repeat (first | (with_reducible first | exact HB.out | apply qj | apply qz | apply qk | refine qx ?_ GE101.out) | exact HB.out)) hb);clear BK101;clear HB;have HO108 := n0_;have BK101 := n1_;have HB := n2_;clear n0_ n1_ n2_;(try clear hb);(try clear hb2);(try clear hk);(try clear hi);(try clear ho0)) | ((with_reducible refine jv (f := 25) rfl ?_);refine goesL_ (some 39) rfl rfl Try.func25 (by kernel_rfl) rfl #[.slice A3 l3.length c3] rfl (by (try simp only [List.map_toArray,List.map_cons,List.map_nil]);first | done | rfl | (simp only [List.length_drop,List.length_take];rfl)) ?_;(with_reducible refine (qjx.calls k _ _ l3 t110 _ ?side1 ?side2 A21.out).mono ?_);(case side1 => repeat (first | exact (Kd.C_below HR3.out HB.out) | (with_reducible refine Kd.C_alloc ?_ _) | (with_reducible refine Kd.C_drewN ?_ _) | (with_reducible refine Kd.C_drew ?_)));(case side2 => exact HC3.out);rintro e w57 ⟨v111,rfl,ho0,hb⟩;refine ⟨_,rfl,?_⟩;have n0_ := qq.mk (Kd.R_below (by (with_reducible repeat (first | apply Kd.jq | apply Kd.zx | apply Kd.jz));exact HO108.out) hb);have n1_ := qq.mk (Kd.S_lower ho0 (zw (by repeat (first | (with_reducible first | exact HB.out | apply qj | apply qz | apply qk | refine qx ?_ GE101.out) | exact HB.out))));have n2_ := qq.mk (vz (g := gb101) (o := .cells #[.int .i64 a0_0,.int .i64 a0_1,.slice A0_2 l0_2.length c0_2,.int .i64 a0_3] 47 (0,0)) (by (with_reducible repeat (first | refine zz ?_ _ | refine zj ?_ | refine zq ?_ _));exact BK101.out) hb);have n3_ := qq.mk (zv (by repeat (first | (with_reducible first | exact HB.out | apply qj | apply qz | apply qk | refine qx ?_ GE101.out) | exact HB.out)) hb);clear HO108;clear BK101;clear HB;have HO108 := n0_;have HO112 := n1_;have BK101 := n2_;have HB := n3_;clear n0_ n1_ n2_ n3_;(try clear hb);(try clear hb2);(try clear hk);(try clear hi);(try clear ho0);obtain ⟨Ao58,co58,eo58⟩ := Kd.R_slice HO108.out;subst eo58;obtain ⟨Ao59,co59,eo59⟩ := Kd.S_slice HO112.out;subst eo59) | ((with_reducible refine jv (f := 23) rfl ?_);refine goesL_ (some 40) rfl rfl Try.func23 (by kernel_rfl) rfl #[.agg #[.int .i64 t104,.int .i64 t105,.slice Ao58 t106.length co58,.int .i64 t109],.string a1,.string a2,.slice Ao59 t110.length co59] rfl (by (try simp only [List.map_toArray,List.map_cons,List.map_nil]);first | done | rfl | (simp only [List.length_drop,List.length_take];rfl)) ?_;(with_reducible refine (qkj.calls k t104 t105 _ _ t106 t109 a1 a2 _ _ t110 t113 _ ?side1 ?side2 ?side3 ?side4 A22.out).mono ?_);(case side1 => repeat (first | exact (Kd.R_reads' HO108.out).2.2 | (with_reducible refine Kd.C_alloc ?_ _) | (with_reducible refine Kd.C_drewN ?_ _) | (with_reducible refine Kd.C_drew ?_)));(case side2 => exact (Kd.R_reads' HO108.out).2.1);(case side3 => repeat (first | exact (Kd.S_reads' HO112.out).2.2 | (with_reducible refine Kd.C_alloc ?_ _) | (with_reducible refine Kd.C_drewN ?_ _) | (with_reducible refine Kd.C_drew ?_)));(case side4 => exact (Kd.S_reads' HO112.out).2.1);rintro e w60 ⟨v114,rfl,ho0,hb⟩;refine ⟨_,rfl,?_⟩;have n0_ := qq.mk (Kd.R_below (by (with_reducible repeat (first | apply Kd.jq | apply Kd.zx | apply Kd.jz));exact HO108.out) hb);have n1_ := qq.mk (Kd.S_below (by (with_reducible repeat (first | apply Kd.kk | apply Kd.kj | apply Kd.kv));exact HO112.out) hb);have n2_ := qq.mk (Kd.R_lower ho0 (zw (by repeat (first | (with_reducible first | exact HB.out | apply qj | apply qz | apply qk | refine qx ?_ GE101.out) | exact HB.out))));have n3_ := qq.mk (vz (g := gb101) (o := .cells #[.int .i64 a0_0,.int .i64 a0_1,.slice A0_2 l0_2.length c0_2,.int .i64 a0_3] 47 (0,0)) (by (with_reducible repeat (first | refine zz ?_ _ | refine zj ?_ | refine zq ?_ _));exact BK101.out) hb);have n4_ := qq.mk (zv (by repeat (first | (with_reducible first | exact HB.out | apply qj | apply qz | apply qk | refine qx ?_ GE101.out) | exact HB.out)) hb);clear HO108;clear HO112;clear BK101;clear HB;have HO108 := n0_;have HO112 := n1_;have HO115 := n2_;have BK101 := n3_;have HB := n4_;clear n0_ n1_ n2_ n3_ n4_;(try clear hb);(try clear hb2);(try clear hk);(try clear hi);(try clear ho0);have hcz61_0 : w60.cell? ⟨gb101,0,none⟩ = some (.int .i64 a0_0) := (qw BK101.out 0).trans rfl;have hcz61_1 : w60.cell? ⟨gb101,1,none⟩ = some (.int .i64 a0_1) := (qw BK101.out 1).trans rfl;have hcz61_2 : w60.cell? ⟨gb101,2,none⟩ = some (.slice A0_2 l0_2.length c0_2) := (qw BK101.out 2).trans rfl;have hcz61_3 : w60.cell? ⟨gb101,3,none⟩ = some (.int .i64 a0_3) := (qw BK101.out 3).trans rfl;have hfz61_0 := qv BK101.out 0;have hfz61_1 := qv BK101.out 1;have hfz61_2 := qv BK101.out 2;have hfz61_3 := qv BK101.out 3) | ((with_reducible refine jv (f := 24) rfl ?_);refine goesL_ (some 42) rfl rfl Try.func24 (by kernel_rfl) rfl #[.agg #[.int .i64 a0_0,.int .i64 a0_1,.slice A0_2 l0_2.length c0_2,.int .i64 a0_3]] rfl (by (try simp only [List.map_toArray,List.map_cons,List.map_nil]);first | done | rfl | (simp only [List.length_drop,List.length_take];rfl)) ?_;(with_reducible refine (qjv.calls k a0_0 a0_1 _ _ l0_2 a0_3 t116 t117 t118 t121 _ ?side1 ?side2 A23.out).mono ?_);(case side1 => repeat (first | exact (Kd.C_below HR0_2.out HB.out) | (with_reducible refine Kd.C_alloc ?_ _) | (with_reducible refine Kd.C_drewN ?_ _) | (with_reducible refine Kd.C_drew ?_)));(case side2 => exact HC0_2.out);rintro e w62 ⟨v119,rfl,ho0,hb⟩;refine ⟨_,rfl,?_⟩;have n0_ := qq.mk (Kd.R_elder' (by (with_reducible repeat (first | apply Kd.jq | apply Kd.zx | apply Kd.jz));exact HO108.out) (Kd.R_base ho0) hb);have n1_ := qq.mk (Kd.S_below (by (with_reducible repeat (first | apply Kd.kk | apply Kd.kj | apply Kd.kv));exact HO112.out) hb);have n2_ := qq.mk (Kd.R_below (by (with_reducible repeat (first | apply Kd.jq | apply Kd.zx | apply Kd.jz));exact HO115.out) hb);have n3_ := qq.mk (Kd.R_lower (Kd.R_new' ho0 (Kd.R_lt (by (with_reducible repeat (first | apply Kd.jq | apply Kd.zx | apply Kd.jz));exact HO108.out))) (zw (by repeat (first | (with_reducible first | exact HB.out | apply qj | apply qz | apply qk | refine qx ?_ GE101.out) | exact HB.out))));have n4_ := qq.mk (vz (g := gb101) (o := .cells #[.int .i64 a0_0,.int .i64 a0_1,.slice A0_2 l0_2.length c0_2,.int .i64 a0_3] 47 (0,0)) (by (with_reducible repeat (first | refine zz ?_ _ | refine zj ?_ | refine zq ?_ _));exact BK101.out) hb);have n5_ := qq.mk (zv (by repeat (first | (with_reducible first | exact HB.out | apply qj | apply qz | apply qk | refine qx ?_ GE101.out) | exact HB.out)) hb);clear HO108;clear HO112;clear HO115;clear BK101;clear HB;have HO108 := n0_;have HO112 := n1_;have HO115 := n2_;have HO120 := n3_;have BK101 := n4_;have HB := n5_;clear n0_ n1_ n2_ n3_ n4_ n5_;(try clear hb);(try clear hb2);(try clear hk);(try clear hi);(try clear ho0)) | ((with_reducible refine gate_dst (N := 11) rfl ?_);refine box_event ?hg (N := 11) ?hd (cs := #[.int .i64 0,.int .i64 0,.slice none 0 0,.int .i64 0]) (t := 53) ?hr ?_;(case hd => rfl);(case hg => rfl);(case hr => first | (go_simp;done) | (go_simp;rfl));intro gb122 hg w63 hbox hb;have n0_ := qq.mk (Kd.R_below (by (with_reducible repeat (first | apply Kd.jq | apply Kd.zx | apply Kd.jz));exact HO108.out) hb);have n1_ := qq.mk (Kd.S_below (by (with_reducible repeat (first | apply Kd.kk | apply Kd.kj | apply Kd.kv));exact HO112.out) hb);have n2_ := qq.mk (Kd.R_below (by (with_reducible repeat (first | apply Kd.jq | apply Kd.zx | apply Kd.jz));exact HO115.out) hb);have n3_ := qq.mk (Kd.R_below (by (with_reducible repeat (first | apply Kd.jq | apply Kd.zx | apply Kd.jz));exact HO120.out) hb);have n4_ := qq.mk (vz (g := gb101) (o := .cells #[.int .i64 a0_0,.int .i64 a0_1,.slice A0_2 l0_2.length c0_2,.int .i64 a0_3] 47 (0,0)) (by (with_reducible repeat (first | refine zz ?_ _ | refine zj ?_ | refine zq ?_ _));exact BK101.out) hb);have n5_ := qq.mk (zv (by repeat (first | (with_reducible first | exact HB.out | apply qj | apply qz | apply qk | refine qx ?_ GE101.out) | exact HB.out)) hb);have n6_ := qq.mk (hbox);have n7_ := qq.mk ((by rw [hg];exact (zw (by repeat (first | (with_reducible first | exact HB.out | apply qj | apply qz | apply qk | refine qx ?_ GE101.out) | exact HB.out))) : w.heap.size ≤ gb122));have n8_ := qq.mk ((by rw [hg];exact (zw (by repeat (first | (with_reducible first | exact HB.out | apply qj | apply qz | apply qk | refine qx ?_ GE101.out) | exact HB.out))) : w.heap.size ≤ gb122));have n9_ := qq.mk ((by rw [hg];exact Nat.ne_of_lt (blk_lt (g := gb101) (o := .cells #[.int .i64 a0_0,.int .i64 a0_1,.slice A0_2 l0_2.length c0_2,.int .i64 a0_3] 47 (0,0)) (by (with_reducible repeat (first | refine zz ?_ _ | refine zj ?_ | refine zq ?_ _));exact BK101.out)) : gb101 ≠ gb122));have n10_ := qq.mk ((by rw [hg];exact Nat.ne_of_gt (blk_lt (g := gb101) (o := .cells #[.int .i64 a0_0,.int .i64 a0_1,.slice A0_2 l0_2.length c0_2,.int .i64 a0_3] 47 (0,0)) (by (with_reducible repeat (first | refine zz ?_ _ | refine zj ?_ | refine zq ?_ _));exact BK101.out)) : gb122 ≠ gb101));clear HO108;clear HO112;clear HO115;clear HO120;clear BK101;clear HB;have HO108 := n0_;have HO112 := n1_;have HO115 := n2_;have HO120 := n3_;have BK101 := n4_;have HB := n5_;have BK122 := n6_;have GW122 := n7_;have GE122 := n8_;have NB101_122 := n9_;have NB122_101 := n10_;clear n0_ n1_ n2_ n3_ n4_ n5_ n6_ n7_ n8_ n9_ n10_;clear hb hbox hg;have hnb64 := NB122_101.out;have hnc64 := NB101_122.out;have hcz65_0 : w63.cell? ⟨gb122,0,none⟩ = some (.int .i64 0) := (qw BK122.out 0).trans rfl;have hcz65_1 : w63.cell? ⟨gb122,1,none⟩ = some (.int .i64 0) := (qw BK122.out 1).trans rfl;have hcz65_2 : w63.cell? ⟨gb122,2,none⟩ = some (.slice none 0 0) := (qw BK122.out 2).trans rfl;have hcz65_3 : w63.cell? ⟨gb122,3,none⟩ = some (.int .i64 0) := (qw BK122.out 3).trans rfl;have hfz65_0 := qv BK122.out 0;have hfz65_1 := qv BK122.out 1;have hfz65_2 := qv BK122.out 2;have hfz65_3 := qv BK122.out 3;obtain ⟨Ao66,co66,eo66⟩ := Kd.R_slice HO120.out;subst eo66) | ((with_reducible refine jv (f := 25) rfl ?_);refine goesL_ (some 44) rfl rfl Try.func25 (by kernel_rfl) rfl #[.slice A3 l3.length c3] rfl (by (try simp only [List.map_toArray,List.map_cons,List.map_nil]);first | done | rfl | (simp only [List.length_drop,List.length_take];rfl)) ?_;(with_reducible refine (qjx.calls k _ _ l3 t123 _ ?side1 ?side2 A24.out).mono ?_);(case side1 => exact Kd.C_below HR3.out (by repeat (first | (with_reducible first | exact HB.out | apply qj | apply qz | apply qk | refine qx ?_ GE101.out | refine qx ?_ GE122.out) | exact HB.out)));(case side2 => exact HC3.out);rintro e w67 ⟨v124,rfl,ho0,hb⟩;refine ⟨_,rfl,?_⟩;have n0_ := qq.mk (Kd.R_below (by (with_reducible repeat (first | apply Kd.jq | apply Kd.zx | apply Kd.jz));exact (Kd.R_mono (Kd.R_far (p := ⟨gb122,3,none⟩) (Kd.R_far (p := ⟨gb122,2,none⟩) (Kd.R_far (p := ⟨gb122,1,none⟩) (Kd.R_far (p := ⟨gb122,0,none⟩) (Kd.R_types HO108.out BK122.out (by decide)) (fun _ hk => hk.2) (.int .i64 t116)) (fun _ hk => hk.2) (.int .i64 t117)) (fun _ hk => hk.2) (.slice Ao66 t118.length co66)) (fun _ hk => hk.2) (.int .i64 t121)) (fun _ h_ => h_.1))) hb);have n1_ := qq.mk (Kd.S_elder' (by (with_reducible repeat (first | apply Kd.kk | apply Kd.kj | apply Kd.kv));exact (Kd.S_mono (Kd.S_far (p := ⟨gb122,3,none⟩) (Kd.S_far (p := ⟨gb122,2,none⟩) (Kd.S_far (p := ⟨gb122,1,none⟩) (Kd.S_far (p := ⟨gb122,0,none⟩) (Kd.S_types HO112.out BK122.out (by decide)) (fun _ hk => hk.2) (.int .i64 t116)) (fun _ hk => hk.2) (.int .i64 t117)) (fun _ hk => hk.2) (.slice Ao66 t118.length co66)) (fun _ hk => hk.2) (.int .i64 t121)) (fun _ h_ => h_.1))) (Kd.S_base ho0) hb);have n2_ := qq.mk (Kd.R_below (by (with_reducible repeat (first | apply Kd.jq | apply Kd.zx | apply Kd.jz));exact (Kd.R_mono (Kd.R_far (p := ⟨gb122,3,none⟩) (Kd.R_far (p := ⟨gb122,2,none⟩) (Kd.R_far (p := ⟨gb122,1,none⟩) (Kd.R_far (p := ⟨gb122,0,none⟩) (Kd.R_types HO115.out BK122.out (by decide)) (fun _ hk => hk.2) (.int .i64 t116)) (fun _ hk => hk.2) (.int .i64 t117)) (fun _ hk => hk.2) (.slice Ao66 t118.length co66)) (fun _ hk => hk.2) (.int .i64 t121)) (fun _ h_ => h_.1))) hb);have n3_ := qq.mk (Kd.R_below (by (with_reducible repeat (first | apply Kd.jq | apply Kd.zx | apply Kd.jz));exact (Kd.R_mono (Kd.R_far (p := ⟨gb122,3,none⟩) (Kd.R_far (p := ⟨gb122,2,none⟩) (Kd.R_far (p := ⟨gb122,1,none⟩) (Kd.R_far (p := ⟨gb122,0,none⟩) (Kd.R_types HO120.out BK122.out (by decide)) (fun _ hk => hk.2) (.int .i64 t116)) (fun _ hk => hk.2) (.int .i64 t117)) (fun _ hk => hk.2) (.slice Ao66 t118.length co66)) (fun _ hk => hk.2) (.int .i64 t121)) (fun _ h_ => h_.1))) hb);have n4_ := qq.mk (Kd.S_lower (Kd.S_new' ho0 (Kd.S_lt (by (with_reducible repeat (first | apply Kd.kk | apply Kd.kj | apply Kd.kv));exact (Kd.S_mono (Kd.S_far (p := ⟨gb122,3,none⟩) (Kd.S_far (p := ⟨gb122,2,none⟩) (Kd.S_far (p := ⟨gb122,1,none⟩) (Kd.S_far (p := ⟨gb122,0,none⟩) (Kd.S_types HO112.out BK122.out (by decide)) (fun _ hk => hk.2) (.int .i64 t116)) (fun _ hk => hk.2) (.int .i64 t117)) (fun _ hk => hk.2) (.slice Ao66 t118.length co66)) (fun _ hk => hk.2) (.int .i64 t121)) (fun _ h_ => h_.1))))) (zw (by repeat (first | (with_reducible first | exact HB.out | apply qj | apply qz | apply qk | refine qx ?_ GE101.out | refine qx ?_ GE122.out) | exact HB.out))));have n5_ := qq.mk (vz (g := gb101) (o := .cells #[.int .i64 a0_0,.int .i64 a0_1,.slice A0_2 l0_2.length c0_2,.int .i64 a0_3] 47 (0,0)) (by (with_reducible repeat (first | refine zz ?_ _ | refine zj ?_ | refine zq ?_ _));refine blk_far ?_ NB101_122.out _;(with_reducible repeat (first | refine zz ?_ _ | refine zj ?_ | refine zq ?_ _));refine blk_far ?_ NB101_122.out _;(with_reducible repeat (first | refine zz ?_ _ | refine zj ?_ | refine zq ?_ _));refine blk_far ?_ NB101_122.out _;(with_reducible repeat (first | refine zz ?_ _ | refine zj ?_ | refine zq ?_ _));refine blk_far ?_ NB101_122.out _;(with_reducible repeat (first | refine zz ?_ _ | refine zj ?_ | refine zq ?_ _));exact BK101.out) hb);have n6_ := qq.mk (vz (g := gb122) (o := .cells #[.int .i64 t116,.int .i64 t117,.slice Ao66 t118.length co66,.int .i64 t121] 53 (0,0)) (by (with_reducible repeat (first | refine zz ?_ _ | refine zj ?_ | refine zq ?_ _));refine blk_put (cs := #[.int .i64 t116,.int .i64 t117,.slice Ao66 t118.length co66,.int .i64 0]) ?_ 3 _ rfl;(with_reducible repeat (first | refine zz ?_ _ | refine zj ?_ | refine zq ?_ _));refine blk_put (cs := #[.int .i64 t116,.int .i64 t117,.slice none 0 0,.int .i64 0]) ?_ 2 _ rfl;(with_reducible repeat (first | refine zz ?_ _ | refine zj ?_ | refine zq ?_ _));refine blk_put (cs := #[.int .i64 t116,.int .i64 0,.slice none 0 0,.int .i64 0]) ?_ 1 _ rfl;(with_reducible repeat (first | refine zz ?_ _ | refine zj ?_ | refine zq ?_ _));refine blk_put (cs := #[.int .i64 0,.int .i64 0,.slice none 0 0,.int .i64 0]) ?_ 0 _ rfl;(with_reducible repeat (first | refine zz ?_ _ | refine zj ?_ | refine zq ?_ _));exact BK122.out) hb);have n7_ := qq.mk (zv (by repeat (first | (with_reducible first | exact HB.out | apply qj | apply qz | apply qk | refine qx ?_ GE101.out | refine qx ?_ GE122.out) | exact HB.out)) hb);clear HO108;clear HO112;clear HO115;clear HO120;clear BK101;clear BK122;clear HB;have HO108 := n0_;have HO112 := n1_;have HO115 := n2_;have HO120 := n3_;have HO125 := n4_;have BK101 := n5_;have BK122 := n6_;have HB := n7_;clear n0_ n1_ n2_ n3_ n4_ n5_ n6_ n7_;(try clear hb);(try clear hb2);(try clear hk);(try clear hi);(try clear ho0);have hcz68_0 : w67.cell? ⟨gb122,0,none⟩ = some (.int .i64 t116) := (qw BK122.out 0).trans rfl;have hcz68_1 : w67.cell? ⟨gb122,1,none⟩ = some (.int .i64 t117) := (qw BK122.out 1).trans rfl;have hcz68_2 : w67.cell? ⟨gb122,2,none⟩ = some (.slice Ao66 t118.length co66) := (qw BK122.out 2).trans rfl;have hcz68_3 : w67.cell? ⟨gb122,3,none⟩ = some (.int .i64 t121) := (qw BK122.out 3).trans rfl;have hfz68_0 := qv BK122.out 0;have hfz68_1 := qv BK122.out 1;have hfz68_2 := qv BK122.out 2;have hfz68_3 := qv BK122.out 3;obtain ⟨Ao69,co69,eo69⟩ := Kd.S_slice HO125.out;subst eo69) | ((with_reducible refine jv (f := 26) rfl ?_);refine goesL_ (some 49) rfl rfl Try.func26 (by kernel_rfl) rfl #[.agg #[.int .i64 t116,.int .i64 t117,.slice Ao66 t118.length co66,.int .i64 t121],.string a1,.string a2,.slice Ao69 t123.length co69] rfl (by (try simp only [List.map_toArray,List.map_cons,List.map_nil]);first | done | rfl | (simp only [List.length_drop,List.length_take];rfl)) ?_;(with_reducible refine (wx.calls k t116 t117 _ _ t118 t121 a1 a2 _ _ t123 t126 _ ?tabw ?side1 ?side2 ?side3 ?side4 A25.out).mono ?_);(case tabw => repeat (first | exact HTAB.out | exact TabW_below HTAB.out HB.out | (with_reducible refine TabW_drewN ?_ _) | (with_reducible refine TabW_drew ?_) | (with_reducible refine TabW_alloc ?_ _)));(case side1 => repeat (first | exact (Kd.R_reads' HO120.out).2.2 | (with_reducible refine Kd.C_alloc ?_ _) | (with_reducible refine Kd.C_drewN ?_ _) | (with_reducible refine Kd.C_drew ?_)));(case side2 => exact (Kd.R_reads' HO120.out).2.1);(case side3 => repeat (first | exact (Kd.S_reads' HO125.out).2.2 | (with_reducible refine Kd.C_alloc ?_ _) | (with_reducible refine Kd.C_drewN ?_ _) | (with_reducible refine Kd.C_drew ?_)));(case side4 => exact (Kd.S_reads' HO125.out).2.1);rintro e w70 ⟨v127,rfl,ho0,hb⟩;refine ⟨_,rfl,?_⟩;have n0_ := qq.mk (Kd.R_below (by (with_reducible repeat (first | apply Kd.jq | apply Kd.zx | apply Kd.jz));exact HO108.out) hb);have n1_ := qq.mk (Kd.S_below (by (with_reducible repeat (first | apply Kd.kk | apply Kd.kj | apply Kd.kv));exact HO112.out) hb);have n2_ := qq.mk (Kd.R_elder' (by (with_reducible repeat (first | apply Kd.jq | apply Kd.zx | apply Kd.jz));exact HO115.out) (Kd.R_base ho0) hb);have n3_ := qq.mk (Kd.R_below (by (with_reducible repeat (first | apply Kd.jq | apply Kd.zx | apply Kd.jz));exact HO120.out) hb);have n4_ := qq.mk (Kd.S_below (by (with_reducible repeat (first | apply Kd.kk | apply Kd.kj | apply Kd.kv));exact HO125.out) hb);have n5_ := qq.mk (Kd.R_lower (Kd.R_new' ho0 (Kd.R_lt (by (with_reducible repeat (first | apply Kd.jq | apply Kd.zx | apply Kd.jz));exact HO115.out))) (zw (by repeat (first | (with_reducible first | exact HB.out | apply qj | apply qz | apply qk | refine qx ?_ GE101.out | refine qx ?_ GE122.out) | exact HB.out))));have n6_ := qq.mk (vz (g := gb101) (o := .cells #[.int .i64 a0_0,.int .i64 a0_1,.slice A0_2 l0_2.length c0_2,.int .i64 a0_3] 47 (0,0)) (by (with_reducible repeat (first | refine zz ?_ _ | refine zj ?_ | refine zq ?_ _));exact BK101.out) hb);have n7_ := qq.mk (vz (g := gb122) (o := .cells #[.int .i64 t116,.int .i64 t117,.slice Ao66 t118.length co66,.int .i64 t121] 53 (0,0)) (by (with_reducible repeat (first | refine zz ?_ _ | refine zj ?_ | refine zq ?_ _));exact BK122.out) hb);have n8_ := qq.mk (zv (by repeat (first | (with_reducible first | exact HB.out | apply qj | apply qz | apply qk | refine qx ?_ GE101.out | refine qx ?_ GE122.out) | exact HB.out)) hb);clear HO108;clear HO112;clear HO115;clear HO120;clear HO125;clear BK101;clear BK122;clear HB;have HO108 := n0_;have HO112 := n1_;have HO115 := n2_;have HO120 := n3_;have HO125 := n4_;have HO128 := n5_;have BK101 := n6_;have BK122 := n7_;have HB := n8_;clear n0_ n1_ n2_ n3_ n4_ n5_ n6_ n7_ n8_;(try clear hb);(try clear hb2);(try clear hk);(try clear hi);(try clear ho0);obtain ⟨Ao71,co71,eo71⟩ := Kd.R_slice HO128.out;subst eo71;obtain ⟨Ao72,co72,eo72⟩ := Kd.R_slice HO115.out;subst eo72) | ((with_reducible refine jv (f := 27) rfl ?_);refine goesL_ (some 52) rfl rfl Try.func27 (by kernel_rfl) rfl #[.slice Ao71 t126.length co71,.slice Ao72 t113.length co72] rfl (by (try simp only [List.map_toArray,List.map_cons,List.map_nil]);first | done | rfl | (simp only [List.length_drop,List.length_take];rfl)) ?_;(with_reducible refine (qqz.calls k _ _ t126 _ _ t113 true _ ?side1 ?side2 ?side3 ?side4 A26.out).mono ?_);(case side1 => repeat (first | exact (Kd.R_reads' HO128.out).2.2 | (with_reducible refine Kd.C_alloc ?_ _) | (with_reducible refine Kd.C_drewN ?_ _) | (with_reducible refine Kd.C_drew ?_)));(case side2 => exact (Kd.R_reads' HO128.out).2.1);(case side3 => repeat (first | exact (Kd.R_reads' HO115.out).2.2 | (with_reducible refine Kd.C_alloc ?_ _) | (with_reducible refine Kd.C_drewN ?_ _) | (with_reducible refine Kd.C_drew ?_)));(case side4 => exact (Kd.R_reads' HO115.out).2.1);rintro e w' ⟨rfl,⟨nd,rfl⟩⟩;refine ⟨_,rfl,?_⟩))
               (try (rw [drewN_self w70];generalize hq_ : World.drewN w70 _ = w70;have n0_ : qq (Kd.R Kd.string 9 w70 w.heap.size (fun k_ => some k_ ≠ (.slice Ao66 t118.length co66 : Value).ownBlock) (.slice Ao58 t106.length co58) t106) := ⟨by rw [← hq_];exact (by (with_reducible repeat (first | apply Kd.jq | apply Kd.zx | apply Kd.jz));exact Kd.R_mono HO108.out (fun _ hk => hk.2))⟩;have n1_ : qq (Kd.S k82 82 w70 w.heap.size (fun k_ => some k_ ≠ (.slice Ao69 t123.length co69 : Value).ownBlock) (.slice Ao59 t110.length co59) t110) := ⟨by rw [← hq_];exact (by (with_reducible repeat (first | apply Kd.kk | apply Kd.kj | apply Kd.kv));exact Kd.S_mono HO112.out (fun _ hk => hk.2))⟩;have n2_ : qq (Kd.R (Kd.int .i64) 3 w70 w.heap.size (fun k_ => some k_ ≠ (.slice Ao71 t126.length co71 : Value).ownBlock) (.slice Ao72 t113.length co72) t113) := ⟨by rw [← hq_];exact (by (with_reducible repeat (first | apply Kd.jq | apply Kd.zx | apply Kd.jz));exact Kd.R_mono HO115.out (fun _ hk => hk.2))⟩;have n3_ : qq (Kd.R Kd.string 9 w70 w.heap.size (fun k_ => some k_ ≠ (.slice Ao58 t106.length co58 : Value).ownBlock) (.slice Ao66 t118.length co66) t118) := ⟨by rw [← hq_];exact (by (with_reducible repeat (first | apply Kd.jq | apply Kd.zx | apply Kd.jz));exact Kd.R_mono HO120.out (fun _ hk => hk.2))⟩;have n4_ : qq (Kd.S k82 82 w70 w.heap.size (fun k_ => some k_ ≠ (.slice Ao59 t110.length co59 : Value).ownBlock) (.slice Ao69 t123.length co69) t123) := ⟨by rw [← hq_];exact (by (with_reducible repeat (first | apply Kd.kk | apply Kd.kj | apply Kd.kv));exact Kd.S_mono HO125.out (fun _ hk => hk.2))⟩;have n5_ : qq (Kd.R (Kd.int .i64) 3 w70 w.heap.size (fun k_ => some k_ ≠ (.slice Ao72 t113.length co72 : Value).ownBlock) (.slice Ao71 t126.length co71) t126) := ⟨by rw [← hq_];exact (by (with_reducible repeat (first | apply Kd.jq | apply Kd.zx | apply Kd.jz));exact Kd.R_mono HO128.out (fun _ hk => hk.2))⟩;have n6_ : qq (w70.heap[gb101]? = some (.cells #[.int .i64 a0_0,.int .i64 a0_1,.slice A0_2 l0_2.length c0_2,.int .i64 a0_3] 47 (0,0))) := ⟨by rw [← hq_];exact (by (with_reducible repeat (first | refine zz ?_ _ | refine zj ?_ | refine zq ?_ _));exact BK101.out)⟩;have n7_ : qq (w70.heap[gb122]? = some (.cells #[.int .i64 t116,.int .i64 t117,.slice Ao66 t118.length co66,.int .i64 t121] 53 (0,0))) := ⟨by rw [← hq_];exact (by (with_reducible repeat (first | refine zz ?_ _ | refine zj ?_ | refine zq ?_ _));exact BK122.out)⟩;have n8_ : qq (Below w.heap.size w w70) := ⟨by rw [← hq_];exact (by repeat (first | (with_reducible first | exact HB.out | apply qj | apply qz | apply qk | refine qx ?_ GE101.out | refine qx ?_ GE122.out) | exact HB.out))⟩;clear HO108 HO112 HO115 HO120 HO125 HO128 BK101 BK122 HB hq_;have HO108 := n0_;have HO112 := n1_;have HO115 := n2_;have HO120 := n3_;have HO125 := n4_;have HO128 := n5_;have BK101 := n6_;have BK122 := n7_;have HB := n8_;clear n0_ n1_ n2_ n3_ n4_ n5_ n6_ n7_ n8_))
               have n0_ := qq.mk (Kd.jz HO108.out)
               have n1_ := qq.mk (Kd.kv HO112.out)
               have n2_ := qq.mk (Kd.jz HO115.out)
               have n3_ := qq.mk (Kd.jz HO120.out)
               have n4_ := qq.mk (Kd.kv HO125.out)
               have n5_ := qq.mk (Kd.jz HO128.out)
               have n6_ := qq.mk (zj BK101.out)
               have n7_ := qq.mk (zj BK122.out)
               have n8_ := qq.mk (qk HB.out)
               clear HO108
               clear HO112
               clear HO115
               clear HO120
               clear HO125
               clear HO128
               clear BK101
               clear BK122
               clear HB
               have HO108 := n0_
               have HO112 := n1_
               have HO115 := n2_
               have HO120 := n3_
               have HO125 := n4_
               have HO128 := n5_
               have BK101 := n6_
               have BK122 := n7_
               have HB := n8_
               clear n0_ n1_ n2_ n3_ n4_ n5_ n6_ n7_ n8_
               refine start_ (n := 5) (S := fun w' => w'.cell? ⟨gb122,0,none⟩ = some (.int .i64 t116) ∧ w'.cell? ⟨gb122,1,none⟩ = some (.int .i64 t117) ∧ w'.cell? ⟨gb122,2,none⟩ = some (.slice Ao66 t118.length co66) ∧ w'.cell? ⟨gb122,3,none⟩ = some (.int .i64 t121) ∧ w'.cell? ⟨gb101,0,none⟩ = some (.int .i64 a0_0) ∧ w'.cell? ⟨gb101,1,none⟩ = some (.int .i64 a0_1) ∧ w'.cell? ⟨gb101,2,none⟩ = some (.slice A0_2 l0_2.length c0_2) ∧ w'.cell? ⟨gb101,3,none⟩ = some (.int .i64 a0_3)) (ds := []) #[false,false,false,false,false] (by kernel_rfl) rfl rfl ⟨(qw BK122.out 0).trans rfl,(qw BK122.out 1).trans rfl,(qw BK122.out 2).trans rfl,(qw BK122.out 3).trans rfl,(qw BK101.out 0).trans rfl,(qw BK101.out 1).trans rfl,(qw BK101.out 2).trans rfl,(qw BK101.out 3).trans rfl⟩ (fun hHeld => ?_)
               generalize w70.drew = w73 at HO108 HO112 HO115 HO120 HO125 HO128 BK101 BK122 HB hHeld ⊢
               refine take_ (i := 0) (N := some 54) (v := ?_) (a' := ?_) #[true,false,false,false,false] rfl rfl (by kernel_rfl) (fun _ _ _ h => h) (Or.inl ⟨by rfl,?_⟩) hHeld ?_ ?_
               rotate_left
               ·rintro w' ⟨s0,s1,s2,s3,s4,s5,s6,s7⟩
                go_simp
                with_reducible rfl
               rotate_left
               ·simp only [Act.put,List.setIfInBounds_toArray,List.set_cons_zero,List.set_cons_succ,i64_w,i32_w]
                rfl
               refine take_ (i := 1) (N := some 55) (v := ?_) (a' := ?_) #[true,true,false,false,false] rfl rfl (by kernel_rfl) (fun _ _ _ h => h) (Or.inl ⟨by rfl,?_⟩) hHeld ?_ ?_
               rotate_left
               ·rintro w' ⟨s0,s1,s2,s3,s4,s5,s6,s7⟩
                go_simp
                with_reducible rfl
               rotate_left
               ·simp only [Act.put,List.setIfInBounds_toArray,List.set_cons_zero,List.set_cons_succ,i64_w,i32_w]
                rfl
               refine one_ (i := 2) (N := some 56) #[true,true,true,false,false] rfl rfl (by kernel_rfl) (by decide) (fun K hK => ?_)
               refine goes_ Try.func24 (by kernel_rfl) rfl #[.agg #[.int .i64 a0_0,.int .i64 a0_1,.slice A0_2 l0_2.length c0_2,.int .i64 a0_3]] (by rfl) rfl rfl (by (try simp only [List.map_toArray,List.map_cons,List.map_nil]);first | done | rfl | (simp only [List.length_drop,List.length_take];rfl)) ?_
               with_reducible refine (qjv.calls k a0_0 a0_1 _ _ l0_2 a0_3 t130 t131 t132 t135 _ ?side1 ?side2 A28.out).mono ?_
               (case side1 => repeat (first | exact (Kd.C_below HR0_2.out HB.out) | (with_reducible refine Kd.C_alloc ?_ _) | (with_reducible refine Kd.C_drewN ?_ _) | (with_reducible refine Kd.C_drew ?_)))
               (case side2 => exact HC0_2.out)
               rintro e w74 ⟨v133,rfl,ho0,hb⟩
               refine ⟨_,rfl,?_⟩
               have n0_ := qq.mk (Kd.R_elder' (by (with_reducible repeat (first | apply Kd.jq | apply Kd.zx | apply Kd.jz));exact HO108.out) (Kd.R_base ho0) hb)
               have n1_ := qq.mk (Kd.S_below (by (with_reducible repeat (first | apply Kd.kk | apply Kd.kj | apply Kd.kv));exact HO112.out) hb)
               have n2_ := qq.mk (Kd.R_below (by (with_reducible repeat (first | apply Kd.jq | apply Kd.zx | apply Kd.jz));exact HO115.out) hb)
               have n3_ := qq.mk (Kd.R_elder' (by (with_reducible repeat (first | apply Kd.jq | apply Kd.zx | apply Kd.jz));exact HO120.out) (Kd.R_base ho0) hb)
               have n4_ := qq.mk (Kd.S_below (by (with_reducible repeat (first | apply Kd.kk | apply Kd.kj | apply Kd.kv));exact HO125.out) hb)
               have n5_ := qq.mk (Kd.R_below (by (with_reducible repeat (first | apply Kd.jq | apply Kd.zx | apply Kd.jz));exact HO128.out) hb)
               have n6_ := qq.mk (Kd.R_lower (Kd.R_new' (Kd.R_new' ho0 (Kd.R_lt (by (with_reducible repeat (first | apply Kd.jq | apply Kd.zx | apply Kd.jz));exact HO108.out))) (Kd.R_lt (by (with_reducible repeat (first | apply Kd.jq | apply Kd.zx | apply Kd.jz));exact HO120.out))) (zw (by repeat (first | (with_reducible first | exact HB.out | apply qj | apply qz | apply qk | refine qx ?_ GE101.out | refine qx ?_ GE122.out) | exact HB.out))))
               have n7_ := qq.mk (vz (g := gb101) (o := .cells #[.int .i64 a0_0,.int .i64 a0_1,.slice A0_2 l0_2.length c0_2,.int .i64 a0_3] 47 (0,0)) (by (with_reducible repeat (first | refine zz ?_ _ | refine zj ?_ | refine zq ?_ _));exact BK101.out) hb)
               have n8_ := qq.mk (vz (g := gb122) (o := .cells #[.int .i64 t116,.int .i64 t117,.slice Ao66 t118.length co66,.int .i64 t121] 53 (0,0)) (by (with_reducible repeat (first | refine zz ?_ _ | refine zj ?_ | refine zq ?_ _));exact BK122.out) hb)
               have n9_ := qq.mk (zv (by repeat (first | (with_reducible first | exact HB.out | apply qj | apply qz | apply qk | refine qx ?_ GE101.out | refine qx ?_ GE122.out) | exact HB.out)) hb)
               clear HO108
               clear HO112
               clear HO115
               clear HO120
               clear HO125
               clear HO128
               clear BK101
               clear BK122
               clear HB
               have HO108 := n0_
               have HO112 := n1_
               have HO115 := n2_
               have HO120 := n3_
               have HO125 := n4_
               have HO128 := n5_
               have HO134 := n6_
               have BK101 := n7_
               have BK122 := n8_
               have HB := n9_
               clear n0_ n1_ n2_ n3_ n4_ n5_ n6_ n7_ n8_ n9_
               (try clear hb)
               (try clear hb2)
               (try clear hk)
               (try clear hi)
               (try clear ho0)
               obtain ⟨Ao75,co75,eo75⟩ := Kd.R_slice HO134.out
               (first | subst eo75 | (injection eo75 with f1_ f2_ f3_;have f4_ := f1_.symm;have f5_ := f3_.symm;clear f1_ f2_ f3_;subst f4_;subst f5_))
               refine hK.out _ _ ⟨(qw BK122.out 0).trans rfl,(qw BK122.out 1).trans rfl,(qw BK122.out 2).trans rfl,(qw BK122.out 3).trans rfl,(qw BK101.out 0).trans rfl,(qw BK101.out 1).trans rfl,(qw BK101.out 2).trans rfl,(qw BK101.out 3).trans rfl⟩ (fun hHeld => ?_)
               clear hK K
               refine norm_ (a' := ?_) ?_ ?_
               rotate_left
               ·show Act.put _ (some 56) _ = _
                simp only [Act.put,List.setIfInBounds_toArray,List.set_cons_zero,List.set_cons_succ,i64_w,i32_w]
                rfl
               refine one_ (i := 3) (N := some 57) #[true,true,true,true,false] rfl rfl (by kernel_rfl) (by decide) (fun K hK => ?_)
               refine goes_ Try.func28 (by kernel_rfl) rfl #[.agg #[.int .i64 t116,.int .i64 t117,.slice Ao66 t118.length co66,.int .i64 t121],.agg #[.int .i64 t130,.int .i64 t131,.slice Ao75 t132.length co75,.int .i64 t135]] (by rfl) rfl rfl (by (try simp only [List.map_toArray,List.map_cons,List.map_nil]);first | done | rfl | (simp only [List.length_drop,List.length_take];rfl)) ?_
               with_reducible refine (qqj.calls k t116 t117 _ _ t118 t121 t130 t131 _ _ t132 t135 true _ ?side1 ?side2 ?side3 ?side4 A29.out).mono ?_
               (case side1 => repeat (first | exact (Kd.R_reads' HO120.out).2.2 | (with_reducible refine Kd.C_alloc ?_ _) | (with_reducible refine Kd.C_drewN ?_ _) | (with_reducible refine Kd.C_drew ?_)))
               (case side2 => exact (Kd.R_reads' HO120.out).2.1)
               (case side3 => repeat (first | exact (Kd.R_reads' HO134.out).2.2 | (with_reducible refine Kd.C_alloc ?_ _) | (with_reducible refine Kd.C_drewN ?_ _) | (with_reducible refine Kd.C_drew ?_)))
               (case side4 => exact (Kd.R_reads' HO134.out).2.1)
               rintro e w76 ⟨rfl,hb⟩
               refine ⟨_,rfl,?_⟩
               have n0_ := qq.mk (Kd.R_below (by (with_reducible repeat (first | apply Kd.jq | apply Kd.zx | apply Kd.jz));exact HO108.out) hb)
               have n1_ := qq.mk (Kd.S_below (by (with_reducible repeat (first | apply Kd.kk | apply Kd.kj | apply Kd.kv));exact HO112.out) hb)
               have n2_ := qq.mk (Kd.R_below (by (with_reducible repeat (first | apply Kd.jq | apply Kd.zx | apply Kd.jz));exact HO115.out) hb)
               have n3_ := qq.mk (Kd.R_below (by (with_reducible repeat (first | apply Kd.jq | apply Kd.zx | apply Kd.jz));exact HO120.out) hb)
               have n4_ := qq.mk (Kd.S_below (by (with_reducible repeat (first | apply Kd.kk | apply Kd.kj | apply Kd.kv));exact HO125.out) hb)
               have n5_ := qq.mk (Kd.R_below (by (with_reducible repeat (first | apply Kd.jq | apply Kd.zx | apply Kd.jz));exact HO128.out) hb)
               have n6_ := qq.mk (Kd.R_below (by (with_reducible repeat (first | apply Kd.jq | apply Kd.zx | apply Kd.jz));exact HO134.out) hb)
               have n7_ := qq.mk (vz (g := gb101) (o := .cells #[.int .i64 a0_0,.int .i64 a0_1,.slice A0_2 l0_2.length c0_2,.int .i64 a0_3] 47 (0,0)) (by (with_reducible repeat (first | refine zz ?_ _ | refine zj ?_ | refine zq ?_ _));exact BK101.out) hb)
               have n8_ := qq.mk (vz (g := gb122) (o := .cells #[.int .i64 t116,.int .i64 t117,.slice Ao66 t118.length co66,.int .i64 t121] 53 (0,0)) (by (with_reducible repeat (first | refine zz ?_ _ | refine zj ?_ | refine zq ?_ _));exact BK122.out) hb)
               have n9_ := qq.mk (zv (by repeat (first | (with_reducible first | exact HB.out | apply qj | apply qz | apply qk | refine qx ?_ GE101.out | refine qx ?_ GE122.out) | exact HB.out)) hb)
               clear HO108
               clear HO112
               clear HO115
               clear HO120
               clear HO125
               clear HO128
               clear HO134
               clear BK101
               clear BK122
               clear HB
               have HO108 := n0_
               have HO112 := n1_
               have HO115 := n2_
               have HO120 := n3_
               have HO125 := n4_
               have HO128 := n5_
               have HO134 := n6_
               have BK101 := n7_
               have BK122 := n8_
               have HB := n9_
               clear n0_ n1_ n2_ n3_ n4_ n5_ n6_ n7_ n8_ n9_
               (try clear hb)
               (try clear hb2)
               (try clear hk)
               (try clear hi)
               refine hK.out _ _ ⟨(qw BK122.out 0).trans rfl,(qw BK122.out 1).trans rfl,(qw BK122.out 2).trans rfl,(qw BK122.out 3).trans rfl,(qw BK101.out 0).trans rfl,(qw BK101.out 1).trans rfl,(qw BK101.out 2).trans rfl,(qw BK101.out 3).trans rfl⟩ (fun hHeld => ?_)
               clear hK K
               refine norm_ (a' := ?_) ?_ ?_
               rotate_left
               ·show Act.put _ (some 57) _ = _
                simp only [Act.put,List.setIfInBounds_toArray,List.set_cons_zero,List.set_cons_succ,i64_w,i32_w]
                rfl
               refine pure_ (i := 4) (N := some 58) (v := ?_) (a' := ?_) #[true,true,true,true,true] rfl rfl (by kernel_rfl) (fun _ _ _ h => h) (Or.inl ⟨by rfl,?_⟩) ?_ ?_
               rotate_left
               ·intro w'
                go_simp
                with_reducible rfl
               rotate_left
               ·simp only [Act.put,List.setIfInBounds_toArray,List.set_cons_zero,List.set_cons_succ,i64_w,i32_w]
                rfl
               refine done_ (by kernel_rfl) ?_
               try go_wp2_with (first | ((with_reducible refine jv (f := 25) rfl ?_);refine goesL_ (some 61) rfl rfl Try.func25 (by kernel_rfl) rfl #[.slice A3 l3.length c3] rfl (by (try simp only [List.map_toArray,List.map_cons,List.map_nil]);first | done | rfl | (simp only [List.length_drop,List.length_take];rfl)) ?_;(with_reducible refine (qjx.calls k _ _ l3 t137 _ ?side1 ?side2 A31.out).mono ?_);(case side1 => repeat (first | exact (Kd.C_below HR3.out HB.out) | (with_reducible refine Kd.C_alloc ?_ _) | (with_reducible refine Kd.C_drewN ?_ _) | (with_reducible refine Kd.C_drew ?_)));(case side2 => exact HC3.out);rintro e w77 ⟨v138,rfl,ho0,hb⟩;refine ⟨_,rfl,?_⟩;have n0_ := qq.mk (Kd.R_below (by (with_reducible repeat (first | apply Kd.jq | apply Kd.zx | apply Kd.jz));exact HO108.out) hb);have n1_ := qq.mk (Kd.S_elder' (by (with_reducible repeat (first | apply Kd.kk | apply Kd.kj | apply Kd.kv));exact HO112.out) (Kd.S_base ho0) hb);have n2_ := qq.mk (Kd.R_below (by (with_reducible repeat (first | apply Kd.jq | apply Kd.zx | apply Kd.jz));exact HO115.out) hb);have n3_ := qq.mk (Kd.R_below (by (with_reducible repeat (first | apply Kd.jq | apply Kd.zx | apply Kd.jz));exact HO120.out) hb);have n4_ := qq.mk (Kd.S_elder' (by (with_reducible repeat (first | apply Kd.kk | apply Kd.kj | apply Kd.kv));exact HO125.out) (Kd.S_base ho0) hb);have n5_ := qq.mk (Kd.R_below (by (with_reducible repeat (first | apply Kd.jq | apply Kd.zx | apply Kd.jz));exact HO128.out) hb);have n6_ := qq.mk (Kd.R_below (by (with_reducible repeat (first | apply Kd.jq | apply Kd.zx | apply Kd.jz));exact HO134.out) hb);have n7_ := qq.mk (Kd.S_lower (Kd.S_new' (Kd.S_new' ho0 (Kd.S_lt (by (with_reducible repeat (first | apply Kd.kk | apply Kd.kj | apply Kd.kv));exact HO112.out))) (Kd.S_lt (by (with_reducible repeat (first | apply Kd.kk | apply Kd.kj | apply Kd.kv));exact HO125.out))) (zw (by repeat (first | (with_reducible first | exact HB.out | apply qj | apply qz | apply qk | refine qx ?_ GE101.out | refine qx ?_ GE122.out) | exact HB.out))));have n8_ := qq.mk (vz (g := gb101) (o := .cells #[.int .i64 a0_0,.int .i64 a0_1,.slice A0_2 l0_2.length c0_2,.int .i64 a0_3] 47 (0,0)) (by (with_reducible repeat (first | refine zz ?_ _ | refine zj ?_ | refine zq ?_ _));exact BK101.out) hb);have n9_ := qq.mk (vz (g := gb122) (o := .cells #[.int .i64 t116,.int .i64 t117,.slice Ao66 t118.length co66,.int .i64 t121] 53 (0,0)) (by (with_reducible repeat (first | refine zz ?_ _ | refine zj ?_ | refine zq ?_ _));exact BK122.out) hb);have n10_ := qq.mk (zv (by repeat (first | (with_reducible first | exact HB.out | apply qj | apply qz | apply qk | refine qx ?_ GE101.out | refine qx ?_ GE122.out) | exact HB.out)) hb);clear HO108;clear HO112;clear HO115;clear HO120;clear HO125;clear HO128;clear HO134;clear BK101;clear BK122;clear HB;have HO108 := n0_;have HO112 := n1_;have HO115 := n2_;have HO120 := n3_;have HO125 := n4_;have HO128 := n5_;have HO134 := n6_;have HO139 := n7_;have BK101 := n8_;have BK122 := n9_;have HB := n10_;clear n0_ n1_ n2_ n3_ n4_ n5_ n6_ n7_ n8_ n9_ n10_;(try clear hb);(try clear hb2);(try clear hk);(try clear hi);(try clear ho0);obtain ⟨Ao78,co78,eo78⟩ := Kd.S_slice HO139.out;subst eo78) | ((with_reducible refine jv (f := 29) rfl ?_);refine goesL_ (some 62) rfl rfl Try.func29 (by kernel_rfl) rfl #[.slice Ao69 t123.length co69,.slice Ao78 t137.length co78] rfl (by (try simp only [List.map_toArray,List.map_cons,List.map_nil]);first | done | rfl | (simp only [List.length_drop,List.length_take];rfl)) ?_;(with_reducible refine (qqv.calls k _ _ t123 _ _ t137 true _ ?side1 ?side2 ?side3 ?side4 A32.out).mono ?_);(case side1 => repeat (first | exact (Kd.S_reads' HO125.out).2.2 | (with_reducible refine Kd.C_alloc ?_ _) | (with_reducible refine Kd.C_drewN ?_ _) | (with_reducible refine Kd.C_drew ?_)));(case side2 => exact (Kd.S_reads' HO125.out).2.1);(case side3 => repeat (first | exact (Kd.S_reads' HO139.out).2.2 | (with_reducible refine Kd.C_alloc ?_ _) | (with_reducible refine Kd.C_drewN ?_ _) | (with_reducible refine Kd.C_drew ?_)));(case side4 => exact (Kd.S_reads' HO139.out).2.1);rintro e w79 ⟨rfl,hb⟩;refine ⟨_,rfl,?_⟩;have n0_ := qq.mk (Kd.R_below (by (with_reducible repeat (first | apply Kd.jq | apply Kd.zx | apply Kd.jz));exact HO108.out) hb);have n1_ := qq.mk (Kd.S_below (by (with_reducible repeat (first | apply Kd.kk | apply Kd.kj | apply Kd.kv));exact HO112.out) hb);have n2_ := qq.mk (Kd.R_below (by (with_reducible repeat (first | apply Kd.jq | apply Kd.zx | apply Kd.jz));exact HO115.out) hb);have n3_ := qq.mk (Kd.R_below (by (with_reducible repeat (first | apply Kd.jq | apply Kd.zx | apply Kd.jz));exact HO120.out) hb);have n4_ := qq.mk (Kd.S_below (by (with_reducible repeat (first | apply Kd.kk | apply Kd.kj | apply Kd.kv));exact HO125.out) hb);have n5_ := qq.mk (Kd.R_below (by (with_reducible repeat (first | apply Kd.jq | apply Kd.zx | apply Kd.jz));exact HO128.out) hb);have n6_ := qq.mk (Kd.R_below (by (with_reducible repeat (first | apply Kd.jq | apply Kd.zx | apply Kd.jz));exact HO134.out) hb);have n7_ := qq.mk (Kd.S_below (by (with_reducible repeat (first | apply Kd.kk | apply Kd.kj | apply Kd.kv));exact HO139.out) hb);have n8_ := qq.mk (vz (g := gb101) (o := .cells #[.int .i64 a0_0,.int .i64 a0_1,.slice A0_2 l0_2.length c0_2,.int .i64 a0_3] 47 (0,0)) (by (with_reducible repeat (first | refine zz ?_ _ | refine zj ?_ | refine zq ?_ _));exact BK101.out) hb);have n9_ := qq.mk (vz (g := gb122) (o := .cells #[.int .i64 t116,.int .i64 t117,.slice Ao66 t118.length co66,.int .i64 t121] 53 (0,0)) (by (with_reducible repeat (first | refine zz ?_ _ | refine zj ?_ | refine zq ?_ _));exact BK122.out) hb);have n10_ := qq.mk (zv (by repeat (first | (with_reducible first | exact HB.out | apply qj | apply qz | apply qk | refine qx ?_ GE101.out | refine qx ?_ GE122.out) | exact HB.out)) hb);clear HO108;clear HO112;clear HO115;clear HO120;clear HO125;clear HO128;clear HO134;clear HO139;clear BK101;clear BK122;clear HB;have HO108 := n0_;have HO112 := n1_;have HO115 := n2_;have HO120 := n3_;have HO125 := n4_;have HO128 := n5_;have HO134 := n6_;have HO139 := n7_;have BK101 := n8_;have BK122 := n9_;have HB := n10_;clear n0_ n1_ n2_ n3_ n4_ n5_ n6_ n7_ n8_ n9_ n10_;(try clear hb);(try clear hb2);(try clear hk);(try clear hi);have hcz80_0 : w79.cell? ⟨gb122,0,none⟩ = some (.int .i64 t116) := (qw BK122.out 0).trans rfl;have hcz80_1 : w79.cell? ⟨gb122,1,none⟩ = some (.int .i64 t117) := (qw BK122.out 1).trans rfl;have hcz80_2 : w79.cell? ⟨gb122,2,none⟩ = some (.slice Ao66 t118.length co66) := (qw BK122.out 2).trans rfl;have hcz80_3 : w79.cell? ⟨gb122,3,none⟩ = some (.int .i64 t121) := (qw BK122.out 3).trans rfl;have hfz80_0 := qv BK122.out 0;have hfz80_1 := qv BK122.out 1;have hfz80_2 := qv BK122.out 2;have hfz80_3 := qv BK122.out 3) | ((with_reducible refine jv (f := 30) rfl ?_);refine goesL_ (some 66) rfl rfl Try.func30 (by kernel_rfl) rfl #[.agg #[.int .i64 t116,.int .i64 t117,.slice Ao66 t118.length co66,.int .i64 t121],.int .i64 1] rfl (by (try simp only [List.map_toArray,List.map_cons,List.map_nil]);first | done | rfl | (simp only [List.length_drop,List.length_take];rfl)) ?_;(with_reducible refine (qzz.calls k t116 t117 (fun k_ => some k_ = (.slice Ao66 t118.length co66 : Value).ownBlock) (.slice Ao66 t118.length co66) t118 t121 1 t141 t142 w _ ?side1 ?side2 A34.out).mono ?_);(case side1 => repeat (first | (with_reducible first | exact HB.out | apply qj | apply qz | apply qk | refine qx ?_ GE101.out | refine qx ?_ GE122.out) | exact HB.out));(case side2 => exact Kd.R_tight rfl HO120.out);rintro e w81 ⟨rfl,hy0,hb,hkp⟩;refine ⟨_,rfl,?_⟩;have n0_ := qq.mk (blk_kept (by (with_reducible repeat (first | refine zz ?_ _ | refine zj ?_ | refine zq ?_ _));exact BK101.out) hkp (fun hs_ => (fun e_ => (Kd.R_ne HO120.out BK101.out (by decide)) e_) hs_));have n1_ := qq.mk (Kd.R_mono (ok' := fun k_ => some k_ ≠ (.slice Ao66 t118.length co66 : Value).ownBlock ∧ some k_ ≠ (.slice Ao75 t132.length co75 : Value).ownBlock) (Kd.R_keptB (HO108.out) hkp (fun k_ hk_ hs_ => absurd hs_ (by first | exact hk_.1.2 | ((try simp only [and_assoc] at hk_);first | exact hk_.1 | exact hk_.2.1 | exact hk_.2.2.1 | exact hk_.2.2.2.1 | exact hk_.2.2.2.2.1 | exact hk_.2.2.2.2.2.1 | exact hk_.2.2.2.2.2.2.1 | exact hk_.2.2.2.2.2.2.2.1 | exact hk_.2.2.2.2.2.2.2.2.1 | exact hk_.2.2.2.2.2.2.2.2.2.1 | exact hk_.2.2.2.2.2.2.2.2.2.2.1 | exact hk_.2.2.2.2.2.2.2.2.2.2.2.1 | exact hk_.2.2.2.2.2.2.2.2.2.2.2.2.1 | exact hk_.2.2.2.2.2.2.2.2.2.2.2.2.2.1 | exact hk_.2.2.2.2.2.2.2.2.2.2.2.2.2.2.1 | exact hk_.2.2.2.2.2.2.2.2.2.2.2.2.2.2.2.1 | exact hk_.2 | exact hk_.2.2 | exact hk_.2.2.2 | exact hk_.2.2.2.2 | exact hk_.2.2.2.2.2 | exact hk_.2.2.2.2.2.2 | exact hk_.2.2.2.2.2.2.2 | exact hk_.2.2.2.2.2.2.2.2 | exact hk_.2.2.2.2.2.2.2.2.2 | exact hk_.2.2.2.2.2.2.2.2.2.2 | exact hk_.2.2.2.2.2.2.2.2.2.2.2 | exact hk_.2.2.2.2.2.2.2.2.2.2.2.2 | exact hk_.2.2.2.2.2.2.2.2.2.2.2.2.2 | exact hk_.2.2.2.2.2.2.2.2.2.2.2.2.2.2 | exact hk_.2.2.2.2.2.2.2.2.2.2.2.2.2.2.2)))) (fun k_ hk_ => by first | exact ⟨hk_.1.1.2,hk_.1.2⟩ | ((try simp only [and_assoc] at hk_);(try simp only [and_assoc]);(repeat' refine And.intro ?_ ?_) <;> (first | exact hk_.1 | exact hk_.2.1 | exact hk_.2.2.1 | exact hk_.2.2.2.1 | exact hk_.2.2.2.2.1 | exact hk_.2.2.2.2.2.1 | exact hk_.2.2.2.2.2.2.1 | exact hk_.2.2.2.2.2.2.2.1 | exact hk_.2.2.2.2.2.2.2.2.1 | exact hk_.2.2.2.2.2.2.2.2.2.1 | exact hk_.2.2.2.2.2.2.2.2.2.2.1 | exact hk_.2.2.2.2.2.2.2.2.2.2.2.1 | exact hk_.2.2.2.2.2.2.2.2.2.2.2.2.1 | exact hk_.2.2.2.2.2.2.2.2.2.2.2.2.2.1 | exact hk_.2.2.2.2.2.2.2.2.2.2.2.2.2.2.1 | exact hk_.2.2.2.2.2.2.2.2.2.2.2.2.2.2.2.1 | exact hk_.2 | exact hk_.2.2 | exact hk_.2.2.2 | exact hk_.2.2.2.2 | exact hk_.2.2.2.2.2 | exact hk_.2.2.2.2.2.2 | exact hk_.2.2.2.2.2.2.2 | exact hk_.2.2.2.2.2.2.2.2 | exact hk_.2.2.2.2.2.2.2.2.2 | exact hk_.2.2.2.2.2.2.2.2.2.2 | exact hk_.2.2.2.2.2.2.2.2.2.2.2 | exact hk_.2.2.2.2.2.2.2.2.2.2.2.2 | exact hk_.2.2.2.2.2.2.2.2.2.2.2.2.2 | exact hk_.2.2.2.2.2.2.2.2.2.2.2.2.2.2 | exact hk_.2.2.2.2.2.2.2.2.2.2.2.2.2.2.2))));have n2_ := qq.mk (Kd.S_mono (ok' := fun k_ => some k_ ≠ (.slice Ao69 t123.length co69 : Value).ownBlock ∧ some k_ ≠ (.slice Ao78 t137.length co78 : Value).ownBlock) (Kd.S_keptB ((Kd.S_apart' HO112.out (Kd.R_typed HO120.out) (by decide))) hkp (fun k_ hk_ hs_ => absurd hs_ (by first | exact hk_.2 | ((try simp only [and_assoc] at hk_);first | exact hk_.1 | exact hk_.2.1 | exact hk_.2.2.1 | exact hk_.2.2.2.1 | exact hk_.2.2.2.2.1 | exact hk_.2.2.2.2.2.1 | exact hk_.2.2.2.2.2.2.1 | exact hk_.2.2.2.2.2.2.2.1 | exact hk_.2.2.2.2.2.2.2.2.1 | exact hk_.2.2.2.2.2.2.2.2.2.1 | exact hk_.2.2.2.2.2.2.2.2.2.2.1 | exact hk_.2.2.2.2.2.2.2.2.2.2.2.1 | exact hk_.2.2.2.2.2.2.2.2.2.2.2.2.1 | exact hk_.2.2.2.2.2.2.2.2.2.2.2.2.2.1 | exact hk_.2.2.2.2.2.2.2.2.2.2.2.2.2.2.1 | exact hk_.2.2.2.2.2.2.2.2.2.2.2.2.2.2.2.1 | exact hk_.2 | exact hk_.2.2 | exact hk_.2.2.2 | exact hk_.2.2.2.2 | exact hk_.2.2.2.2.2 | exact hk_.2.2.2.2.2.2 | exact hk_.2.2.2.2.2.2.2 | exact hk_.2.2.2.2.2.2.2.2 | exact hk_.2.2.2.2.2.2.2.2.2 | exact hk_.2.2.2.2.2.2.2.2.2.2 | exact hk_.2.2.2.2.2.2.2.2.2.2.2 | exact hk_.2.2.2.2.2.2.2.2.2.2.2.2 | exact hk_.2.2.2.2.2.2.2.2.2.2.2.2.2 | exact hk_.2.2.2.2.2.2.2.2.2.2.2.2.2.2 | exact hk_.2.2.2.2.2.2.2.2.2.2.2.2.2.2.2)))) (fun k_ hk_ => by first | exact ⟨hk_.1.1.1.2,hk_.1.1.2⟩ | ((try simp only [and_assoc] at hk_);(try simp only [and_assoc]);(repeat' refine And.intro ?_ ?_) <;> (first | exact hk_.1 | exact hk_.2.1 | exact hk_.2.2.1 | exact hk_.2.2.2.1 | exact hk_.2.2.2.2.1 | exact hk_.2.2.2.2.2.1 | exact hk_.2.2.2.2.2.2.1 | exact hk_.2.2.2.2.2.2.2.1 | exact hk_.2.2.2.2.2.2.2.2.1 | exact hk_.2.2.2.2.2.2.2.2.2.1 | exact hk_.2.2.2.2.2.2.2.2.2.2.1 | exact hk_.2.2.2.2.2.2.2.2.2.2.2.1 | exact hk_.2.2.2.2.2.2.2.2.2.2.2.2.1 | exact hk_.2.2.2.2.2.2.2.2.2.2.2.2.2.1 | exact hk_.2.2.2.2.2.2.2.2.2.2.2.2.2.2.1 | exact hk_.2.2.2.2.2.2.2.2.2.2.2.2.2.2.2.1 | exact hk_.2 | exact hk_.2.2 | exact hk_.2.2.2 | exact hk_.2.2.2.2 | exact hk_.2.2.2.2.2 | exact hk_.2.2.2.2.2.2 | exact hk_.2.2.2.2.2.2.2 | exact hk_.2.2.2.2.2.2.2.2 | exact hk_.2.2.2.2.2.2.2.2.2 | exact hk_.2.2.2.2.2.2.2.2.2.2 | exact hk_.2.2.2.2.2.2.2.2.2.2.2 | exact hk_.2.2.2.2.2.2.2.2.2.2.2.2 | exact hk_.2.2.2.2.2.2.2.2.2.2.2.2.2 | exact hk_.2.2.2.2.2.2.2.2.2.2.2.2.2.2 | exact hk_.2.2.2.2.2.2.2.2.2.2.2.2.2.2.2))));have n3_ := qq.mk (Kd.R_mono (ok' := fun k_ => some k_ ≠ (.slice Ao71 t126.length co71 : Value).ownBlock) (Kd.R_keptB ((Kd.R_apart' HO115.out (Kd.R_typed HO120.out) (by decide))) hkp (fun k_ hk_ hs_ => absurd hs_ (by first | exact hk_.2 | ((try simp only [and_assoc] at hk_);first | exact hk_.1 | exact hk_.2.1 | exact hk_.2.2.1 | exact hk_.2.2.2.1 | exact hk_.2.2.2.2.1 | exact hk_.2.2.2.2.2.1 | exact hk_.2.2.2.2.2.2.1 | exact hk_.2.2.2.2.2.2.2.1 | exact hk_.2.2.2.2.2.2.2.2.1 | exact hk_.2.2.2.2.2.2.2.2.2.1 | exact hk_.2.2.2.2.2.2.2.2.2.2.1 | exact hk_.2.2.2.2.2.2.2.2.2.2.2.1 | exact hk_.2.2.2.2.2.2.2.2.2.2.2.2.1 | exact hk_.2.2.2.2.2.2.2.2.2.2.2.2.2.1 | exact hk_.2.2.2.2.2.2.2.2.2.2.2.2.2.2.1 | exact hk_.2.2.2.2.2.2.2.2.2.2.2.2.2.2.2.1 | exact hk_.2 | exact hk_.2.2 | exact hk_.2.2.2 | exact hk_.2.2.2.2 | exact hk_.2.2.2.2.2 | exact hk_.2.2.2.2.2.2 | exact hk_.2.2.2.2.2.2.2 | exact hk_.2.2.2.2.2.2.2.2 | exact hk_.2.2.2.2.2.2.2.2.2 | exact hk_.2.2.2.2.2.2.2.2.2.2 | exact hk_.2.2.2.2.2.2.2.2.2.2.2 | exact hk_.2.2.2.2.2.2.2.2.2.2.2.2 | exact hk_.2.2.2.2.2.2.2.2.2.2.2.2.2 | exact hk_.2.2.2.2.2.2.2.2.2.2.2.2.2.2 | exact hk_.2.2.2.2.2.2.2.2.2.2.2.2.2.2.2)))) (fun k_ hk_ => by first | exact hk_.1.1.2 | ((try simp only [and_assoc] at hk_);(try simp only [and_assoc]);(repeat' refine And.intro ?_ ?_) <;> (first | exact hk_.1 | exact hk_.2.1 | exact hk_.2.2.1 | exact hk_.2.2.2.1 | exact hk_.2.2.2.2.1 | exact hk_.2.2.2.2.2.1 | exact hk_.2.2.2.2.2.2.1 | exact hk_.2.2.2.2.2.2.2.1 | exact hk_.2.2.2.2.2.2.2.2.1 | exact hk_.2.2.2.2.2.2.2.2.2.1 | exact hk_.2.2.2.2.2.2.2.2.2.2.1 | exact hk_.2.2.2.2.2.2.2.2.2.2.2.1 | exact hk_.2.2.2.2.2.2.2.2.2.2.2.2.1 | exact hk_.2.2.2.2.2.2.2.2.2.2.2.2.2.1 | exact hk_.2.2.2.2.2.2.2.2.2.2.2.2.2.2.1 | exact hk_.2.2.2.2.2.2.2.2.2.2.2.2.2.2.2.1 | exact hk_.2 | exact hk_.2.2 | exact hk_.2.2.2 | exact hk_.2.2.2.2 | exact hk_.2.2.2.2.2 | exact hk_.2.2.2.2.2.2 | exact hk_.2.2.2.2.2.2.2 | exact hk_.2.2.2.2.2.2.2.2 | exact hk_.2.2.2.2.2.2.2.2.2 | exact hk_.2.2.2.2.2.2.2.2.2.2 | exact hk_.2.2.2.2.2.2.2.2.2.2.2 | exact hk_.2.2.2.2.2.2.2.2.2.2.2.2 | exact hk_.2.2.2.2.2.2.2.2.2.2.2.2.2 | exact hk_.2.2.2.2.2.2.2.2.2.2.2.2.2.2 | exact hk_.2.2.2.2.2.2.2.2.2.2.2.2.2.2.2))));have n4_ := qq.mk (Kd.R_reok rfl hy0 (fun k_ e_ => HO120.out.1 k_ e_));have n5_ := qq.mk (blk_kept (by (with_reducible repeat (first | refine zz ?_ _ | refine zj ?_ | refine zq ?_ _));exact BK122.out) hkp (fun hs_ => (fun e_ => (Kd.R_ne HO120.out BK122.out (by decide)) e_) hs_));have n6_ := qq.mk (Kd.S_mono (ok' := fun k_ => some k_ ≠ (.slice Ao59 t110.length co59 : Value).ownBlock ∧ some k_ ≠ (.slice Ao78 t137.length co78 : Value).ownBlock) (Kd.S_keptB ((Kd.S_apart' HO125.out (Kd.R_typed HO120.out) (by decide))) hkp (fun k_ hk_ hs_ => absurd hs_ (by first | exact hk_.2 | ((try simp only [and_assoc] at hk_);first | exact hk_.1 | exact hk_.2.1 | exact hk_.2.2.1 | exact hk_.2.2.2.1 | exact hk_.2.2.2.2.1 | exact hk_.2.2.2.2.2.1 | exact hk_.2.2.2.2.2.2.1 | exact hk_.2.2.2.2.2.2.2.1 | exact hk_.2.2.2.2.2.2.2.2.1 | exact hk_.2.2.2.2.2.2.2.2.2.1 | exact hk_.2.2.2.2.2.2.2.2.2.2.1 | exact hk_.2.2.2.2.2.2.2.2.2.2.2.1 | exact hk_.2.2.2.2.2.2.2.2.2.2.2.2.1 | exact hk_.2.2.2.2.2.2.2.2.2.2.2.2.2.1 | exact hk_.2.2.2.2.2.2.2.2.2.2.2.2.2.2.1 | exact hk_.2.2.2.2.2.2.2.2.2.2.2.2.2.2.2.1 | exact hk_.2 | exact hk_.2.2 | exact hk_.2.2.2 | exact hk_.2.2.2.2 | exact hk_.2.2.2.2.2 | exact hk_.2.2.2.2.2.2 | exact hk_.2.2.2.2.2.2.2 | exact hk_.2.2.2.2.2.2.2.2 | exact hk_.2.2.2.2.2.2.2.2.2 | exact hk_.2.2.2.2.2.2.2.2.2.2 | exact hk_.2.2.2.2.2.2.2.2.2.2.2 | exact hk_.2.2.2.2.2.2.2.2.2.2.2.2 | exact hk_.2.2.2.2.2.2.2.2.2.2.2.2.2 | exact hk_.2.2.2.2.2.2.2.2.2.2.2.2.2.2 | exact hk_.2.2.2.2.2.2.2.2.2.2.2.2.2.2.2)))) (fun k_ hk_ => by first | exact ⟨hk_.1.1.1.2,hk_.1.1.2⟩ | ((try simp only [and_assoc] at hk_);(try simp only [and_assoc]);(repeat' refine And.intro ?_ ?_) <;> (first | exact hk_.1 | exact hk_.2.1 | exact hk_.2.2.1 | exact hk_.2.2.2.1 | exact hk_.2.2.2.2.1 | exact hk_.2.2.2.2.2.1 | exact hk_.2.2.2.2.2.2.1 | exact hk_.2.2.2.2.2.2.2.1 | exact hk_.2.2.2.2.2.2.2.2.1 | exact hk_.2.2.2.2.2.2.2.2.2.1 | exact hk_.2.2.2.2.2.2.2.2.2.2.1 | exact hk_.2.2.2.2.2.2.2.2.2.2.2.1 | exact hk_.2.2.2.2.2.2.2.2.2.2.2.2.1 | exact hk_.2.2.2.2.2.2.2.2.2.2.2.2.2.1 | exact hk_.2.2.2.2.2.2.2.2.2.2.2.2.2.2.1 | exact hk_.2.2.2.2.2.2.2.2.2.2.2.2.2.2.2.1 | exact hk_.2 | exact hk_.2.2 | exact hk_.2.2.2 | exact hk_.2.2.2.2 | exact hk_.2.2.2.2.2 | exact hk_.2.2.2.2.2.2 | exact hk_.2.2.2.2.2.2.2 | exact hk_.2.2.2.2.2.2.2.2 | exact hk_.2.2.2.2.2.2.2.2.2 | exact hk_.2.2.2.2.2.2.2.2.2.2 | exact hk_.2.2.2.2.2.2.2.2.2.2.2 | exact hk_.2.2.2.2.2.2.2.2.2.2.2.2 | exact hk_.2.2.2.2.2.2.2.2.2.2.2.2.2 | exact hk_.2.2.2.2.2.2.2.2.2.2.2.2.2.2 | exact hk_.2.2.2.2.2.2.2.2.2.2.2.2.2.2.2))));have n7_ := qq.mk (Kd.R_mono (ok' := fun k_ => some k_ ≠ (.slice Ao72 t113.length co72 : Value).ownBlock) (Kd.R_keptB ((Kd.R_apart' HO128.out (Kd.R_typed HO120.out) (by decide))) hkp (fun k_ hk_ hs_ => absurd hs_ (by first | exact hk_.2 | ((try simp only [and_assoc] at hk_);first | exact hk_.1 | exact hk_.2.1 | exact hk_.2.2.1 | exact hk_.2.2.2.1 | exact hk_.2.2.2.2.1 | exact hk_.2.2.2.2.2.1 | exact hk_.2.2.2.2.2.2.1 | exact hk_.2.2.2.2.2.2.2.1 | exact hk_.2.2.2.2.2.2.2.2.1 | exact hk_.2.2.2.2.2.2.2.2.2.1 | exact hk_.2.2.2.2.2.2.2.2.2.2.1 | exact hk_.2.2.2.2.2.2.2.2.2.2.2.1 | exact hk_.2.2.2.2.2.2.2.2.2.2.2.2.1 | exact hk_.2.2.2.2.2.2.2.2.2.2.2.2.2.1 | exact hk_.2.2.2.2.2.2.2.2.2.2.2.2.2.2.1 | exact hk_.2.2.2.2.2.2.2.2.2.2.2.2.2.2.2.1 | exact hk_.2 | exact hk_.2.2 | exact hk_.2.2.2 | exact hk_.2.2.2.2 | exact hk_.2.2.2.2.2 | exact hk_.2.2.2.2.2.2 | exact hk_.2.2.2.2.2.2.2 | exact hk_.2.2.2.2.2.2.2.2 | exact hk_.2.2.2.2.2.2.2.2.2 | exact hk_.2.2.2.2.2.2.2.2.2.2 | exact hk_.2.2.2.2.2.2.2.2.2.2.2 | exact hk_.2.2.2.2.2.2.2.2.2.2.2.2 | exact hk_.2.2.2.2.2.2.2.2.2.2.2.2.2 | exact hk_.2.2.2.2.2.2.2.2.2.2.2.2.2.2 | exact hk_.2.2.2.2.2.2.2.2.2.2.2.2.2.2.2)))) (fun k_ hk_ => by first | exact hk_.1.1.2 | ((try simp only [and_assoc] at hk_);(try simp only [and_assoc]);(repeat' refine And.intro ?_ ?_) <;> (first | exact hk_.1 | exact hk_.2.1 | exact hk_.2.2.1 | exact hk_.2.2.2.1 | exact hk_.2.2.2.2.1 | exact hk_.2.2.2.2.2.1 | exact hk_.2.2.2.2.2.2.1 | exact hk_.2.2.2.2.2.2.2.1 | exact hk_.2.2.2.2.2.2.2.2.1 | exact hk_.2.2.2.2.2.2.2.2.2.1 | exact hk_.2.2.2.2.2.2.2.2.2.2.1 | exact hk_.2.2.2.2.2.2.2.2.2.2.2.1 | exact hk_.2.2.2.2.2.2.2.2.2.2.2.2.1 | exact hk_.2.2.2.2.2.2.2.2.2.2.2.2.2.1 | exact hk_.2.2.2.2.2.2.2.2.2.2.2.2.2.2.1 | exact hk_.2.2.2.2.2.2.2.2.2.2.2.2.2.2.2.1 | exact hk_.2 | exact hk_.2.2 | exact hk_.2.2.2 | exact hk_.2.2.2.2 | exact hk_.2.2.2.2.2 | exact hk_.2.2.2.2.2.2 | exact hk_.2.2.2.2.2.2.2 | exact hk_.2.2.2.2.2.2.2.2 | exact hk_.2.2.2.2.2.2.2.2.2 | exact hk_.2.2.2.2.2.2.2.2.2.2 | exact hk_.2.2.2.2.2.2.2.2.2.2.2 | exact hk_.2.2.2.2.2.2.2.2.2.2.2.2 | exact hk_.2.2.2.2.2.2.2.2.2.2.2.2.2 | exact hk_.2.2.2.2.2.2.2.2.2.2.2.2.2.2 | exact hk_.2.2.2.2.2.2.2.2.2.2.2.2.2.2.2))));have n8_ := qq.mk (Kd.R_mono (ok' := fun k_ => some k_ ≠ (.slice Ao58 t106.length co58 : Value).ownBlock ∧ some k_ ≠ (.slice Ao66 t118.length co66 : Value).ownBlock) (Kd.R_keptB (HO134.out) hkp (fun k_ hk_ hs_ => absurd hs_ (by first | exact hk_.2 | ((try simp only [and_assoc] at hk_);first | exact hk_.1 | exact hk_.2.1 | exact hk_.2.2.1 | exact hk_.2.2.2.1 | exact hk_.2.2.2.2.1 | exact hk_.2.2.2.2.2.1 | exact hk_.2.2.2.2.2.2.1 | exact hk_.2.2.2.2.2.2.2.1 | exact hk_.2.2.2.2.2.2.2.2.1 | exact hk_.2.2.2.2.2.2.2.2.2.1 | exact hk_.2.2.2.2.2.2.2.2.2.2.1 | exact hk_.2.2.2.2.2.2.2.2.2.2.2.1 | exact hk_.2.2.2.2.2.2.2.2.2.2.2.2.1 | exact hk_.2.2.2.2.2.2.2.2.2.2.2.2.2.1 | exact hk_.2.2.2.2.2.2.2.2.2.2.2.2.2.2.1 | exact hk_.2.2.2.2.2.2.2.2.2.2.2.2.2.2.2.1 | exact hk_.2 | exact hk_.2.2 | exact hk_.2.2.2 | exact hk_.2.2.2.2 | exact hk_.2.2.2.2.2 | exact hk_.2.2.2.2.2.2 | exact hk_.2.2.2.2.2.2.2 | exact hk_.2.2.2.2.2.2.2.2 | exact hk_.2.2.2.2.2.2.2.2.2 | exact hk_.2.2.2.2.2.2.2.2.2.2 | exact hk_.2.2.2.2.2.2.2.2.2.2.2 | exact hk_.2.2.2.2.2.2.2.2.2.2.2.2 | exact hk_.2.2.2.2.2.2.2.2.2.2.2.2.2 | exact hk_.2.2.2.2.2.2.2.2.2.2.2.2.2.2 | exact hk_.2.2.2.2.2.2.2.2.2.2.2.2.2.2.2)))) (fun k_ hk_ => by first | exact ⟨hk_.1.1.2,hk_.1.2⟩ | ((try simp only [and_assoc] at hk_);(try simp only [and_assoc]);(repeat' refine And.intro ?_ ?_) <;> (first | exact hk_.1 | exact hk_.2.1 | exact hk_.2.2.1 | exact hk_.2.2.2.1 | exact hk_.2.2.2.2.1 | exact hk_.2.2.2.2.2.1 | exact hk_.2.2.2.2.2.2.1 | exact hk_.2.2.2.2.2.2.2.1 | exact hk_.2.2.2.2.2.2.2.2.1 | exact hk_.2.2.2.2.2.2.2.2.2.1 | exact hk_.2.2.2.2.2.2.2.2.2.2.1 | exact hk_.2.2.2.2.2.2.2.2.2.2.2.1 | exact hk_.2.2.2.2.2.2.2.2.2.2.2.2.1 | exact hk_.2.2.2.2.2.2.2.2.2.2.2.2.2.1 | exact hk_.2.2.2.2.2.2.2.2.2.2.2.2.2.2.1 | exact hk_.2.2.2.2.2.2.2.2.2.2.2.2.2.2.2.1 | exact hk_.2 | exact hk_.2.2 | exact hk_.2.2.2 | exact hk_.2.2.2.2 | exact hk_.2.2.2.2.2 | exact hk_.2.2.2.2.2.2 | exact hk_.2.2.2.2.2.2.2 | exact hk_.2.2.2.2.2.2.2.2 | exact hk_.2.2.2.2.2.2.2.2.2 | exact hk_.2.2.2.2.2.2.2.2.2.2 | exact hk_.2.2.2.2.2.2.2.2.2.2.2 | exact hk_.2.2.2.2.2.2.2.2.2.2.2.2 | exact hk_.2.2.2.2.2.2.2.2.2.2.2.2.2 | exact hk_.2.2.2.2.2.2.2.2.2.2.2.2.2.2 | exact hk_.2.2.2.2.2.2.2.2.2.2.2.2.2.2.2))));have n9_ := qq.mk (Kd.S_mono (ok' := fun k_ => some k_ ≠ (.slice Ao59 t110.length co59 : Value).ownBlock ∧ some k_ ≠ (.slice Ao69 t123.length co69 : Value).ownBlock) (Kd.S_keptB ((Kd.S_apart' HO139.out (Kd.R_typed HO120.out) (by decide))) hkp (fun k_ hk_ hs_ => absurd hs_ (by first | exact hk_.2 | ((try simp only [and_assoc] at hk_);first | exact hk_.1 | exact hk_.2.1 | exact hk_.2.2.1 | exact hk_.2.2.2.1 | exact hk_.2.2.2.2.1 | exact hk_.2.2.2.2.2.1 | exact hk_.2.2.2.2.2.2.1 | exact hk_.2.2.2.2.2.2.2.1 | exact hk_.2.2.2.2.2.2.2.2.1 | exact hk_.2.2.2.2.2.2.2.2.2.1 | exact hk_.2.2.2.2.2.2.2.2.2.2.1 | exact hk_.2.2.2.2.2.2.2.2.2.2.2.1 | exact hk_.2.2.2.2.2.2.2.2.2.2.2.2.1 | exact hk_.2.2.2.2.2.2.2.2.2.2.2.2.2.1 | exact hk_.2.2.2.2.2.2.2.2.2.2.2.2.2.2.1 | exact hk_.2.2.2.2.2.2.2.2.2.2.2.2.2.2.2.1 | exact hk_.2 | exact hk_.2.2 | exact hk_.2.2.2 | exact hk_.2.2.2.2 | exact hk_.2.2.2.2.2 | exact hk_.2.2.2.2.2.2 | exact hk_.2.2.2.2.2.2.2 | exact hk_.2.2.2.2.2.2.2.2 | exact hk_.2.2.2.2.2.2.2.2.2 | exact hk_.2.2.2.2.2.2.2.2.2.2 | exact hk_.2.2.2.2.2.2.2.2.2.2.2 | exact hk_.2.2.2.2.2.2.2.2.2.2.2.2 | exact hk_.2.2.2.2.2.2.2.2.2.2.2.2.2 | exact hk_.2.2.2.2.2.2.2.2.2.2.2.2.2.2 | exact hk_.2.2.2.2.2.2.2.2.2.2.2.2.2.2.2)))) (fun k_ hk_ => by first | exact ⟨hk_.1.1.1.2,hk_.1.1.2⟩ | ((try simp only [and_assoc] at hk_);(try simp only [and_assoc]);(repeat' refine And.intro ?_ ?_) <;> (first | exact hk_.1 | exact hk_.2.1 | exact hk_.2.2.1 | exact hk_.2.2.2.1 | exact hk_.2.2.2.2.1 | exact hk_.2.2.2.2.2.1 | exact hk_.2.2.2.2.2.2.1 | exact hk_.2.2.2.2.2.2.2.1 | exact hk_.2.2.2.2.2.2.2.2.1 | exact hk_.2.2.2.2.2.2.2.2.2.1 | exact hk_.2.2.2.2.2.2.2.2.2.2.1 | exact hk_.2.2.2.2.2.2.2.2.2.2.2.1 | exact hk_.2.2.2.2.2.2.2.2.2.2.2.2.1 | exact hk_.2.2.2.2.2.2.2.2.2.2.2.2.2.1 | exact hk_.2.2.2.2.2.2.2.2.2.2.2.2.2.2.1 | exact hk_.2.2.2.2.2.2.2.2.2.2.2.2.2.2.2.1 | exact hk_.2 | exact hk_.2.2 | exact hk_.2.2.2 | exact hk_.2.2.2.2 | exact hk_.2.2.2.2.2 | exact hk_.2.2.2.2.2.2 | exact hk_.2.2.2.2.2.2.2 | exact hk_.2.2.2.2.2.2.2.2 | exact hk_.2.2.2.2.2.2.2.2.2 | exact hk_.2.2.2.2.2.2.2.2.2.2 | exact hk_.2.2.2.2.2.2.2.2.2.2.2 | exact hk_.2.2.2.2.2.2.2.2.2.2.2.2 | exact hk_.2.2.2.2.2.2.2.2.2.2.2.2.2 | exact hk_.2.2.2.2.2.2.2.2.2.2.2.2.2.2 | exact hk_.2.2.2.2.2.2.2.2.2.2.2.2.2.2.2))));have n10_ := qq.mk (hb);clear BK101;clear HO108;clear HO112;clear HO115;clear HO120;clear BK122;clear HO125;clear HO128;clear HO134;clear HO139;clear HB;have BK101 := n0_;have HO108 := n1_;have HO112 := n2_;have HO115 := n3_;have HO120 := n4_;have BK122 := n5_;have HO125 := n6_;have HO128 := n7_;have HO134 := n8_;have HO139 := n9_;have HB := n10_;clear n0_ n1_ n2_ n3_ n4_ n5_ n6_ n7_ n8_ n9_ n10_;(try clear hb);(try clear hkp);(try clear hy0)) | ((with_reducible refine jv (f := 31) rfl ?_);refine goesL_ (some 69) rfl rfl Try.func31 (by kernel_rfl) rfl #[.slice Ao69 t123.length co69,.int .i64 t141] rfl (by (try simp only [List.map_toArray,List.map_cons,List.map_nil]);first | done | rfl | (simp only [List.length_drop,List.length_take];rfl)) ?_;(refine (qzj.callsR _ _ _ t123 t141 t143 _ (Kd.R_bound (Kd.S_R (by (with_reducible repeat (first | apply Kd.kk | apply Kd.kj | apply Kd.kv));exact HO125.out))) A35.out).mono ?_);rintro e w82 ⟨rfl,hm⟩;refine ⟨_,rfl,?_⟩;have XLHO112 := qq.mk (fun k e => Nat.lt_of_lt_of_le (Kd.S_lt (by (with_reducible repeat (first | apply Kd.kk | apply Kd.kj | apply Kd.kv));exact HO112.out) k e) hm.size);have XLHO125 := qq.mk (fun k e => Nat.lt_of_lt_of_le (Kd.S_lt (by (with_reducible repeat (first | apply Kd.kk | apply Kd.kj | apply Kd.kv));exact HO125.out) k e) hm.size);have XLHO139 := qq.mk (fun k e => Nat.lt_of_lt_of_le (Kd.S_lt (by (with_reducible repeat (first | apply Kd.kk | apply Kd.kj | apply Kd.kv));exact HO139.out) k e) hm.size);have XM := qq.mk (Nat.le_refl w82.heap.size);have nr0_ := qq.mk (R_marked (by (with_reducible repeat (first | apply Kd.jq | apply Kd.zx | apply Kd.jz));exact HO108.out) hm (fun k hk => hk.2.2.2) (by decide));have nr1_ := qq.mk (R_marked (by (with_reducible repeat (first | apply Kd.jq | apply Kd.zx | apply Kd.jz));exact HO115.out) hm (fun k hk => hk.2.2.2) (by decide));have nr2_ := qq.mk (R_marked (by (with_reducible repeat (first | apply Kd.jq | apply Kd.zx | apply Kd.jz));exact HO120.out) hm (fun k hk => hk.2.2.2) (by decide));have nr3_ := qq.mk (R_marked (by (with_reducible repeat (first | apply Kd.jq | apply Kd.zx | apply Kd.jz));exact HO128.out) hm (fun k hk => hk.2.2.2) (by decide));have nr4_ := qq.mk (R_marked (by (with_reducible repeat (first | apply Kd.jq | apply Kd.zx | apply Kd.jz));exact HO134.out) hm (fun k hk => hk.2.2.2) (by decide));have nk0_ := qq.mk (blk_marked (g := gb101) (by (with_reducible repeat (first | refine zz ?_ _ | refine zj ?_ | refine zq ?_ _));exact BK101.out) hm (fun k hk => hk.2.2.2) (by decide));have nk1_ := qq.mk (blk_marked (g := gb122) (by (with_reducible repeat (first | refine zz ?_ _ | refine zj ?_ | refine zq ?_ _));exact BK122.out) hm (fun k hk => hk.2.2.2) (by decide));have nb_ := qq.mk (Below.trans (B := w.heap.size) (by repeat (first | (with_reducible first | exact HB.out | apply qj | apply qz | apply qk | refine qx ?_ GE101.out | refine qx ?_ GE122.out) | exact HB.out)) (hm.bel (zw (by repeat (first | (with_reducible first | exact HB.out | apply qj | apply qz | apply qk | refine qx ?_ GE101.out | refine qx ?_ GE122.out) | exact HB.out))) (fun k hk => hk.2.1)));clear HO108;clear HO115;clear HO120;clear HO128;clear HO134;clear BK101;clear BK122;clear HB;have HO108 := nr0_;have HO115 := nr1_;have HO120 := nr2_;have HO128 := nr3_;have HO134 := nr4_;have BK101 := nk0_;have BK122 := nk1_;have HB := nb_;clear nr0_ nr1_ nr2_ nr3_ nr4_ nk0_ nk1_ nb_;clear hm) | (go_at_call 27;(with_reducible refine (qqz.calls k _ _ t126 _ _ t113 true _ ?side1 ?side2 ?side3 ?side4 A37.out).mono ?_);(case side1 => repeat (first | exact (Kd.R_reads' HO128.out).2.2 | (with_reducible refine Kd.C_alloc ?_ _) | (with_reducible refine Kd.C_drewN ?_ _) | (with_reducible refine Kd.C_drew ?_)));(case side2 => exact (Kd.R_reads' HO128.out).2.1);(case side3 => repeat (first | exact (Kd.R_reads' HO115.out).2.2 | (with_reducible refine Kd.C_alloc ?_ _) | (with_reducible refine Kd.C_drewN ?_ _) | (with_reducible refine Kd.C_drew ?_)));(case side4 => exact (Kd.R_reads' HO115.out).2.1);rintro e w' ⟨rfl,⟨nd,rfl⟩⟩) | ((with_reducible refine jv (f := 32) rfl ?_);refine goesL_ (some 80) rfl rfl Try.func32 (by kernel_rfl) rfl #[.slice Ao71 t126.length co71,.int .i64 1] rfl (by (try simp only [List.map_toArray,List.map_cons,List.map_nil]);first | done | rfl | (simp only [List.length_drop,List.length_take];rfl)) ?_;(with_reducible refine (qzq.calls k (fun k_ => some k_ = (.slice Ao71 t126.length co71 : Value).ownBlock) (.slice Ao71 t126.length co71) t126 1 t145 t146 w _ ?side1 ?side2 A39.out).mono ?_);(case side1 => repeat (first | (with_reducible first | exact HB.out | apply qj | apply qz | apply qk | refine qx ?_ GE101.out | refine qx ?_ GE122.out) | exact HB.out));(case side2 => exact Kd.R_tight rfl HO128.out);rintro e w83 ⟨rfl,hy0,hb,hkp⟩;refine ⟨_,rfl,?_⟩;have n0_ := qq.mk (blk_kept (by (with_reducible repeat (first | refine zz ?_ _ | refine zj ?_ | refine zq ?_ _));exact BK101.out) hkp (fun hs_ => (fun e_ => (Kd.R_ne HO128.out BK101.out (by decide)) e_) hs_));have n1_ := qq.mk (Kd.R_mono (ok' := fun k_ => some k_ ≠ (.slice Ao66 t118.length co66 : Value).ownBlock ∧ some k_ ≠ (.slice Ao75 t132.length co75 : Value).ownBlock) (Kd.R_keptB ((Kd.R_apart' HO108.out (Kd.R_typed HO128.out) (by decide))) hkp (fun k_ hk_ hs_ => absurd hs_ (by first | exact hk_.2 | ((try simp only [and_assoc] at hk_);first | exact hk_.1 | exact hk_.2.1 | exact hk_.2.2.1 | exact hk_.2.2.2.1 | exact hk_.2.2.2.2.1 | exact hk_.2.2.2.2.2.1 | exact hk_.2.2.2.2.2.2.1 | exact hk_.2.2.2.2.2.2.2.1 | exact hk_.2.2.2.2.2.2.2.2.1 | exact hk_.2.2.2.2.2.2.2.2.2.1 | exact hk_.2.2.2.2.2.2.2.2.2.2.1 | exact hk_.2.2.2.2.2.2.2.2.2.2.2.1 | exact hk_.2.2.2.2.2.2.2.2.2.2.2.2.1 | exact hk_.2.2.2.2.2.2.2.2.2.2.2.2.2.1 | exact hk_.2.2.2.2.2.2.2.2.2.2.2.2.2.2.1 | exact hk_.2.2.2.2.2.2.2.2.2.2.2.2.2.2.2.1 | exact hk_.2 | exact hk_.2.2 | exact hk_.2.2.2 | exact hk_.2.2.2.2 | exact hk_.2.2.2.2.2 | exact hk_.2.2.2.2.2.2 | exact hk_.2.2.2.2.2.2.2 | exact hk_.2.2.2.2.2.2.2.2 | exact hk_.2.2.2.2.2.2.2.2.2 | exact hk_.2.2.2.2.2.2.2.2.2.2 | exact hk_.2.2.2.2.2.2.2.2.2.2.2 | exact hk_.2.2.2.2.2.2.2.2.2.2.2.2 | exact hk_.2.2.2.2.2.2.2.2.2.2.2.2.2 | exact hk_.2.2.2.2.2.2.2.2.2.2.2.2.2.2 | exact hk_.2.2.2.2.2.2.2.2.2.2.2.2.2.2.2)))) (fun k_ hk_ => by first | exact ⟨hk_.1.1.1,hk_.1.1.2⟩ | ((try simp only [and_assoc] at hk_);(try simp only [and_assoc]);(repeat' refine And.intro ?_ ?_) <;> (first | exact hk_.1 | exact hk_.2.1 | exact hk_.2.2.1 | exact hk_.2.2.2.1 | exact hk_.2.2.2.2.1 | exact hk_.2.2.2.2.2.1 | exact hk_.2.2.2.2.2.2.1 | exact hk_.2.2.2.2.2.2.2.1 | exact hk_.2.2.2.2.2.2.2.2.1 | exact hk_.2.2.2.2.2.2.2.2.2.1 | exact hk_.2.2.2.2.2.2.2.2.2.2.1 | exact hk_.2.2.2.2.2.2.2.2.2.2.2.1 | exact hk_.2.2.2.2.2.2.2.2.2.2.2.2.1 | exact hk_.2.2.2.2.2.2.2.2.2.2.2.2.2.1 | exact hk_.2.2.2.2.2.2.2.2.2.2.2.2.2.2.1 | exact hk_.2.2.2.2.2.2.2.2.2.2.2.2.2.2.2.1 | exact hk_.2 | exact hk_.2.2 | exact hk_.2.2.2 | exact hk_.2.2.2.2 | exact hk_.2.2.2.2.2 | exact hk_.2.2.2.2.2.2 | exact hk_.2.2.2.2.2.2.2 | exact hk_.2.2.2.2.2.2.2.2 | exact hk_.2.2.2.2.2.2.2.2.2 | exact hk_.2.2.2.2.2.2.2.2.2.2 | exact hk_.2.2.2.2.2.2.2.2.2.2.2 | exact hk_.2.2.2.2.2.2.2.2.2.2.2.2 | exact hk_.2.2.2.2.2.2.2.2.2.2.2.2.2 | exact hk_.2.2.2.2.2.2.2.2.2.2.2.2.2.2 | exact hk_.2.2.2.2.2.2.2.2.2.2.2.2.2.2.2))));have n3_ := qq.mk (Kd.R_mono (ok' := fun k_ => some k_ ≠ (.slice Ao71 t126.length co71 : Value).ownBlock) (Kd.R_keptB (HO115.out) hkp (fun k_ hk_ hs_ => (hk_) hs_)) (fun k_ hk_ => by first | exact hk_.1 | ((try simp only [and_assoc] at hk_);(try simp only [and_assoc]);(repeat' refine And.intro ?_ ?_) <;> (first | exact hk_.1 | exact hk_.2.1 | exact hk_.2.2.1 | exact hk_.2.2.2.1 | exact hk_.2.2.2.2.1 | exact hk_.2.2.2.2.2.1 | exact hk_.2.2.2.2.2.2.1 | exact hk_.2.2.2.2.2.2.2.1 | exact hk_.2.2.2.2.2.2.2.2.1 | exact hk_.2.2.2.2.2.2.2.2.2.1 | exact hk_.2.2.2.2.2.2.2.2.2.2.1 | exact hk_.2.2.2.2.2.2.2.2.2.2.2.1 | exact hk_.2.2.2.2.2.2.2.2.2.2.2.2.1 | exact hk_.2.2.2.2.2.2.2.2.2.2.2.2.2.1 | exact hk_.2.2.2.2.2.2.2.2.2.2.2.2.2.2.1 | exact hk_.2.2.2.2.2.2.2.2.2.2.2.2.2.2.2.1 | exact hk_.2 | exact hk_.2.2 | exact hk_.2.2.2 | exact hk_.2.2.2.2 | exact hk_.2.2.2.2.2 | exact hk_.2.2.2.2.2.2 | exact hk_.2.2.2.2.2.2.2 | exact hk_.2.2.2.2.2.2.2.2 | exact hk_.2.2.2.2.2.2.2.2.2 | exact hk_.2.2.2.2.2.2.2.2.2.2 | exact hk_.2.2.2.2.2.2.2.2.2.2.2 | exact hk_.2.2.2.2.2.2.2.2.2.2.2.2 | exact hk_.2.2.2.2.2.2.2.2.2.2.2.2.2 | exact hk_.2.2.2.2.2.2.2.2.2.2.2.2.2.2 | exact hk_.2.2.2.2.2.2.2.2.2.2.2.2.2.2.2))));have n4_ := qq.mk (Kd.R_mono (ok' := fun k_ => some k_ ≠ (.slice Ao58 t106.length co58 : Value).ownBlock ∧ some k_ ≠ (.slice Ao75 t132.length co75 : Value).ownBlock) (Kd.R_keptB ((Kd.R_apart' HO120.out (Kd.R_typed HO128.out) (by decide))) hkp (fun k_ hk_ hs_ => absurd hs_ (by first | exact hk_.2 | ((try simp only [and_assoc] at hk_);first | exact hk_.1 | exact hk_.2.1 | exact hk_.2.2.1 | exact hk_.2.2.2.1 | exact hk_.2.2.2.2.1 | exact hk_.2.2.2.2.2.1 | exact hk_.2.2.2.2.2.2.1 | exact hk_.2.2.2.2.2.2.2.1 | exact hk_.2.2.2.2.2.2.2.2.1 | exact hk_.2.2.2.2.2.2.2.2.2.1 | exact hk_.2.2.2.2.2.2.2.2.2.2.1 | exact hk_.2.2.2.2.2.2.2.2.2.2.2.1 | exact hk_.2.2.2.2.2.2.2.2.2.2.2.2.1 | exact hk_.2.2.2.2.2.2.2.2.2.2.2.2.2.1 | exact hk_.2.2.2.2.2.2.2.2.2.2.2.2.2.2.1 | exact hk_.2.2.2.2.2.2.2.2.2.2.2.2.2.2.2.1 | exact hk_.2 | exact hk_.2.2 | exact hk_.2.2.2 | exact hk_.2.2.2.2 | exact hk_.2.2.2.2.2 | exact hk_.2.2.2.2.2.2 | exact hk_.2.2.2.2.2.2.2 | exact hk_.2.2.2.2.2.2.2.2 | exact hk_.2.2.2.2.2.2.2.2.2 | exact hk_.2.2.2.2.2.2.2.2.2.2 | exact hk_.2.2.2.2.2.2.2.2.2.2.2 | exact hk_.2.2.2.2.2.2.2.2.2.2.2.2 | exact hk_.2.2.2.2.2.2.2.2.2.2.2.2.2 | exact hk_.2.2.2.2.2.2.2.2.2.2.2.2.2.2 | exact hk_.2.2.2.2.2.2.2.2.2.2.2.2.2.2.2)))) (fun k_ hk_ => by first | exact ⟨hk_.1.1.1.2,hk_.1.1.2⟩ | ((try simp only [and_assoc] at hk_);(try simp only [and_assoc]);(repeat' refine And.intro ?_ ?_) <;> (first | exact hk_.1 | exact hk_.2.1 | exact hk_.2.2.1 | exact hk_.2.2.2.1 | exact hk_.2.2.2.2.1 | exact hk_.2.2.2.2.2.1 | exact hk_.2.2.2.2.2.2.1 | exact hk_.2.2.2.2.2.2.2.1 | exact hk_.2.2.2.2.2.2.2.2.1 | exact hk_.2.2.2.2.2.2.2.2.2.1 | exact hk_.2.2.2.2.2.2.2.2.2.2.1 | exact hk_.2.2.2.2.2.2.2.2.2.2.2.1 | exact hk_.2.2.2.2.2.2.2.2.2.2.2.2.1 | exact hk_.2.2.2.2.2.2.2.2.2.2.2.2.2.1 | exact hk_.2.2.2.2.2.2.2.2.2.2.2.2.2.2.1 | exact hk_.2.2.2.2.2.2.2.2.2.2.2.2.2.2.2.1 | exact hk_.2 | exact hk_.2.2 | exact hk_.2.2.2 | exact hk_.2.2.2.2 | exact hk_.2.2.2.2.2 | exact hk_.2.2.2.2.2.2 | exact hk_.2.2.2.2.2.2.2 | exact hk_.2.2.2.2.2.2.2.2 | exact hk_.2.2.2.2.2.2.2.2.2 | exact hk_.2.2.2.2.2.2.2.2.2.2 | exact hk_.2.2.2.2.2.2.2.2.2.2.2 | exact hk_.2.2.2.2.2.2.2.2.2.2.2.2 | exact hk_.2.2.2.2.2.2.2.2.2.2.2.2.2 | exact hk_.2.2.2.2.2.2.2.2.2.2.2.2.2.2 | exact hk_.2.2.2.2.2.2.2.2.2.2.2.2.2.2.2))));have n5_ := qq.mk (blk_kept (by (with_reducible repeat (first | refine zz ?_ _ | refine zj ?_ | refine zq ?_ _));exact BK122.out) hkp (fun hs_ => (fun e_ => (Kd.R_ne HO128.out BK122.out (by decide)) e_) hs_));have n7_ := qq.mk (Kd.R_reok rfl hy0 (fun k_ e_ => HO128.out.1 k_ e_));have n8_ := qq.mk (Kd.R_mono (ok' := fun k_ => some k_ ≠ (.slice Ao58 t106.length co58 : Value).ownBlock ∧ some k_ ≠ (.slice Ao66 t118.length co66 : Value).ownBlock) (Kd.R_keptB ((Kd.R_apart' HO134.out (Kd.R_typed HO128.out) (by decide))) hkp (fun k_ hk_ hs_ => absurd hs_ (by first | exact hk_.2 | ((try simp only [and_assoc] at hk_);first | exact hk_.1 | exact hk_.2.1 | exact hk_.2.2.1 | exact hk_.2.2.2.1 | exact hk_.2.2.2.2.1 | exact hk_.2.2.2.2.2.1 | exact hk_.2.2.2.2.2.2.1 | exact hk_.2.2.2.2.2.2.2.1 | exact hk_.2.2.2.2.2.2.2.2.1 | exact hk_.2.2.2.2.2.2.2.2.2.1 | exact hk_.2.2.2.2.2.2.2.2.2.2.1 | exact hk_.2.2.2.2.2.2.2.2.2.2.2.1 | exact hk_.2.2.2.2.2.2.2.2.2.2.2.2.1 | exact hk_.2.2.2.2.2.2.2.2.2.2.2.2.2.1 | exact hk_.2.2.2.2.2.2.2.2.2.2.2.2.2.2.1 | exact hk_.2.2.2.2.2.2.2.2.2.2.2.2.2.2.2.1 | exact hk_.2 | exact hk_.2.2 | exact hk_.2.2.2 | exact hk_.2.2.2.2 | exact hk_.2.2.2.2.2 | exact hk_.2.2.2.2.2.2 | exact hk_.2.2.2.2.2.2.2 | exact hk_.2.2.2.2.2.2.2.2 | exact hk_.2.2.2.2.2.2.2.2.2 | exact hk_.2.2.2.2.2.2.2.2.2.2 | exact hk_.2.2.2.2.2.2.2.2.2.2.2 | exact hk_.2.2.2.2.2.2.2.2.2.2.2.2 | exact hk_.2.2.2.2.2.2.2.2.2.2.2.2.2 | exact hk_.2.2.2.2.2.2.2.2.2.2.2.2.2.2 | exact hk_.2.2.2.2.2.2.2.2.2.2.2.2.2.2.2)))) (fun k_ hk_ => by first | exact ⟨hk_.1.1.1,hk_.1.1.2⟩ | ((try simp only [and_assoc] at hk_);(try simp only [and_assoc]);(repeat' refine And.intro ?_ ?_) <;> (first | exact hk_.1 | exact hk_.2.1 | exact hk_.2.2.1 | exact hk_.2.2.2.1 | exact hk_.2.2.2.2.1 | exact hk_.2.2.2.2.2.1 | exact hk_.2.2.2.2.2.2.1 | exact hk_.2.2.2.2.2.2.2.1 | exact hk_.2.2.2.2.2.2.2.2.1 | exact hk_.2.2.2.2.2.2.2.2.2.1 | exact hk_.2.2.2.2.2.2.2.2.2.2.1 | exact hk_.2.2.2.2.2.2.2.2.2.2.2.1 | exact hk_.2.2.2.2.2.2.2.2.2.2.2.2.1 | exact hk_.2.2.2.2.2.2.2.2.2.2.2.2.2.1 | exact hk_.2.2.2.2.2.2.2.2.2.2.2.2.2.2.1 | exact hk_.2.2.2.2.2.2.2.2.2.2.2.2.2.2.2.1 | exact hk_.2 | exact hk_.2.2 | exact hk_.2.2.2 | exact hk_.2.2.2.2 | exact hk_.2.2.2.2.2 | exact hk_.2.2.2.2.2.2 | exact hk_.2.2.2.2.2.2.2 | exact hk_.2.2.2.2.2.2.2.2 | exact hk_.2.2.2.2.2.2.2.2.2 | exact hk_.2.2.2.2.2.2.2.2.2.2 | exact hk_.2.2.2.2.2.2.2.2.2.2.2 | exact hk_.2.2.2.2.2.2.2.2.2.2.2.2 | exact hk_.2.2.2.2.2.2.2.2.2.2.2.2.2 | exact hk_.2.2.2.2.2.2.2.2.2.2.2.2.2.2 | exact hk_.2.2.2.2.2.2.2.2.2.2.2.2.2.2.2))));have n10_ := qq.mk (hb);have XM2 := qq.mk (Nat.le_trans XM.out (by have h_ := hkp.1;simpa only [size_setCell_,size_drewN_] using h_));clear XM;have XM := XM2;clear XM2;clear BK101;clear HO108;clear HO115;clear HO120;clear BK122;clear HO128;clear HO134;clear HB;have BK101 := n0_;have HO108 := n1_;have HO115 := n3_;have HO120 := n4_;have BK122 := n5_;have HO128 := n7_;have HO134 := n8_;have HB := n10_;clear n0_ n1_ n3_ n4_ n5_ n7_ n8_ n10_;(try clear hb);(try clear hkp);(try clear hy0)) | ((with_reducible refine jv (f := 33) rfl ?_);refine goesL_ (some 83) rfl rfl Try.func33 (by kernel_rfl) rfl #[.slice Ao71 t146.length co71,.int .i64 1] rfl (by (try simp only [List.map_toArray,List.map_cons,List.map_nil]);first | done | (rw [show t146.length = t126.length from (Kd.R_reads' HO128.out).1.symm] <;> rfl) | rfl | (simp only [List.length_drop,List.length_take];rfl)) ?_;(with_reducible refine (qqx.calls k _ _ t146 1 t147 _ ?side1 ?side2 A40.out).mono ?_);(case side1 => repeat (first | exact (Kd.R_reads' HO128.out).2.2 | (with_reducible refine Kd.C_alloc ?_ _) | (with_reducible refine Kd.C_drewN ?_ _) | (with_reducible refine Kd.C_drew ?_)));(case side2 => rw [show t146.length = t126.length from (Kd.R_reads' HO128.out).1.symm];exact (Kd.R_reads' HO128.out).2.1);rintro e w' ⟨rfl,⟨nd,rfl⟩⟩;refine ⟨_,rfl,?_⟩;have hcz84_0 : w83.cell? ⟨gb101,0,none⟩ = some (.int .i64 a0_0) := (qw BK101.out 0).trans rfl;have hcz84_1 : w83.cell? ⟨gb101,1,none⟩ = some (.int .i64 a0_1) := (qw BK101.out 1).trans rfl;have hcz84_2 : w83.cell? ⟨gb101,2,none⟩ = some (.slice A0_2 l0_2.length c0_2) := (qw BK101.out 2).trans rfl;have hcz84_3 : w83.cell? ⟨gb101,3,none⟩ = some (.int .i64 a0_3) := (qw BK101.out 3).trans rfl;have hfz84_0 := qv BK101.out 0;have hfz84_1 := qv BK101.out 1;have hfz84_2 := qv BK101.out 2;have hfz84_3 := qv BK101.out 3) | ((with_reducible refine jv (f := 24) rfl ?_);refine goesL_ (some 90) rfl rfl Try.func24 (by kernel_rfl) rfl #[.agg #[.int .i64 a0_0,.int .i64 a0_1,.slice A0_2 l0_2.length c0_2,.int .i64 a0_3]] rfl (by (try simp only [List.map_toArray,List.map_cons,List.map_nil]);first | done | rfl | (simp only [List.length_drop,List.length_take];rfl)) ?_;(with_reducible refine (qjv.calls k a0_0 a0_1 _ _ l0_2 a0_3 t148 t149 t150 t153 _ ?side1 ?side2 A43.out).mono ?_);(case side1 => repeat (first | exact (Kd.C_below HR0_2.out (by repeat (first | (with_reducible first | exact HB.out | apply qj | apply qz | apply qk | refine qx ?_ GE101.out | refine qx ?_ GE122.out) | exact HB.out))) | (with_reducible refine Kd.C_alloc ?_ _) | (with_reducible refine Kd.C_drewN ?_ _) | (with_reducible refine Kd.C_drew ?_)));(case side2 => exact HC0_2.out);rintro e w85 ⟨v151,rfl,ho0,hb⟩;refine ⟨_,rfl,?_⟩;have n0_ := qq.mk (Kd.R_elder' (by (with_reducible repeat (first | apply Kd.jq | apply Kd.zx | apply Kd.jz));exact HO108.out) (Kd.R_base ho0) hb);have n2_ := qq.mk (Kd.R_below (by (with_reducible repeat (first | apply Kd.jq | apply Kd.zx | apply Kd.jz));exact HO115.out) hb);have n3_ := qq.mk (Kd.R_elder' (by (with_reducible repeat (first | apply Kd.jq | apply Kd.zx | apply Kd.jz));exact HO120.out) (Kd.R_base ho0) hb);have n5_ := qq.mk (Kd.R_below (by (with_reducible repeat (first | apply Kd.jq | apply Kd.zx | apply Kd.jz));exact HO128.out) hb);have n6_ := qq.mk (Kd.R_elder' (by (with_reducible repeat (first | apply Kd.jq | apply Kd.zx | apply Kd.jz));exact HO134.out) (Kd.R_base ho0) hb);have n8_ := qq.mk (Kd.R_lower (Kd.R_new' (Kd.R_new' (Kd.R_new' ho0 (Kd.R_lt (by (with_reducible repeat (first | apply Kd.jq | apply Kd.zx | apply Kd.jz));exact HO108.out))) (Kd.R_lt (by (with_reducible repeat (first | apply Kd.jq | apply Kd.zx | apply Kd.jz));exact HO120.out))) (Kd.R_lt (by (with_reducible repeat (first | apply Kd.jq | apply Kd.zx | apply Kd.jz));exact HO134.out))) (zw (by repeat (first | (with_reducible first | exact HB.out | apply qj | apply qz | apply qk | refine qx ?_ GE101.out | refine qx ?_ GE122.out) | exact HB.out))));have n9_ := qq.mk (vz (g := gb101) (o := .cells #[.int .i64 a0_0,.int .i64 a0_1,.slice A0_2 l0_2.length c0_2,.int .i64 a0_3] 47 (0,0)) (by (with_reducible repeat (first | refine zz ?_ _ | refine zj ?_ | refine zq ?_ _));exact BK101.out) hb);have n10_ := qq.mk (vz (g := gb122) (o := .cells #[.int .i64 t116,.int .i64 t117,.slice Ao66 t118.length co66,.int .i64 t121] 53 (0,0)) (by (with_reducible repeat (first | refine zz ?_ _ | refine zj ?_ | refine zq ?_ _));exact BK122.out) hb);have n11_ := qq.mk (zv (by repeat (first | (with_reducible first | exact HB.out | apply qj | apply qz | apply qk | refine qx ?_ GE101.out | refine qx ?_ GE122.out) | exact HB.out)) hb);have XM2 := qq.mk (Nat.le_trans XM.out (by have h_ := hb.size;simpa only [size_setCell_,size_drewN_] using h_));clear XM;have XM := XM2;clear XM2;clear HO108;clear HO115;clear HO120;clear HO128;clear HO134;clear BK101;clear BK122;clear HB;have HO108 := n0_;have HO115 := n2_;have HO120 := n3_;have HO128 := n5_;have HO134 := n6_;have HO152 := n8_;have BK101 := n9_;have BK122 := n10_;have HB := n11_;clear n0_ n2_ n3_ n5_ n6_ n8_ n9_ n10_ n11_;(try clear hb);(try clear hb2);(try clear hk);(try clear hi);(try clear ho0)) | ((with_reducible refine jv (f := 25) rfl ?_);refine goesL_ (some 94) rfl rfl Try.func25 (by kernel_rfl) rfl #[.slice A3 l3.length c3] rfl (by (try simp only [List.map_toArray,List.map_cons,List.map_nil]);first | done | rfl | (simp only [List.length_drop,List.length_take];rfl)) ?_;(with_reducible refine (qjx.calls k _ _ l3 t154 _ ?side1 ?side2 A44.out).mono ?_);(case side1 => repeat (first | exact (Kd.C_below HR3.out HB.out) | (with_reducible refine Kd.C_alloc ?_ _) | (with_reducible refine Kd.C_drewN ?_ _) | (with_reducible refine Kd.C_drew ?_)));(case side2 => exact HC3.out);rintro e w86 ⟨v155,rfl,ho0,hb⟩;refine ⟨_,rfl,?_⟩;have n0_ := qq.mk (Kd.R_below (by (with_reducible repeat (first | apply Kd.jq | apply Kd.zx | apply Kd.jz));exact HO108.out) hb);have n2_ := qq.mk (Kd.R_below (by (with_reducible repeat (first | apply Kd.jq | apply Kd.zx | apply Kd.jz));exact HO115.out) hb);have n3_ := qq.mk (Kd.R_below (by (with_reducible repeat (first | apply Kd.jq | apply Kd.zx | apply Kd.jz));exact HO120.out) hb);have n5_ := qq.mk (Kd.R_below (by (with_reducible repeat (first | apply Kd.jq | apply Kd.zx | apply Kd.jz));exact HO128.out) hb);have n6_ := qq.mk (Kd.R_below (by (with_reducible repeat (first | apply Kd.jq | apply Kd.zx | apply Kd.jz));exact HO134.out) hb);have n8_ := qq.mk (Kd.R_below (by (with_reducible repeat (first | apply Kd.jq | apply Kd.zx | apply Kd.jz));exact HO152.out) hb);have n9_ := qq.mk (Kd.S_lower (Kd.S_new' (Kd.S_new' (Kd.S_new' ho0 (fun k e => by have h_ := Nat.lt_of_lt_of_le (XLHO112.out k e) XM.out;simpa only [size_setCell_,size_drewN_] using h_)) (fun k e => by have h_ := Nat.lt_of_lt_of_le (XLHO125.out k e) XM.out;simpa only [size_setCell_,size_drewN_] using h_)) (fun k e => by have h_ := Nat.lt_of_lt_of_le (XLHO139.out k e) XM.out;simpa only [size_setCell_,size_drewN_] using h_)) (zw (by repeat (first | (with_reducible first | exact HB.out | apply qj | apply qz | apply qk | refine qx ?_ GE101.out | refine qx ?_ GE122.out) | exact HB.out))));have n10_ := qq.mk (vz (g := gb101) (o := .cells #[.int .i64 a0_0,.int .i64 a0_1,.slice A0_2 l0_2.length c0_2,.int .i64 a0_3] 47 (0,0)) (by (with_reducible repeat (first | refine zz ?_ _ | refine zj ?_ | refine zq ?_ _));exact BK101.out) hb);have n11_ := qq.mk (vz (g := gb122) (o := .cells #[.int .i64 t116,.int .i64 t117,.slice Ao66 t118.length co66,.int .i64 t121] 53 (0,0)) (by (with_reducible repeat (first | refine zz ?_ _ | refine zj ?_ | refine zq ?_ _));exact BK122.out) hb);have n12_ := qq.mk (zv (by repeat (first | (with_reducible first | exact HB.out | apply qj | apply qz | apply qk | refine qx ?_ GE101.out | refine qx ?_ GE122.out) | exact HB.out)) hb);have XM2 := qq.mk (Nat.le_trans XM.out (by have h_ := hb.size;simpa only [size_setCell_,size_drewN_] using h_));clear XM;have XM := XM2;clear XM2;clear HO108;clear HO115;clear HO120;clear HO128;clear HO134;clear HO152;clear BK101;clear BK122;clear HB;have HO108 := n0_;have HO115 := n2_;have HO120 := n3_;have HO128 := n5_;have HO134 := n6_;have HO152 := n8_;have HO156 := n9_;have BK101 := n10_;have BK122 := n11_;have HB := n12_;clear n0_ n2_ n3_ n5_ n6_ n8_ n9_ n10_ n11_ n12_;(try clear hb);(try clear hb2);(try clear hk);(try clear hi);(try clear ho0);obtain ⟨Ao87,co87,eo87⟩ := Kd.R_slice HO152.out;subst eo87;obtain ⟨Ao88,co88,eo88⟩ := Kd.S_slice HO156.out;subst eo88) | ((with_reducible refine jv (f := 26) rfl ?_);refine goesL_ (some 95) rfl rfl Try.func26 (by kernel_rfl) rfl #[.agg #[.int .i64 t148,.int .i64 t149,.slice Ao87 t150.length co87,.int .i64 t153],.string a1,.string a2,.slice Ao88 t154.length co88] rfl (by (try simp only [List.map_toArray,List.map_cons,List.map_nil]);first | done | rfl | (simp only [List.length_drop,List.length_take];rfl)) ?_;(with_reducible refine (wx.calls k t148 t149 _ _ t150 t153 a1 a2 _ _ t154 t157 _ ?tabw ?side1 ?side2 ?side3 ?side4 A45.out).mono ?_);(case tabw => repeat (first | exact HTAB.out | exact TabW_below HTAB.out HB.out | (with_reducible refine TabW_drewN ?_ _) | (with_reducible refine TabW_drew ?_) | (with_reducible refine TabW_alloc ?_ _)));(case side1 => repeat (first | exact (Kd.R_reads' HO152.out).2.2 | (with_reducible refine Kd.C_alloc ?_ _) | (with_reducible refine Kd.C_drewN ?_ _) | (with_reducible refine Kd.C_drew ?_)));(case side2 => exact (Kd.R_reads' HO152.out).2.1);(case side3 => repeat (first | exact (Kd.S_reads' HO156.out).2.2 | (with_reducible refine Kd.C_alloc ?_ _) | (with_reducible refine Kd.C_drewN ?_ _) | (with_reducible refine Kd.C_drew ?_)));(case side4 => exact (Kd.S_reads' HO156.out).2.1);rintro e w89 ⟨v158,rfl,ho0,hb⟩;refine ⟨_,rfl,?_⟩;have n0_ := qq.mk (Kd.R_below (by (with_reducible repeat (first | apply Kd.jq | apply Kd.zx | apply Kd.jz));exact HO108.out) hb);have n2_ := qq.mk (Kd.R_elder' (by (with_reducible repeat (first | apply Kd.jq | apply Kd.zx | apply Kd.jz));exact HO115.out) (Kd.R_base ho0) hb);have n3_ := qq.mk (Kd.R_below (by (with_reducible repeat (first | apply Kd.jq | apply Kd.zx | apply Kd.jz));exact HO120.out) hb);have n5_ := qq.mk (Kd.R_elder' (by (with_reducible repeat (first | apply Kd.jq | apply Kd.zx | apply Kd.jz));exact HO128.out) (Kd.R_base ho0) hb);have n6_ := qq.mk (Kd.R_below (by (with_reducible repeat (first | apply Kd.jq | apply Kd.zx | apply Kd.jz));exact HO134.out) hb);have n8_ := qq.mk (Kd.R_below (by (with_reducible repeat (first | apply Kd.jq | apply Kd.zx | apply Kd.jz));exact HO152.out) hb);have n9_ := qq.mk (Kd.S_below (by (with_reducible repeat (first | apply Kd.kk | apply Kd.kj | apply Kd.kv));exact HO156.out) hb);have n10_ := qq.mk (Kd.R_lower (Kd.R_new' (Kd.R_new' ho0 (Kd.R_lt (by (with_reducible repeat (first | apply Kd.jq | apply Kd.zx | apply Kd.jz));exact HO115.out))) (Kd.R_lt (by (with_reducible repeat (first | apply Kd.jq | apply Kd.zx | apply Kd.jz));exact HO128.out))) (zw (by repeat (first | (with_reducible first | exact HB.out | apply qj | apply qz | apply qk | refine qx ?_ GE101.out | refine qx ?_ GE122.out) | exact HB.out))));have n11_ := qq.mk (vz (g := gb101) (o := .cells #[.int .i64 a0_0,.int .i64 a0_1,.slice A0_2 l0_2.length c0_2,.int .i64 a0_3] 47 (0,0)) (by (with_reducible repeat (first | refine zz ?_ _ | refine zj ?_ | refine zq ?_ _));exact BK101.out) hb);have n12_ := qq.mk (vz (g := gb122) (o := .cells #[.int .i64 t116,.int .i64 t117,.slice Ao66 t118.length co66,.int .i64 t121] 53 (0,0)) (by (with_reducible repeat (first | refine zz ?_ _ | refine zj ?_ | refine zq ?_ _));exact BK122.out) hb);have n13_ := qq.mk (zv (by repeat (first | (with_reducible first | exact HB.out | apply qj | apply qz | apply qk | refine qx ?_ GE101.out | refine qx ?_ GE122.out) | exact HB.out)) hb);have XM2 := qq.mk (Nat.le_trans XM.out (by have h_ := hb.size;simpa only [size_setCell_,size_drewN_] using h_));clear XM;have XM := XM2;clear XM2;clear HO108;clear HO115;clear HO120;clear HO128;clear HO134;clear HO152;clear HO156;clear BK101;clear BK122;clear HB;have HO108 := n0_;have HO115 := n2_;have HO120 := n3_;have HO128 := n5_;have HO134 := n6_;have HO152 := n8_;have HO156 := n9_;have HO159 := n10_;have BK101 := n11_;have BK122 := n12_;have HB := n13_;clear n0_ n2_ n3_ n5_ n6_ n8_ n9_ n10_ n11_ n12_ n13_;(try clear hb);(try clear hb2);(try clear hk);(try clear hi);(try clear ho0);obtain ⟨Ao90,co90,eo90⟩ := Kd.R_slice HO159.out;subst eo90) | ((with_reducible refine jv (f := 27) rfl ?_);refine goesL_ (some 98) rfl rfl Try.func27 (by kernel_rfl) rfl #[.slice Ao90 t157.length co90,.slice Ao72 t113.length co72] rfl (by (try simp only [List.map_toArray,List.map_cons,List.map_nil]);first | done | rfl | (simp only [List.length_drop,List.length_take];rfl)) ?_;(with_reducible refine (qqz.calls k _ _ t157 _ _ t113 true _ ?side1 ?side2 ?side3 ?side4 A46.out).mono ?_);(case side1 => repeat (first | exact (Kd.R_reads' HO159.out).2.2 | (with_reducible refine Kd.C_alloc ?_ _) | (with_reducible refine Kd.C_drewN ?_ _) | (with_reducible refine Kd.C_drew ?_)));(case side2 => exact (Kd.R_reads' HO159.out).2.1);(case side3 => repeat (first | exact (Kd.R_reads' HO115.out).2.2 | (with_reducible refine Kd.C_alloc ?_ _) | (with_reducible refine Kd.C_drewN ?_ _) | (with_reducible refine Kd.C_drew ?_)));(case side4 => exact (Kd.R_reads' HO115.out).2.1);rintro e w' ⟨rfl,⟨nd,rfl⟩⟩;refine ⟨_,rfl,?_⟩) | ((with_reducible refine jv (f := 33) rfl ?_);refine goesL_ (some 102) rfl rfl Try.func33 (by kernel_rfl) rfl #[.slice Ao71 t146.length co71,.int .i64 1] rfl (by (try simp only [List.map_toArray,List.map_cons,List.map_nil]);first | done | (rw [show t146.length = t126.length from (Kd.R_reads' HO128.out).1.symm] <;> rfl) | rfl | (simp only [List.length_drop,List.length_take];rfl)) ?_;(with_reducible refine (qqx.calls k _ _ t146 1 t161 _ ?side1 ?side2 A48.out).mono ?_);(case side1 => repeat (first | exact (Kd.R_reads' HO128.out).2.2 | (with_reducible refine Kd.C_alloc ?_ _) | (with_reducible refine Kd.C_drewN ?_ _) | (with_reducible refine Kd.C_drew ?_)));(case side2 => rw [show t146.length = t126.length from (Kd.R_reads' HO128.out).1.symm];exact (Kd.R_reads' HO128.out).2.1);rintro e w' ⟨rfl,⟨nd,rfl⟩⟩;refine ⟨_,rfl,?_⟩))
               go_ret
               exact ⟨by first | rfl | (simp [*,jk,jj] <;> rfl),by repeat (first | (with_reducible first | exact HB.out | apply qj | apply qz | apply qk | refine qx ?_ GE101.out | refine qx ?_ GE122.out) | exact HB.out)⟩
              ·rw [if_neg c50] at H
               exact absurd H (by simp)
            ·replace c47 := Bool.eq_false_iff.mpr c47
             subst c47
             have H1 : (none) = some r := by rw [if_neg (show ¬ (false = true) by decide)] at H;exact H
             clear H
             have H := H1
             clear H1
             exact absurd H (by simp)
           ·rw [if_neg c42] at H
            exact absurd H (by simp)
         ·replace c38 := Bool.eq_false_iff.mpr c38
          subst c38
          have H1 : (none) = some r := by rw [if_neg (show ¬ (false = true) by decide)] at H;exact H
          clear H
          have H := H1
          clear H1
          exact absurd H (by simp)
       ·replace c33 := Bool.eq_false_iff.mpr c33
        subst c33
        have H1 : (none) = some r := by rw [if_neg (show ¬ (false = true) by decide)] at H;exact H
        clear H
        have H := H1
        clear H1
        exact absurd H (by simp)
      ·replace c30 := Bool.eq_false_iff.mpr c30
       subst c30
       have H1 : (none) = some r := by rw [if_neg (show ¬ (false = true) by decide)] at H;exact H
       clear H
       have H := H1
       clear H1
       exact absurd H (by simp)
     ·replace c27 := Bool.eq_false_iff.mpr c27
      subst c27
      have H1 : (none) = some r := by rw [if_neg (show ¬ (false = true) by decide)] at H;exact H
      clear H
      have H := H1
      clear H1
      exact absurd H (by simp)
open Go.RowKit Go.Proofs.Ytgolcojhnklfdaa.Read Go.Proofs.YtgolcojhnklfdaaW.PrintWords
def ok102 (x : S102) : Prop := (okL okB) x.f0 ∧ okI x.f1 ∧ (okL okB) x.f2
theorem tells102 : Tells Try.prog 102 k102 ok102 :=
 tells_iso (fun x : S102 => (x.f0,x.f1,x.f2)) (fun a => ⟨a.1,a.2.1,a.2.2⟩) (fun _ => rfl) (tells_struct Try.underlying102 (by kernel_rfl) (fs_cons rfl (tellsL Try.underlying26 (by kernel_rfl) (tellsB Try.underlying5 (by kernel_rfl))) (fs_cons rfl (tellsI Try.underlying3 (by kernel_rfl)) (fs_one rfl (tellsL Try.underlying26 (by kernel_rfl) (tellsB Try.underlying5 (by kernel_rfl)))))))
def xx.Pure : Prop := ∀ (a0_0 : Int) (a0_1 : Int) (l0_2 : (List ByteArray)) (a0_3 : Int) (a1 : ByteArray) (a2 : ByteArray) (l3 : (List S102)),okI a0_0 → okI a0_1 → (okL okS) l0_2 → okI a0_3 → okS a1 → okS a2 → (okL ok102) l3 → ∃ k,xx.f k a0_0 a0_1 l0_2 a0_3 a1 a2 l3 = some true
theorem w64 {n : Int} (h0 : -9223372036854775808 ≤ n) (h1 : n ≤ 9223372036854775807) : wrap64 n = n := by unfold wrap64;omega
theorem rd_nat {l : List Int} {i : Nat} (h : i < l.length) : rd l (i : Int) = l[i] := by
 simp [rd,List.getD_eq_getElem?_getD,List.getElem?_eq_getElem h]
theorem szByteS_eq (l : List Int) (n : Int) : qzw.f l n = some (if wrap64 (n - l.length) < 0 then -1 else wrap64 (n - l.length)) := by
 unfold qzw.f;split <;> rfl
theorem toByteS_l0 (x0 : List Int) (hl : x0.length ≤ 281474976710656) (d : Nat) : ∀ (k i : Nat) (x3 : List Int),x0.length - i = d → i ≤ x0.length → x3.length = x0.length → d < k → qjk.l0 k x0 x3 i = some (x3.take i ++ x0.drop i) := by
 induction d with
 | zero =>
  intro k i x3 hd hi h3 hk
  obtain ⟨k,rfl⟩ : ∃ m,k = m + 1 := ⟨k - 1,by omega⟩
  simp only [qjk.l0]
  rw [if_neg (by omega),List.take_of_length_le (by omega),List.drop_of_length_le (by omega),List.append_nil]
 | succ d ih =>
  intro k i x3 hd hi h3 hk
  obtain ⟨k,rfl⟩ : ∃ m,k = m + 1 := ⟨k - 1,by omega⟩
  simp only [qjk.l0]
  rw [if_pos (by omega),if_pos (by omega),if_pos (by omega),w64 (by omega) (by omega)]
  have e := ih k (i + 1) (x3.set i (rd x0 i)) (by omega) (by omega) (by simpa using h3) (by omega)
  rw [Int.toNat_natCast]
  rw [show ((i : Int) + 1) = ((i + 1 : Nat) : Int) from rfl,e]
  congr 1
  have hlt : i < x0.length := by omega
  rw [List.take_succ_eq_append_getElem (by simp;omega),List.getElem_set_self,List.take_set_of_le (by omega),rd_nat hlt,List.append_assoc,List.singleton_append,← List.drop_eq_getElem_cons hlt]
theorem toByteS_ev (l : List Int) (hl : l.length ≤ 281474976710656) : Ev (fun k => qjk.f k l) l :=
 ⟨l.length + 1,fun k hk => by
  show qjk.f k l = some l
  unfold qjk.f
  rw [if_pos (by omega),if_pos (by omega)]
  have := toByteS_l0 l hl l.length k 0 (List.replicate ((l.length : Int)).toNat 0) (by omega) (by omega) (by simp) (by omega)
  simpa using this⟩
theorem eqByteS_l0 (x0 x1 : List Int) (hl : x0.length = x1.length) (hm : x0.length ≤ 281474976710656) (d : Nat) : ∀ (k i : Nat),x0.length - i = d → i ≤ x0.length → d < k → qqq.l0 k x0 x1 i = some (decide (x0.drop i = x1.drop i)) := by
 induction d with
 | zero =>
  intro k i hd hi hk
  obtain ⟨k,rfl⟩ : ∃ m,k = m + 1 := ⟨k - 1,by omega⟩
  simp only [qqq.l0]
  rw [if_neg (by omega),List.drop_of_length_le (by omega),List.drop_of_length_le (by omega)];simp
 | succ d ih =>
  intro k i hd hi hk
  obtain ⟨k,rfl⟩ : ∃ m,k = m + 1 := ⟨k - 1,by omega⟩
  simp only [qqq.l0]
  have h0 : i < x0.length := by omega
  have h1 : i < x1.length := by omega
  rw [if_pos (by omega),if_pos (by omega),if_pos (by omega),w64 (by omega) (by omega),rd_nat h0,rd_nat h1,List.drop_eq_getElem_cons h0,List.drop_eq_getElem_cons h1]
  have e := ih k (i + 1) (by omega) (by omega) (by omega)
  rw [show ((i : Int) + 1) = ((i + 1 : Nat) : Int) from rfl,e]
  by_cases hx : x0[i] = x1[i]
  ·rw [if_pos hx];congr 1;rw [decide_eq_decide,hx,List.cons.injEq];exact ⟨fun h => ⟨rfl,h⟩,fun h => h.2⟩
  ·rw [if_neg hx];congr 1;symm;rw [decide_eq_false_iff_not,List.cons.injEq];exact fun h => hx h.1
theorem eqByteS_ev (a b : List Int) (hl : a.length ≤ 281474976710656) : Ev (fun k => qqq.f k a b) (decide (a = b)) :=
 ⟨a.length + 1,fun k hk => by
  show qqq.f k a b = _
  unfold qqq.f
  by_cases h : a.length = b.length
  ·rw [if_pos (by omega)]
   have := eqByteS_l0 a b h hl a.length k 0 (by omega) (by omega) (by omega)
   simpa using this
  ·rw [if_neg (by omega)]
   have : a ≠ b := fun e => h (by rw [e])
   simp [this]⟩
theorem eqByteS_refl (a : List Int) (hl : a.length ≤ 281474976710656) : Ev (fun k => qqq.f k a a) true := by
 have := eqByteS_ev a a hl
 simpa using this
def inP (a : List Int) : Prop := a.length = 4 ∧ ∀ j,j < 4 → 0 ≤ a.getD j 0 ∧ a.getD j 0 < 2147483579
theorem inP_start : inP [11,22,33,44] := ⟨rfl,by decide⟩
theorem inP_mix {a : List Int} (h : inP a) (x : Int) (hx : 0 ≤ x) : inP (dgMix a x) := ⟨by rw [dgMix,mix_len,h.1],mix_bd a x hx h.1 h.2 4 (by omega)⟩
theorem dgAll_cons (a : List Int) (x : Int) (l : List Int) : dgAll a (x :: l) = dgAll (dgMix a x) l := rfl
theorem mt_at (i : Nat) (h : i < 4) : rd [1103515245,69069,1664525,22695477] (i : Int) = mulT.getD i 0 := by
 match i,h with
 | 0,_ => rfl
 | 1,_ => rfl
 | 2,_ => rfl
 | 3,_ => rfl
theorem rd_getD (l : List Int) (i : Nat) : rd l (i : Int) = l.getD i 0 := by simp [rd]
theorem specMix_step (l : List Int) (h : inP l) (x : Int) (hx : 0 ≤ x ∧ x ≤ 255) (i : Nat) (hi : i < 4) (k : Nat) :
  qwq.l0 (k + 1) (mixN l x i) x [1103515245,69069,1664525,22695477] i = qwq.l0 k (mixN l x (i + 1)) x [1103515245,69069,1664525,22695477] ((i + 1 : Nat) : Int) := by
 have hlen : (mixN l x i).length = 4 := by rw [mix_len,h.1]
 have b1 := mix_bd l x hx.1 h.1 h.2 i (by omega) i hi
 have b2 := mix_bd l x hx.1 h.1 h.2 i (by omega) ((i + 1) % 4) (by omega)
 have b3 := mulOk i hi
 simp only [qwq.l0]
 rw [w64 (n := (i : Int) + 1) (by omega) (by omega)]
 have e6 : Int.tmod ((i : Int) + 1) 4 = ((i + 1) % 4 : Nat) := by rw [Int.tmod_eq_emod_of_nonneg (by omega)];omega
 rw [e6,mt_at i hi,rd_getD,rd_getD]
 obtain ⟨p1,e1⟩ : ∃ p,p = (mixN l x i).getD i 0 := ⟨_,rfl⟩
 obtain ⟨p2,e2⟩ : ∃ p,p = (mixN l x i).getD ((i + 1) % 4) 0 := ⟨_,rfl⟩
 obtain ⟨p3,e3⟩ : ∃ p,p = mulT.getD i 0 := ⟨_,rfl⟩
 have e5 : mixN l x (i + 1) = (mixN l x i).set i ((p1 * p3 + x + 1 + p2) % 2147483579) := by rw [e1,e2,e3];rfl
 rw [e5,← e1,← e2,← e3]
 rw [← e1] at b1;rw [← e2] at b2;rw [← e3] at b3
 have b4 := prod_bd b1.1 b1.2 b3.1 b3.2
 rw [if_pos (by omega),if_pos (by omega),if_pos (by omega),if_pos (by simp;omega),if_pos (by omega),if_pos (by omega),w64 (n := p1 * p3) (by omega) (by omega),w64 (n := p1 * p3 + x) (by omega) (by omega),w64 (n := p1 * p3 + x + 1) (by omega) (by omega),w64 (by omega) (by omega),Int.tmod_eq_emod_of_nonneg (by omega),Int.toNat_natCast]
 rfl
theorem specMix_eq (l : List Int) (h : inP l) (x : Int) (hx : 0 ≤ x ∧ x ≤ 255) (k : Nat) (hk : 5 ≤ k) : qwq.f k l x = some (dgMix l x) := by
 obtain ⟨k,rfl⟩ : ∃ m,k = m + 5 := ⟨k - 5,by omega⟩
 unfold qwq.f
 have e0 := specMix_step l h x hx 0 (by omega) (k + 4)
 have e1 := specMix_step l h x hx 1 (by omega) (k + 3)
 have e2 := specMix_step l h x hx 2 (by omega) (k + 2)
 have e3 := specMix_step l h x hx 3 (by omega) (k + 1)
 have e4 : qwq.l0 (k + 1) (mixN l x 4) x [1103515245,69069,1664525,22695477] ((3 + 1 : Nat) : Int) = some (mixN l x 4) := by
  simp only [qwq.l0];rw [if_neg (by omega)]
 exact e0.trans (e1.trans (e2.trans (e3.trans e4)))
theorem tm256 (n : Int) (h : 0 ≤ n) : Int.tmod n 256 % 256 = n % 256 := by rw [Int.tmod_eq_emod_of_nonneg h];omega
theorem td256 (n : Int) (h : 0 ≤ n) (h2 : n ≤ 9223372036854775807) : wrap64 (Int.tdiv n 256) = n / 256 := by
 rw [Int.tdiv_eq_ediv_of_nonneg h,w64 (by omega) (by omega)]
theorem specBytes_eq (n : Int) (h : 0 ≤ n) (h2 : n ≤ 9223372036854775807) (k : Nat) (hk : 5 ≤ k) : qvv.f k n = some (yb n) := by
 obtain ⟨k,rfl⟩ : ∃ m,k = m + 5 := ⟨k - 5,by omega⟩
 unfold qvv.f
 rw [if_pos (by omega)]
 simp only [Option.bind_some,List.length_replicate]
 simp only [qvv.l0]
 have a1 := td256 n h h2
 have a2 := td256 (n / 256) (by omega) (by omega)
 have a3 := td256 (n / 256 / 256) (by omega) (by omega)
 have w1 : wrap64 ((0 : Int) + 1) = 1 := by unfold wrap64;omega
 have w2 : wrap64 ((1 : Int) + 1) = 2 := by unfold wrap64;omega
 have w3 : wrap64 ((2 : Int) + 1) = 3 := by unfold wrap64;omega
 have w4 : wrap64 ((3 : Int) + 1) = 4 := by unfold wrap64;omega
 rw [w1,w2,w3,w4,a1,a2,a3,tm256 n h,tm256 _ (by omega),tm256 _ (by omega),tm256 _ (by omega)]
 simp [yb,List.replicate]
 omega
theorem specDig_l3 (a : List Int) (h : inP a) : ∀ (k : Nat),10 ≤ k → qvw.l3 k [] a (a.length : Int) 0 = some (a.flatMap yb) := by
 intro k hk
 obtain ⟨k,rfl⟩ : ∃ m,k = m + 10 := ⟨k - 10,by omega⟩
 obtain ⟨hl,hb⟩ := h
 match a,hl with
 | [b0,b1,b2,b3],_ =>
  have h0 := hb 0 (by omega)
  have h1 := hb 1 (by omega)
  have h2 := hb 2 (by omega)
  have h3 := hb 3 (by omega)
  simp only [List.getD_cons_zero,List.getD_cons_succ] at h0 h1 h2 h3
  have w1 : wrap64 ((0 : Int) + 1) = 1 := by unfold wrap64;omega
  have w2 : wrap64 ((1 : Int) + 1) = 2 := by unfold wrap64;omega
  have w3 : wrap64 ((2 : Int) + 1) = 3 := by unfold wrap64;omega
  have w4 : wrap64 ((3 : Int) + 1) = 4 := by unfold wrap64;omega
  have r0 : rd [b0,b1,b2,b3] 0 = b0 := rfl
  have r1 : rd [b0,b1,b2,b3] 1 = b1 := rfl
  have r2 : rd [b0,b1,b2,b3] 2 = b2 := rfl
  have r3 : rd [b0,b1,b2,b3] 3 = b3 := rfl
  simp only [qvw.l3,w1,w2,w3,w4,r0,r1,r2,r3]
  rw [specBytes_eq b0 (by omega) (by omega) _ (by omega),specBytes_eq b1 (by omega) (by omega) _ (by omega),specBytes_eq b2 (by omega) (by omega) _ (by omega),specBytes_eq b3 (by omega) (by omega) _ (by omega)]
  simp [yb]
theorem specDig_l2 (d : Nat) : ∀ (a : List Int) (k i : Nat),inP a → i + d = 8 → d + 12 ≤ k → qvw.l2 k a i = some ((dgAll a (List.replicate d 0)).flatMap yb) := by
 induction d with
 | zero =>
  intro a k i h hi hk
  obtain ⟨k,rfl⟩ : ∃ m,k = m + 1 := ⟨k - 1,by omega⟩
  simp only [qvw.l2]
  rw [if_neg (by omega),specDig_l3 a h k (by omega)];rfl
 | succ d ih =>
  intro a k i h hi hk
  obtain ⟨k,rfl⟩ : ∃ m,k = m + 1 := ⟨k - 1,by omega⟩
  simp only [qvw.l2]
  rw [if_pos (by omega),specMix_eq a h 0 (by omega) k (by omega)]
  simp only [Option.bind_some]
  rw [w64 (by omega) (by omega),show ((i : Int) + 1) = ((i + 1 : Nat) : Int) from rfl,ih (dgMix a 0) k (i + 1) (inP_mix h 0 (by omega)) (by omega) (by omega)]
  rfl
theorem wbyte {x : Int} (h : 0 ≤ x ∧ x ≤ 255) : wrap64 x = x := w64 (by omega) (by omega)
theorem drop_rd {l : List Int} {i : Nat} (h : i < l.length) : l.drop i = rd l i :: l.drop (i + 1) := by rw [List.drop_eq_getElem_cons h,rd_nat h]
theorem specDig_l1 (xs : List Int) (hx : isBytes xs) (hl : xs.length ≤ 1000000000) (d : Nat) : ∀ (a : List Int) (k i : Nat),inP a → i + d = xs.length → d + 24 ≤ k →
  qvw.l1 k a xs (xs.length : Int) i = some ((dgAll (dgAll a (xs.drop i)) (List.replicate 8 0)).flatMap yb) := by
 induction d with
 | zero =>
  intro a k i h hi hk
  obtain ⟨k,rfl⟩ : ∃ m,k = m + 1 := ⟨k - 1,by omega⟩
  simp only [qvw.l1]
  rw [if_neg (by omega),List.drop_of_length_le (by omega)]
  exact specDig_l2 8 a k 0 h (by omega) (by omega)
 | succ d ih =>
  intro a k i h hi hk
  obtain ⟨k,rfl⟩ : ∃ m,k = m + 1 := ⟨k - 1,by omega⟩
  have hlt : i < xs.length := by omega
  have hb := hx (rd xs i) (rd_mem hlt)
  simp only [qvw.l1]
  rw [if_pos (by omega),if_pos (by omega),if_pos (by omega),wbyte hb,specMix_eq a h _ hb k (by omega)]
  simp only [Option.bind_some]
  rw [w64 (by omega) (by omega),show ((i : Int) + 1) = ((i + 1 : Nat) : Int) from rfl,ih _ k (i + 1) (inP_mix h _ hb.1) (by omega) (by omega),drop_rd hlt,dgAll_cons]
theorem specDig_l0 (xs ys : List Int) (hx : isBytes xs) (hl : xs.length ≤ 1000000000) (hly : ys.length ≤ 1000000000) (d : Nat) : ∀ (a : List Int) (k i : Nat),inP a → i + d = xs.length → d + 40 ≤ k →
  qvw.l0 k ys a xs (xs.length : Int) i = some ((dgAll (dgAll (dgAll a (xs.drop i)) (yb ys.length)) (List.replicate 8 0)).flatMap yb) := by
 induction d with
 | zero =>
  intro a k i h hi hk
  obtain ⟨k,rfl⟩ : ∃ m,k = m + 1 := ⟨k - 1,by omega⟩
  simp only [qvw.l0]
  rw [if_neg (by omega),List.drop_of_length_le (by omega),specBytes_eq _ (by omega) (by omega) k (by omega)]
  exact specDig_l1 (yb ys.length) (yb_bytes _) (by rw [yb_len];omega) 4 a k 0 h (by rw [yb_len]) (by omega)
 | succ d ih =>
  intro a k i h hi hk
  obtain ⟨k,rfl⟩ : ∃ m,k = m + 1 := ⟨k - 1,by omega⟩
  have hlt : i < xs.length := by omega
  have hb := hx (rd xs i) (rd_mem hlt)
  simp only [qvw.l0]
  rw [if_pos (by omega),if_pos (by omega),if_pos (by omega),wbyte hb,specMix_eq a h _ hb k (by omega)]
  simp only [Option.bind_some]
  rw [w64 (by omega) (by omega),show ((i : Int) + 1) = ((i + 1 : Nat) : Int) from rfl,ih _ k (i + 1) (inP_mix h _ hb.1) (by omega) (by omega),drop_rd hlt,dgAll_cons]
theorem specDigest_eq (l : List Int) (h : isBytes l) (hl : l.length ≤ 1000000000) (k : Nat) (hk : l.length + 40 ≤ k) : qvw.f k l = some (dg l) := by
 have := specDig_l0 l l h hl hl l.length [11,22,33,44] k 0 inP_start (by omega) hk
 simpa [qvw.f,dg,dgS] using this
theorem specDigest_ev (l : List Int) (h : isBytes l) (hl : l.length ≤ 1000000000) : Ev (fun k => qvw.f k l) (dg l) := ⟨_,fun k hk => specDigest_eq l h hl k hk⟩
theorem isBytes_flatMap_yb (a : List Int) : isBytes (a.flatMap yb) := by
 intro x hx
 obtain ⟨n,_,hn⟩ := List.mem_flatMap.1 hx
 exact yb_bytes n x hn
theorem dg_bytes (l : List Int) : isBytes (dg l) := isBytes_flatMap_yb _
theorem dgAll_len : ∀ (l a : List Int),(dgAll a l).length = a.length
 | [],_ => rfl
 | x :: l,a => by rw [dgAll_cons,dgAll_len l,dgMix,mix_len]
theorem dg_len (l : List Int) : (dg l).length = 16 := by
 have h : (dgS l).length = 4 := by simp [dgS,dgAll_len]
 unfold dg
 match dgS l,h with
 | [b0,b1,b2,b3],_ => rfl
theorem isBytes_append {a b : List Int} (h : isBytes a) (h2 : isBytes b) : isBytes (a ++ b) := fun x hx => (List.mem_append.1 hx).elim (h x) (h2 x)
theorem implDigest_eq (l : List Int) (h : isBytes l) (hl : l.length ≤ 20000) : wk.f l = some (dg l) := by
 unfold wk.f;rw [if_pos h,if_neg (by omega)]
theorem isBytes_okL {l : List Int} (h : okL okB l) : isBytes l := fun x hx => h.2 x hx
theorem bytesOf_isBytes (s : ByteArray) : isBytes (bytesOf s) := by
 intro x hx
 simp only [bytesOf,List.mem_map] at hx
 obtain ⟨b,_,rfl⟩ := hx
 have := b.toNat_lt
 omega
def macL (key data : List Int) : List Int := dg (dg key ++ dg data)
theorem Ev.up2 {α : Type} {g : Nat → Option α} {r : α} (h : Ev (fun k => g (k + 1)) r) : Ev g r := by
 obtain ⟨n,hn⟩ := h
 refine ⟨n + 1,fun k hk => ?_⟩
 obtain ⟨k,rfl⟩ : ∃ m,k = m + 1 := ⟨k - 1,by omega⟩
 exact hn k (by omega)
theorem macTwo_ev (a b : List Int) (ha : isBytes a) (hb : isBytes b) (la : a.length ≤ 100000000) (lb : b.length ≤ 100000000) : Ev (fun k => qwz.f k a b) (dg (a ++ b)) := by
 have hab := specDigest_ev (a ++ b) (isBytes_append ha hb) (by rw [List.length_append];omega)
 simp only [qwz.f,List.length_nil,if_pos (show 0 + a.length < 140737488355328 by omega),List.nil_append,Option.bind_some,if_pos (show a.length + b.length < 140737488355328 by omega)]
 exact Ev.bind hab (Ev.now _)
theorem macS_ev (a b : List Int) (ha : isBytes a) (hb : isBytes b) (la : a.length ≤ 100000000) (lb : b.length ≤ 100000000) : Ev (fun k => qvx.f k a b) (macL a b) := by
 simp only [qvx.f]
 refine Ev.bind (specDigest_ev a ha (by omega)) ?_
 refine Ev.bind (specDigest_ev b hb (by omega)) ?_
 exact Ev.bind (macTwo_ev _ _ (dg_bytes a) (dg_bytes b) (by rw [dg_len];omega) (by rw [dg_len];omega)) (Ev.now _)
theorem macI_ev (a b : List Int) (ha : isBytes a) (hb : isBytes b) (la : a.length ≤ 20000) (lb : b.length ≤ 20000) : Ev (fun k => wv.f k a b) (macL a b) := by
 refine Ev.up2 ?_
 simp only [wv.f,if_neg (show ¬ ((a.length : Int) > 20000) by omega),decide_eq_false (show ¬ ((b.length : Int) > 20000) by omega),wv.j0,Bool.false_eq_true,if_false,implDigest_eq a ha la,implDigest_eq b hb lb,Option.bind_some,if_pos (show (dg a).length + (dg b).length < 140737488355328 by rw [dg_len,dg_len];omega),implDigest_eq _ (isBytes_append (dg_bytes a) (dg_bytes b)) (show (dg a ++ dg b).length ≤ 20000 by rw [List.length_append,dg_len,dg_len];omega)]
 exact Ev.now _
theorem mac_bytes (a b : List Int) : isBytes (macL a b) := dg_bytes _
theorem mac_len (a b : List Int) : (macL a b).length = 16 := dg_len _
theorem bytesS_eq (s : ByteArray) (h : s.size ≤ 9223372036854775807) : bytesOfS.f s = some (bytesOf s) := by unfold bytesOfS.f;rw [if_pos h]
theorem Ev.upH {α : Type} {g : Nat → Option α} {r : α} (h : Ev (fun k => g (k + 1)) r) : Ev g r := by
 obtain ⟨n,hn⟩ := h
 exact ⟨n + 1,fun k hk => by
  obtain ⟨m,rfl⟩ : ∃ m,k = m + 1 := ⟨k - 1,by omega⟩
  exact hn m (by omega)⟩
def hashR (p : ByteArray) : Nat → List Int → List Int
 | 0,h => h
 | n + 1,h => hashR p n (macL (bytesOf p) h)
def hashL (p : ByteArray) (salt : List Int) (n : Int) : List Int := if 64 < p.size ∨ 64 < salt.length ∨ n < 1 ∨ 1000 < n then [] else hashR p (n.toNat - 1) (macL (bytesOf p) salt)
theorem l16Hash_l0 (p : ByteArray) (hp : p.size ≤ 64) (n : Nat) (hn : n ≤ 1000) (d : Nat) : ∀ (i : Nat) (h : List Int),isBytes h → h.length = 16 → i + d = n → Ev (fun k => qkx.l0 k (n : Int) (bytesOf p) h (i : Int)) (hashR p d h) := by
 induction d with
 | zero =>
  intro i h hb hl hi
  refine Ev.upH ?_
  simp only [qkx.l0,if_neg (show ¬ (i : Int) < (n : Int) by omega)]
  exact Ev.now _
 | succ d ih =>
  intro i h hb hl hi
  refine Ev.upH ?_
  simp only [qkx.l0,if_pos (show (i : Int) < (n : Int) by omega)]
  refine Ev.bind (macS_ev (bytesOf p) h (bytesOf_isBytes p) hb (by rw [bytesOf_length];omega) (by omega)) ?_
  rw [w64 (show -9223372036854775808 ≤ (i : Int) + 1 by omega) (by omega),show (i : Int) + 1 = ((i + 1 : Nat) : Int) from rfl]
  exact ih (i + 1) _ (mac_bytes _ _) (mac_len _ _) (by omega)
theorem passHash_l0 (p : ByteArray) (hp : p.size ≤ 64) (n : Nat) (hn : n ≤ 1000) (d : Nat) : ∀ (i : Nat) (h : List Int),isBytes h → h.length = 16 → i + d = n → Ev (fun k => xq.l0 k p h (n : Int) (i : Int)) (hashR p d h) := by
 induction d with
 | zero =>
  intro i h hb hl hi
  refine Ev.upH ?_
  simp only [xq.l0,if_neg (show ¬ (i : Int) < (n : Int) by omega)]
  exact Ev.now _
 | succ d ih =>
  intro i h hb hl hi
  refine Ev.upH ?_
  simp only [xq.l0,if_pos (show (i : Int) < (n : Int) by omega),bytesS_eq p (by omega),Option.bind_some]
  refine Ev.bind (macI_ev (bytesOf p) h (bytesOf_isBytes p) hb (by rw [bytesOf_length];omega) (by omega)) ?_
  rw [w64 (show -9223372036854775808 ≤ (i : Int) + 1 by omega) (by omega),show (i : Int) + 1 = ((i + 1 : Nat) : Int) from rfl]
  exact ih (i + 1) _ (mac_bytes _ _) (mac_len _ _) (by omega)
theorem specHash_ev (p : ByteArray) (salt : List Int) (n : Int) (hs : isBytes salt) : Ev (fun k => qkk.f k p salt n) (hashL p salt n) := by
 unfold hashL
 by_cases h1 : 64 < p.size
 ·simp only [qkk.f,if_pos (show (p.size : Int) > 64 by omega),if_pos (Or.inl h1)];exact Ev.now _
 by_cases h2 : 64 < salt.length
 ·simp only [qkk.f,if_neg (show ¬ (p.size : Int) > 64 by omega),if_pos (show (salt.length : Int) > 64 by omega),if_pos (Or.inr (Or.inl h2))];exact Ev.now _
 by_cases h3 : n < 1
 ·simp only [qkk.f,if_neg (show ¬ (p.size : Int) > 64 by omega),if_neg (show ¬ (salt.length : Int) > 64 by omega),if_pos h3,if_pos (Or.inr (Or.inr (Or.inl h3)))];exact Ev.now _
 by_cases h4 : 1000 < n
 ·simp only [qkk.f,if_neg (show ¬ (p.size : Int) > 64 by omega),if_neg (show ¬ (salt.length : Int) > 64 by omega),if_neg h3,if_pos (show n > 1000 from h4),if_pos (Or.inr (Or.inr (Or.inr h4)))];exact Ev.now _
 rw [if_neg (fun h => by rcases h with h | h | h | h <;> contradiction)]
 obtain ⟨m,rfl⟩ : ∃ m : Nat,n = (m : Int) := ⟨n.toNat,by omega⟩
 simp only [qkk.f,if_neg (show ¬ (p.size : Int) > 64 by omega),if_neg (show ¬ (salt.length : Int) > 64 by omega),if_neg h3,if_neg (show ¬ (m : Int) > 1000 from h4),qkx.f,bytesS_eq p (by omega),Option.bind_some]
 refine Ev.bind (Ev.bind (macS_ev (bytesOf p) salt (bytesOf_isBytes p) hs (by rw [bytesOf_length];omega) (by omega)) ?_) (Ev.now _)
 rw [Int.toNat_natCast]
 exact l16Hash_l0 p (by omega) m (by omega) (m - 1) 1 _ (mac_bytes _ _) (mac_len _ _) (by omega)
theorem implHash_ev (p : ByteArray) (salt : List Int) (n : Int) (hs : isBytes salt) : Ev (fun k => xq.f k p salt n) (hashL p salt n) := by
 unfold hashL
 refine Ev.upH ?_
 by_cases h1 : 64 < p.size
 ·simp only [xq.f,xq.j0,if_pos (show (p.size : Int) > 64 by omega),if_pos (Or.inl h1),if_true];exact Ev.now _
 by_cases h2 : 64 < salt.length
 ·simp only [xq.f,xq.j0,if_neg (show ¬ (p.size : Int) > 64 by omega),if_pos (show (salt.length : Int) > 64 by omega),if_pos (Or.inr (Or.inl h2)),if_true];exact Ev.now _
 by_cases h3 : n < 1
 ·simp only [xq.f,xq.j0,if_neg (show ¬ (p.size : Int) > 64 by omega),if_neg (show ¬ (salt.length : Int) > 64 by omega),if_pos h3,if_pos (Or.inr (Or.inr (Or.inl h3))),if_true];exact Ev.now _
 by_cases h4 : 1000 < n
 ·simp only [xq.f,xq.j0,if_neg (show ¬ (p.size : Int) > 64 by omega),if_neg (show ¬ (salt.length : Int) > 64 by omega),if_neg h3,decide_eq_true (show n > 1000 from h4),if_pos (Or.inr (Or.inr (Or.inr h4))),if_true];exact Ev.now _
 rw [if_neg (fun h => by rcases h with h | h | h | h <;> contradiction)]
 obtain ⟨m,rfl⟩ : ∃ m : Nat,n = (m : Int) := ⟨n.toNat,by omega⟩
 simp only [xq.f,xq.j0,if_neg (show ¬ (p.size : Int) > 64 by omega),if_neg (show ¬ (salt.length : Int) > 64 by omega),if_neg h3,decide_eq_false (show ¬ (m : Int) > 1000 from h4),Bool.false_eq_true,if_false,bytesS_eq p (by omega),Option.bind_some]
 refine Ev.bind (macI_ev (bytesOf p) salt (bytesOf_isBytes p) hs (by rw [bytesOf_length];omega) (by omega)) ?_
 rw [Int.toNat_natCast,w64 (show -9223372036854775808 ≤ (m : Int) - 1 by omega) (by omega),show (m : Int) - 1 = ((m - 1 : Nat) : Int) by omega]
 exact passHash_l0 p (by omega) (m - 1) (by omega) (m - 1) 0 _ (mac_bytes _ _) (mac_len _ _) (by omega)
def pcL (p : ByteArray) (f0 : List Int) (f1 : Int) (f2 : List Int) : Bool := if (hashL p f0 f1).length = 0 then false else (strOfNums (hashL p f0 f1)).toList == (strOfNums f2).toList
theorem specCheck_ev (p : ByteArray) (f0 : List Int) (f1 : Int) (f2 : List Int) (hs : isBytes f0) : Ev (fun k => qkz.f k f0 f1 f2 p) (pcL p f0 f1 f2) := by
 unfold qkz.f
 refine Ev.bind (specHash_ev p f0 f1 hs) ?_
 unfold pcL
 by_cases h : (hashL p f0 f1).length = 0
 ·simp only [if_pos h,if_neg (show ¬ ((hashL p f0 f1).length : Int) > 0 by omega)];exact Ev.now _
 ·simp only [if_neg h,if_pos (show ((hashL p f0 f1).length : Int) > 0 by omega)];exact Ev.now _
theorem implCheck_ev (p : ByteArray) (f0 : List Int) (f1 : Int) (f2 : List Int) (hs : isBytes f0) : Ev (fun k => ww.f k f0 f1 f2 p) (pcL p f0 f1 f2) := by
 unfold ww.f
 refine Ev.bind (implHash_ev p f0 f1 hs) ?_
 unfold pcL
 by_cases h : (hashL p f0 f1).length = 0
 ·simp only [if_pos h];exact Ev.now _
 ·simp only [if_neg h];exact Ev.now _
theorem contains_nil (s : List UInt8) : Lib.contains s [] = true := by
 unfold Lib.contains
 cases s with
 | nil => rfl
 | cons b l => rfl
theorem contains_cons (b : UInt8) (l sub : List UInt8) : Lib.contains (b :: l) sub = (sub.isPrefixOf (b :: l) || Lib.contains l sub) := by
 unfold Lib.contains
 rw [Lib.index]
 by_cases h : sub.isPrefixOf (b :: l) = true
 ·rw [if_pos h,h];rfl
 ·rw [if_neg h,Bool.eq_false_iff.2 h,Bool.false_or]
  have := Lib.index_ge l sub
  by_cases h2 : Lib.index l sub = -1
  ·rw [if_pos (by rw [h2];rfl),h2]
  ·rw [if_neg (by simpa using h2)]
   exact decide_eq_decide.mpr (by omega)
theorem contains_short : ∀ (s sub : List UInt8),s.length < sub.length → Lib.contains s sub = false
 | [],sub,h => by
  cases sub with
  | nil => cases h
  | cons b l => rfl
 | b :: l,sub,h => by
  rw [contains_cons,contains_short l sub (by simp only [List.length_cons] at h;omega),Bool.or_false]
  rw [Bool.eq_false_iff]
  intro hp
  have := (List.isPrefixOf_iff_prefix.1 hp).length_le
  omega
theorem ext_listC (s : ByteArray) (i j : Nat) : (s.extract i j).data.toList = (s.data.toList.drop i).take (j - i) := by
 rw [ByteArray.data_extract,Array.toList_extract,List.extract_eq_take_drop]
theorem prefix_take (sub l : List UInt8) : sub.isPrefixOf l = true ↔ l.take sub.length = sub := by
 rw [List.isPrefixOf_iff_prefix,List.prefix_iff_eq_take]
 exact ⟨fun h => h.symm,fun h => h.symm⟩
theorem l16In_l0 (what inn : ByteArray) (hw : what.size ≤ 1000000) (hi : inn.size ≤ 1000000) (d : Nat) : ∀ (k i : Nat),i + d = inn.size → d + 1 < k → qvq.l0 k what inn (i : Int) = some (Lib.contains (inn.data.toList.drop i) what.data.toList) := by
 induction d with
 | zero =>
  intro k i h hk
  obtain ⟨k,rfl⟩ : ∃ m,k = m + 1 := ⟨k - 1,by omega⟩
  have hd : inn.data.toList.drop i = [] := List.drop_eq_nil_of_le (by rw [data_length];omega)
  simp only [qvq.l0]
  rw [hd,w64 (by omega) (by omega)]
  by_cases hz : what.size = 0
  ·have hwn : what.data.toList = [] := List.eq_nil_of_length_eq_zero (by rw [data_length];exact hz)
   rw [if_pos (by omega),if_pos (by omega),if_pos (by omega),if_pos (by rw [ByteArray.toList_eq,ByteArray.toList_eq,ext_listC,hwn,show ((i : Int)).toNat = i from Int.toNat_natCast i,hd,List.take_nil]),hwn,contains_nil]
  ·rw [if_neg (by omega),contains_short [] _ (by rw [data_length,List.length_nil];omega)]
 | succ d ih =>
  intro k i h hk
  obtain ⟨k,rfl⟩ : ∃ m,k = m + 1 := ⟨k - 1,by omega⟩
  have hli : i < inn.data.toList.length := by rw [data_length];omega
  simp only [qvq.l0]
  rw [w64 (show -9223372036854775808 ≤ (i : Int) + (what.size : Int) by omega) (by omega)]
  by_cases hf : i + what.size ≤ inn.size
  ·rw [if_pos (by omega),if_pos (by omega),if_pos (by omega),show ((i : Int) + (what.size : Int)).toNat = i + what.size by omega,show ((i : Int)).toNat = i from Int.toNat_natCast i,ByteArray.toList_eq,ByteArray.toList_eq,ext_listC,Nat.add_sub_cancel_left]
   rw [List.drop_eq_getElem_cons hli,contains_cons,← List.drop_eq_getElem_cons hli]
   by_cases hp : what.data.toList.isPrefixOf (inn.data.toList.drop i) = true
   ·rw [if_pos (by have := (prefix_take _ _).1 hp;rw [data_length] at this;exact this),hp,Bool.true_or]
   ·rw [if_neg (fun e => hp ((prefix_take _ _).2 (by rw [data_length];exact e))),Bool.eq_false_iff.2 hp,Bool.false_or,w64 (show -9223372036854775808 ≤ (i : Int) + 1 by omega) (by omega),show (i : Int) + 1 = ((i + 1 : Nat) : Int) from rfl]
    exact ih k (i + 1) (by omega) (by omega)
  ·rw [if_neg (by omega),contains_short _ _ (by rw [List.length_drop,data_length,data_length];omega)]
theorem l16In_ev (what inn : ByteArray) (hw : what.size ≤ 1000000) (hi : inn.size ≤ 1000000) : Ev (fun k => qvq.f k what inn) (Lib.contains inn.data.toList what.data.toList) :=
 ⟨inn.size + 2,fun k hk => by
  have h := l16In_l0 what inn hw hi inn.size k 0 (by omega) (by omega)
  rw [List.drop_zero] at h
  exact h⟩
def prtN (s : ByteArray) : Nat → Bool
 | 0 => true
 | d + 1 => if bt s ((s.size - (d + 1) : Nat) : Int) < 32 then false else if bt s ((s.size - (d + 1) : Nat) : Int) > 126 then false else prtN s d
def prt (s : ByteArray) : Bool := prtN s s.size
theorem l1Printed_l0 (s : ByteArray) (hs : s.size ≤ 9223372036854775807) (d : Nat) : ∀ (k i : Nat),s.size - i = d → i ≤ s.size → d < k → qvk.l0 k s i = some (prtN s d) := by
 induction d with
 | zero =>
  intro k i hd hi hk
  obtain ⟨k,rfl⟩ : ∃ m,k = m + 1 := ⟨k - 1,by omega⟩
  simp only [qvk.l0]
  rw [if_neg (by omega)];rfl
 | succ d ih =>
  intro k i hd hi hk
  obtain ⟨k,rfl⟩ : ∃ m,k = m + 1 := ⟨k - 1,by omega⟩
  have e0 : s.size - (d + 1) = i := by omega
  simp only [qvk.l0,prtN,e0]
  rw [if_pos (by omega),if_pos (by omega),w64 (by omega) (by omega),show ((i : Int) + 1) = ((i + 1 : Nat) : Int) from rfl,ih k (i + 1) (by omega) (by omega) (by omega)]
  split
  ·rfl
  ·split <;> rfl
theorem l1Printed_eq (s : ByteArray) (hs : s.size ≤ 9223372036854775807) (k : Nat) (hk : s.size < k) : qvk.f k s = some (prt s) :=
 l1Printed_l0 s hs s.size k 0 (by omega) (by omega) hk
theorem yprinted_l0 (s : ByteArray) (hs : s.size ≤ 9223372036854775807) (d : Nat) : ∀ (k i : Nat),s.size - i = d → i ≤ s.size → d < k → xv.l0 k s (s.size : Int) i = some (prtN s d) := by
 induction d with
 | zero =>
  intro k i hd hi hk
  obtain ⟨k,rfl⟩ : ∃ m,k = m + 1 := ⟨k - 1,by omega⟩
  simp only [xv.l0]
  rw [if_neg (by omega)];rfl
 | succ d ih =>
  intro k i hd hi hk
  obtain ⟨k,rfl⟩ : ∃ m,k = m + 1 := ⟨k - 1,by omega⟩
  have e0 : s.size - (d + 1) = i := by omega
  simp only [xv.l0,prtN,e0]
  rw [if_pos (by omega),if_pos (by omega),if_pos (by omega),w64 (by omega) (by omega),show ((i : Int) + 1) = ((i + 1 : Nat) : Int) from rfl,ih k (i + 1) (by omega) (by omega) (by omega)]
  split
  ·rfl
  ·split <;> rfl
theorem yprinted_eq (s : ByteArray) (lo hi : Int) (hs : s.size ≤ 9223372036854775807) (k : Nat) (hk : s.size + 1 < k) : xv.f k s lo hi = some (decide (lo ≤ s.size) && decide ((s.size : Int) ≤ hi) && prt s) := by
 obtain ⟨k,rfl⟩ : ∃ m,k = m + 1 := ⟨k - 1,by omega⟩
 unfold xv.f
 have e := yprinted_l0 s hs s.size k 0 (by omega) (by omega) (by omega)
 by_cases h1 : (s.size : Int) < lo
 ·rw [if_pos h1]
  simp only [xv.j0,if_true]
  simp;omega
 ·rw [if_neg h1]
  have h1' : decide (lo ≤ (s.size : Int)) = true := decide_eq_true (by omega)
  by_cases h2 : (s.size : Int) ≤ hi
  ·have h2' : decide ((s.size : Int) > hi) = false := decide_eq_false (by omega)
   have h2'' : decide ((s.size : Int) ≤ hi) = true := decide_eq_true h2
   rw [h1',h2',h2'']
   simp only [xv.j0,Bool.false_eq_true,if_false,Bool.true_and]
   exact e
  ·have h2' : decide ((s.size : Int) > hi) = true := decide_eq_true (by omega)
   have h2'' : decide ((s.size : Int) ≤ hi) = false := decide_eq_false h2
   rw [h1',h2',h2'']
   simp [xv.j0]
theorem anyO_evF {α : Type} (p : Nat → α → Option Bool) (q : α → Bool) : ∀ l : List α,(∀ x ∈ l,Ev (fun k => p k x) (q x)) → Ev (fun k => anyO (p k) l) (l.any q)
 | [],_ => Ev.now _
 | x :: xs,h => by
  simp only [anyO,List.any_cons]
  refine Ev.bind (h x List.mem_cons_self) ?_
  by_cases hq : q x = true
  ·simp only [hq,if_true,Bool.true_or];exact Ev.now _
  ·simp only [if_neg hq,Bool.eq_false_iff.2 hq,Bool.false_or]
   exact anyO_evF p q xs (fun y hy => h y (List.mem_cons_of_mem _ hy))
def pcT (p : ByteArray) (x : StT) : Bool := pcL p x.f0 x.f1 x.f2
def pfL (a0_0 a0_1 : Int) (l0_2 : List ByteArray) (a0_3 : Int) (a1 a2 : ByteArray) (l3 : List StT) : List Int :=
 if pfBad a0_0 a0_1 l0_2 a0_3 a1 a2 l3 then [] else if l0_2.any badB = true then [] else fl 0 (pfList a0_0 a0_1 l0_2 a1 a2 (prt a2) ((l3.take a0_3.toNat).any (pcT a2)))
theorem implFaults_ev (a0_0 a0_1 : Int) (l0_2 : List ByteArray) (a0_3 : Int) (a1 a2 : ByteArray) (l3 : List StT) (hok : ∀ x ∈ l3,isBytes x.f0) : Ev (fun k => wx.f k a0_0 a0_1 l0_2 a0_3 a1 a2 l3) (pfL a0_0 a0_1 l0_2 a0_3 a1 a2 l3) := by
 unfold wx.f pfL
 by_cases h1 : pfBad a0_0 a0_1 l0_2 a0_3 a1 a2 l3
 ·simp only [if_pos h1];exact Ev.now _
 simp only [if_neg h1]
 by_cases h2 : l0_2.any badB = true
 ·simp only [if_pos h2];exact Ev.now _
 simp only [if_neg h2]
 have hz : a2.size ≤ 1000 := by unfold pfBad at h1;omega
 refine Ev.bind (anyO_evF (fun k x => heldBy k a2 x) (pcT a2) _ (fun x hx => implCheck_ev a2 x.f0 x.f1 x.f2 (hok x (List.mem_of_mem_take hx)))) ?_
 refine Ev.bind (a := prt a2) ⟨a2.size + 2,fun k hk => ?_⟩ (Ev.now _)
 show xv.f k a2 0 1000 = some (prt a2)
 rw [yprinted_eq a2 0 1000 (by omega) k (by omega),decide_eq_true (by omega),decide_eq_true (by omega)]
 rfl
theorem l2_fl (y : List Bool) (hy : y.length ≤ 100) (d : Nat) : ∀ (i : Nat) (acc : List Int),i + d = y.length → acc.length ≤ i → Ev (fun k => qkj.l2 k acc y (y.length : Int) (i : Int)) (acc ++ fl i (y.drop i)) := by
 induction d with
 | zero =>
  intro i acc h ha
  refine Ev.upH ?_
  simp only [qkj.l2,if_neg (show ¬ (i : Int) < (y.length : Int) by omega)]
  rw [List.drop_eq_nil_of_le (by omega),fl,List.append_nil]
  exact Ev.now _
 | succ d ih =>
  intro i acc h ha
  have hlt : i < y.length := by omega
  refine Ev.upH ?_
  have ex : rdOf false y (i : Int) = y[i] := by simp [rdOf,List.getD_eq_getElem?_getD,List.getElem?_eq_getElem hlt]
  simp only [qkj.l2,if_pos (show (i : Int) < (y.length : Int) by omega),if_pos (show 0 ≤ (i : Int) by omega),ex]
  rw [fl_step i y hlt,w64 (show -9223372036854775808 ≤ (i : Int) + 1 by omega) (by omega),w64 (show -9223372036854775808 ≤ 1 + (i : Int) by omega) (by omega),show (i : Int) + 1 = ((i + 1 : Nat) : Int) from rfl]
  by_cases hb : y[i] = true
  ·simp only [if_pos hb,if_pos (show acc.length < 17592186044416 by omega)]
   rw [← List.append_assoc]
   have := ih (i + 1) (acc ++ [1 + (i : Int)]) (by omega) (by rw [List.length_append,List.length_singleton];omega)
   rw [show ((1 + i : Nat) : Int) = 1 + (i : Int) by omega]
   exact this
  ·simp only [if_neg hb]
   rw [List.nil_append]
   exact ih (i + 1) acc (by omega) (by omega)
def pfEnd (a0_0 a0_1 : Int) (a1 a2 : ByteArray) (banned used : Bool) : List Int := fl 0 [decide ((a2.size : Int) < a0_0),decide (64 < a2.size),!prt a2,decide ((kindsN a2 : Int) < a0_1),decide (3 ≤ a1.size) && banF a2 a1,banned,used]
theorem qkw (a0_0 a0_1 : Int) (l0_2 : List ByteArray) (a0_3 : Int) (a1 a2 : ByteArray) (l3 : List StT) (hok : ∀ x ∈ l3,isBytes x.f0) (hz : a2.size ≤ 1000) (h1 : a1.size ≤ 1000) (h3 : l3.length ≤ 1000) (h0 : 0 ≤ a0_3) (banned : Bool) (d : Nat) : ∀ (i : Nat) (used : Bool),i + d = l3.length →
  Ev (fun k => qkj.l1 k a1 a2 banned used l3 (l3.length : Int) (i : Int) a0_0 a0_1 l0_2 a0_3) (pfEnd a0_0 a0_1 a1 a2 banned (used || ((l3.drop i).take (a0_3.toNat - i)).any (pcT a2))) := by
 induction d with
 | zero =>
  intro i used h
  refine Ev.upH ?_
  simp only [qkj.l1,if_neg (show ¬ (i : Int) < (l3.length : Int) by omega)]
  rw [List.drop_eq_nil_of_le (by omega),List.take_nil,List.any_nil,Bool.or_false]
  refine Ev.bind ⟨a2.size + 1,fun k hk => l1Printed_eq a2 (by omega) k (by omega)⟩ ?_
  simp only [qvz.f,if_pos (show a2.size ≤ 1000000 by omega),Option.bind_some,qwj.f,if_pos (show a1.size ≤ 1000000 by omega)]
  have hd : ∀ y : List Bool,y.length = 7 → Ev (fun k => qkj.j4 k ([] : List Int) y (y.length : Int) 0) (fl 0 y) := fun y hy => by
   refine Ev.upH ?_
   simp only [qkj.j4]
   have := l2_fl y (by omega) y.length 0 [] (by omega) (by simp)
   rw [List.drop_zero,List.nil_append] at this
   exact this
  unfold pfEnd
  rw [show decide (64 < a2.size) = decide ((a2.size : Int) > 64) from decide_eq_decide.mpr (by omega)]
  by_cases hu : 3 ≤ a1.size
  ·simp only [if_pos (show (a1.size : Int) ≥ 3 by omega)]
   refine Ev.bind (l16In_ev (upperB a1) (upperB a2) (by rw [upperB_size];omega) (by rw [upperB_size];omega)) ?_
   rw [decide_eq_true hu,Bool.true_and]
   exact hd _ rfl
  ·simp only [if_neg (show ¬ (a1.size : Int) ≥ 3 by omega)]
   rw [decide_eq_false hu,Bool.false_and]
   exact hd _ rfl
 | succ d ih =>
  intro i used h
  have hlt : i < l3.length := by omega
  have ex : vx l3 (i : Int) = l3[i] := by simp [vx,List.getD_eq_getElem?_getD,List.getElem?_eq_getElem hlt]
  refine Ev.upH ?_
  simp only [qkj.l1,if_pos (show (i : Int) < (l3.length : Int) by omega),if_pos (show 0 ≤ (i : Int) by omega),ex]
  rw [w64 (show -9223372036854775808 ≤ (i : Int) + 1 by omega) (by omega),show (i : Int) + 1 = ((i + 1 : Nat) : Int) from rfl]
  have hdc := List.drop_eq_getElem_cons hlt
  cases used with
  | true =>
   simp only [if_true]
   rw [Bool.true_or]
   have := ih (i + 1) true (by omega)
   rw [Bool.true_or] at this
   exact this
  | false =>
   simp only [Bool.false_eq_true,if_false]
   rw [Bool.false_or]
   by_cases hk : (i : Int) < a0_3
   ·simp only [if_pos hk]
    rw [hdc,show a0_3.toNat - i = (a0_3.toNat - (i + 1)) + 1 by omega,List.take_succ_cons,List.any_cons]
    exact Ev.bind (specCheck_ev a2 l3[i].f0 l3[i].f1 l3[i].f2 (hok _ (List.getElem_mem hlt))) (ih (i + 1) (pcT a2 l3[i]) (by omega))
   ·simp only [if_neg hk]
    have := ih (i + 1) false (by omega)
    rw [show a0_3.toNat - (i + 1) = 0 by omega,List.take_zero,List.any_nil,Bool.or_false] at this
    rw [show a0_3.toNat - i = 0 by omega,List.take_zero,List.any_nil]
    exact this
theorem qkv (a0_0 a0_1 : Int) (B : List ByteArray) (a0_3 : Int) (a1 a2 : ByteArray) (l3 : List StT) (hok : ∀ x ∈ l3,isBytes x.f0) (hz : a2.size ≤ 1000) (h1 : a1.size ≤ 1000) (h3 : l3.length ≤ 1000) (h0 : 0 ≤ a0_3) (hB : B.length ≤ 1000) (d : Nat) : ∀ (i : Nat) (banned : Bool),i + d = B.length →
  Ev (fun k => qkj.l0 k a1 a2 l3 banned B (B.length : Int) (i : Int) a0_0 a0_1 B a0_3) (if (B.drop i).any badB = true then [] else pfEnd a0_0 a0_1 a1 a2 (banned || (B.drop i).any (banF a2)) ((l3.take a0_3.toNat).any (pcT a2))) := by
 induction d with
 | zero =>
  intro i banned h
  refine Ev.upH ?_
  simp only [qkj.l0,if_neg (show ¬ (i : Int) < (B.length : Int) by omega)]
  rw [List.drop_eq_nil_of_le (by omega),List.any_nil,List.any_nil,if_neg (by simp),Bool.or_false]
  have := qkw a0_0 a0_1 B a0_3 a1 a2 l3 hok hz h1 h3 h0 banned l3.length 0 false (by omega)
  rw [List.drop_zero,Nat.sub_zero,Bool.false_or] at this
  exact this
 | succ d ih =>
  intro i banned h
  have hlt : i < B.length := by omega
  have ex : rdOf ByteArray.empty B (i : Int) = B[i] := by simp [rdOf,List.getD_eq_getElem?_getD,List.getElem?_eq_getElem hlt]
  refine Ev.upH (Ev.upH ?_)
  simp only [qkj.l0,qkj.j2,if_pos (show (i : Int) < (B.length : Int) by omega),if_pos (show 0 ≤ (i : Int) by omega),ex]
  rw [List.drop_eq_getElem_cons hlt,List.any_cons,List.any_cons,w64 (show -9223372036854775808 ≤ (i : Int) + 1 by omega) (by omega),show (i : Int) + 1 = ((i + 1 : Nat) : Int) from rfl]
  generalize B[i] = b
  by_cases c1 : b.size < 1
  ·simp only [if_pos (show (b.size : Int) < 1 by omega),if_true]
   rw [if_pos (by unfold badB;rw [decide_eq_true c1];rfl)]
   exact Ev.now _
  simp only [if_neg (show ¬ (b.size : Int) < 1 by omega)]
  by_cases c2 : 64 < b.size
  ·simp only [decide_eq_true (show (b.size : Int) > 64 by omega),if_true]
   rw [if_pos (by unfold badB;rw [decide_eq_true c2,Bool.or_true];rfl)]
   exact Ev.now _
  simp only [decide_eq_false (show ¬ (b.size : Int) > 64 by omega),Bool.false_eq_true,if_false]
  rw [show badB b = false by unfold badB;rw [decide_eq_false c1,decide_eq_false c2];rfl,Bool.false_or]
  cases banned with
  | true =>
   simp only [if_true]
   have := ih (i + 1) true (by omega)
   rw [Bool.true_or] at this ⊢
   exact this
  | false =>
   simp only [Bool.false_eq_true,if_false,qwj.f,if_pos (show a2.size ≤ 1000000 by omega),if_pos (show b.size ≤ 1000000 by omega),Option.bind_some]
   refine Ev.bind (l16In_ev (upperB b) (upperB a2) (by rw [upperB_size];omega) (by rw [upperB_size];omega)) ?_
   rw [Bool.false_or]
   exact ih (i + 1) (banF a2 b) (by omega)
theorem specFaults_ev (a0_0 a0_1 : Int) (l0_2 : List ByteArray) (a0_3 : Int) (a1 a2 : ByteArray) (l3 : List StT) (hok : ∀ x ∈ l3,isBytes x.f0) : Ev (fun k => qkj.f k a0_0 a0_1 l0_2 a0_3 a1 a2 l3) (pfL a0_0 a0_1 l0_2 a0_3 a1 a2 l3) := by
 refine Ev.upH ?_
 have hbad : pfBad a0_0 a0_1 l0_2 a0_3 a1 a2 l3 → pfL a0_0 a0_1 l0_2 a0_3 a1 a2 l3 = [] := fun h => if_pos h
 simp only [qkj.f,qkj.j0]
 by_cases c0 : a0_0 < 1
 ·simp only [if_pos c0,if_true];rw [hbad (by unfold pfBad;omega)];exact Ev.now _
 by_cases c1 : a0_0 > 64
 ·simp only [if_neg c0,if_pos c1,if_true];rw [hbad (by unfold pfBad;omega)];exact Ev.now _
 by_cases c2 : a0_1 < 0
 ·simp only [if_neg c0,if_neg c1,if_pos c2,if_true];rw [hbad (by unfold pfBad;omega)];exact Ev.now _
 by_cases c3 : a0_1 > 4
 ·simp only [if_neg c0,if_neg c1,if_neg c2,if_pos c3,if_true];rw [hbad (by unfold pfBad;omega)];exact Ev.now _
 by_cases c4 : (l0_2.length : Int) > 20
 ·simp only [if_neg c0,if_neg c1,if_neg c2,if_neg c3,if_pos c4,if_true];rw [hbad (by unfold pfBad;omega)];exact Ev.now _
 by_cases c5 : a0_3 < 0
 ·simp only [if_neg c0,if_neg c1,if_neg c2,if_neg c3,if_neg c4,if_pos c5,if_true];rw [hbad (by unfold pfBad;omega)];exact Ev.now _
 by_cases c6 : a0_3 > 10
 ·simp only [if_neg c0,if_neg c1,if_neg c2,if_neg c3,if_neg c4,if_neg c5,if_pos c6,if_true];rw [hbad (by unfold pfBad;omega)];exact Ev.now _
 by_cases c7 : (a1.size : Int) > 64
 ·simp only [if_neg c0,if_neg c1,if_neg c2,if_neg c3,if_neg c4,if_neg c5,if_neg c6,if_pos c7,if_true];rw [hbad (by unfold pfBad;omega)];exact Ev.now _
 by_cases c8 : (a2.size : Int) > 1000
 ·simp only [if_neg c0,if_neg c1,if_neg c2,if_neg c3,if_neg c4,if_neg c5,if_neg c6,if_neg c7,if_pos c8,if_true];rw [hbad (by unfold pfBad;omega)];exact Ev.now _
 by_cases c9 : (l3.length : Int) > 20
 ·simp only [if_neg c0,if_neg c1,if_neg c2,if_neg c3,if_neg c4,if_neg c5,if_neg c6,if_neg c7,if_neg c8,decide_eq_true c9,if_true];rw [hbad (by unfold pfBad;omega)];exact Ev.now _
 simp only [if_neg c0,if_neg c1,if_neg c2,if_neg c3,if_neg c4,if_neg c5,if_neg c6,if_neg c7,if_neg c8,decide_eq_false c9,Bool.false_eq_true,if_false]
 have hg : ¬ pfBad a0_0 a0_1 l0_2 a0_3 a1 a2 l3 := by unfold pfBad;omega
 unfold pfL
 rw [if_neg hg]
 have := qkv a0_0 a0_1 l0_2 a0_3 a1 a2 l3 hok (by omega) (by omega) (by omega) (by omega) (by omega) l0_2.length 0 false (by omega)
 rw [List.drop_zero,Bool.false_or] at this
 exact this
theorem Ev.upW {α : Type} {g : Nat → Option α} {r : α} (h : Ev (fun k => g (k + 1)) r) : Ev g r := by
 obtain ⟨n,h⟩ := h
 refine ⟨n + 1,fun k hk => ?_⟩
 obtain ⟨k,rfl⟩ : ∃ m,k = m + 1 := ⟨k - 1,by omega⟩
 exact h k (by omega)
theorem wrap_succ {i n : Nat} (h : i < n) (hn : n ≤ 281474976710656) : wrap64 ((i : Int) + 1) = ((i + 1 : Nat) : Int) := by rw [w64 (by omega) (by omega)];rfl
theorem rows_sz {α : Type} (l : List α) (ok small : α → Prop) (F : Nat → Int → Int → Option Int) (g : Nat → α → Int → Option Int) (hlen : l.length ≤ 1048576)
  (hstop : ∀ k x,F (k + 1) x (l.length : Int) = some x)
  (hstep : ∀ (k : Nat) (i : Nat) (h : i < l.length) (x : Int),F (k + 1) x (i : Int) = (g k l[i] x).bind fun t => if t < 0 then some (-1) else F k t ((i + 1 : Nat) : Int))
  (hok : ∀ e ∈ l,ok e) (hg : ∀ e,ok e → ∀ left : Int,0 ≤ left → left ≤ 1048576 → ∃ r : Int,Ev (fun k => g k e left) r ∧ r ≤ 1048576 ∧ (¬ r < 0 → small e)) (d : Nat) :
  ∀ (i : Nat) (left : Int),i + d = l.length → 0 ≤ left → left ≤ 1048576 → ∃ r : Int,Ev (fun k => F k left (i : Int)) r ∧ r ≤ 1048576 ∧ (¬ r < 0 → ∀ j (h : j < l.length),i ≤ j → small l[j]) := by
 induction d with
 | zero =>
  intro i left hi h0 h1
  obtain rfl : i = l.length := by omega
  refine ⟨left,Ev.upW ?_,h1,fun _ j hj hij => by omega⟩
  simp only [hstop]
  exact Ev.now _
 | succ d ih =>
  intro i left hi h0 h1
  have hlt : i < l.length := by omega
  obtain ⟨r1,e1,hr1,hs1⟩ := hg l[i] (hok _ (List.getElem_mem hlt)) left h0 h1
  by_cases hneg : r1 < 0
  ·refine ⟨-1,Ev.upW ?_,by omega,fun h => by omega⟩
   simp only [hstep _ i hlt]
   refine Ev.bind e1 ?_
   simp only [if_pos hneg]
   exact Ev.now _
  ·obtain ⟨r,er,hr1',hr⟩ := ih (i + 1) r1 (by omega) (by omega) hr1
   refine ⟨r,Ev.upW ?_,hr1',fun hn j hj hij => ?_⟩
   ·simp only [hstep _ i hlt]
    refine Ev.bind e1 ?_
    simp only [if_neg hneg]
    exact er
   ·by_cases hji : j = i
    ·subst hji;exact hs1 hneg
    ·exact hr hn j hj (by omega)
theorem rows_szf {α : Type} (l : List α) (ok small : α → Prop) (G : Nat → Int → Option Int) (F : Nat → Int → Int → Option Int) (g : Nat → α → Int → Option Int) (left : Int) (h0 : 0 ≤ left) (h1 : left ≤ 1048576) (hmax : l.length ≤ 9223372036854775807)
  (hG : ∀ k,G k left = if wrap64 (left - (l.length : Int)) < 0 then some (-1) else F k (wrap64 (left - (l.length : Int))) 0)
  (hstop : ∀ k x,F (k + 1) x (l.length : Int) = some x)
  (hstep : l.length ≤ 1048576 → ∀ (k : Nat) (i : Nat) (h : i < l.length) (x : Int),F (k + 1) x (i : Int) = (g k l[i] x).bind fun t => if t < 0 then some (-1) else F k t ((i + 1 : Nat) : Int))
  (hok : ∀ e ∈ l,ok e) (hg : ∀ e,ok e → ∀ left : Int,0 ≤ left → left ≤ 1048576 → ∃ r : Int,Ev (fun k => g k e left) r ∧ r ≤ 1048576 ∧ (¬ r < 0 → small e)) :
  ∃ r : Int,Ev (fun k => G k left) r ∧ r ≤ 1048576 ∧ (¬ r < 0 → l.length ≤ 1048576 ∧ ∀ e ∈ l,small e) := by
 have ew : wrap64 (left - (l.length : Int)) = left - (l.length : Int) := w64 (by omega) (by omega)
 by_cases h : (l.length : Int) ≤ left
 ·obtain ⟨r,er,hr1,hr⟩ := rows_sz l ok small F g (by omega) hstop (hstep (by omega)) hok hg l.length 0 (left - (l.length : Int)) (by omega) (by omega) (by omega)
  refine ⟨r,?_,hr1,fun hn => ⟨by omega,fun e he => ?_⟩⟩
  ·simp only [hG,ew,if_neg (show ¬ left - (l.length : Int) < 0 by omega)]
   exact er
  ·obtain ⟨j,hj,rfl⟩ := List.getElem_of_mem he
   exact hr hn j hj (by omega)
 ·refine ⟨-1,?_,by omega,fun hn => by omega⟩
  simp only [hG,ew,if_pos (show left - (l.length : Int) < 0 by omega)]
  exact Ev.now _
theorem set_midW {α : Type} (A : List α) (z v : α) (m i : Nat) (h : A.length = i) : (A ++ List.replicate (m + 1) z).set i v = (A ++ [v]) ++ List.replicate m z := by
 subst h
 rw [List.set_append_right _ _ (Nat.le_refl _),Nat.sub_self,List.replicate_succ,List.set_cons_zero,List.append_assoc]
 rfl
theorem rows_to {α β γ : Type} (l : List α) (z : β) (F : Nat → List β → Int → Option (List β)) (g : Nat → α → Option γ) (mk : γ → β) (cp : α → β) (hlen : l.length ≤ 1048576)
  (hstop : ∀ k x,F (k + 1) x (l.length : Int) = some x)
  (hstep : ∀ (k : Nat) (i : Nat) (h : i < l.length) (x : List β),x.length = l.length → F (k + 1) x (i : Int) = (g k l[i]).bind fun t => F k (x.set i (mk t)) ((i + 1 : Nat) : Int))
  (hg : ∀ e ∈ l,∃ t,Ev (fun k => g k e) t ∧ mk t = cp e) (d : Nat) :
  ∀ i,i + d = l.length → Ev (fun k => F k ((l.take i).map cp ++ List.replicate d z) (i : Int)) (l.map cp) := by
 induction d with
 | zero =>
  intro i hi
  obtain rfl : i = l.length := by omega
  refine Ev.upW ?_
  simp only [hstop]
  rw [List.take_length,List.replicate_zero,List.append_nil]
  exact Ev.now _
 | succ d ih =>
  intro i hi
  have hlt : i < l.length := by omega
  obtain ⟨t,et,ht⟩ := hg _ (List.getElem_mem hlt)
  have hlA : ((l.take i).map cp).length = i := by rw [List.length_map,List.length_take];omega
  have hl3 : ((l.take i).map cp ++ List.replicate (d + 1) z).length = l.length := by rw [List.length_append,hlA,List.length_replicate];omega
  refine Ev.upW ?_
  simp only [hstep _ i hlt _ hl3]
  refine Ev.bind et ?_
  rw [ht,set_midW _ _ _ _ _ hlA]
  have hn := ih (i + 1) (by omega)
  rw [List.take_succ_eq_append_getElem hlt,List.map_append,List.map_singleton] at hn
  exact hn
theorem rows_eq {α : Type} (l : List α) (F : Nat → Int → Option Bool) (g : Nat → α → Option Bool) (hlen : l.length ≤ 1048576)
  (hstop : ∀ k,F (k + 1) (l.length : Int) = some true)
  (hstep : ∀ (k : Nat) (i : Nat) (h : i < l.length),F (k + 1) (i : Int) = (g k l[i]).bind fun t => if t = true then F k ((i + 1 : Nat) : Int) else some false)
  (hg : ∀ e ∈ l,Ev (fun k => g k e) true) (d : Nat) : ∀ i,i + d = l.length → Ev (fun k => F k (i : Int)) true := by
 induction d with
 | zero =>
  intro i hi
  obtain rfl : i = l.length := by omega
  refine Ev.upW ?_
  simp only [hstop]
  exact Ev.now _
 | succ d ih =>
  intro i hi
  have hlt : i < l.length := by omega
  refine Ev.upW ?_
  simp only [hstep _ i hlt]
  refine Ev.bind (hg _ (List.getElem_mem hlt)) ?_
  simp only [if_true]
  exact ih (i + 1) (by omega)
abbrev SdL := S102
abbrev SdI := S82
def toSd (e : SdL) : SdI := ⟨e.f0,e.f1,e.f2⟩
def smallSd (e : SdL) : Prop := e.f0.length ≤ 1048576 ∧ e.f2.length ≤ 1048576
theorem rdSL_nat {l : List SdL} {i : Nat} (h : i < l.length) : vw l (i : Int) = l[i] := by simp [vw,List.getD_eq_getElem?_getD,List.getElem?_eq_getElem h]
theorem rdSI_nat {l : List SdI} {i : Nat} (h : i < l.length) : vx l (i : Int) = l[i] := by simp [vx,List.getD_eq_getElem?_getD,List.getElem?_eq_getElem h]
theorem szStored_eq (e : SdL) (ha : e.f0.length ≤ 9223372036854775807) (hb : e.f2.length ≤ 9223372036854775807) (left : Int) (h0 : 0 ≤ left) (h1 : left ≤ 1048576) : ∃ r : Int,qjq.f e.f0 e.f1 e.f2 left = some r ∧ r ≤ 1048576 ∧ (¬ r < 0 → smallSd e) := by
 unfold qjq.f
 rw [szByteS_eq,Option.bind_some,w64 (show -9223372036854775808 ≤ left - (e.f0.length : Int) by omega) (by omega)]
 by_cases h : left - (e.f0.length : Int) < 0
 ·exact ⟨-1,by rw [if_pos h,if_pos (by decide)],by omega,fun h2 => by omega⟩
 rw [if_neg h,if_neg h,szByteS_eq,Option.bind_some,w64 (show -9223372036854775808 ≤ left - (e.f0.length : Int) - (e.f2.length : Int) by omega) (by omega)]
 by_cases h2 : left - (e.f0.length : Int) - (e.f2.length : Int) < 0
 ·exact ⟨-1,by rw [if_pos h2,if_pos (by decide)],by omega,fun h2 => by omega⟩
 ·exact ⟨_,by rw [if_neg h2,if_neg h2],by omega,fun _ => ⟨by omega,by omega⟩⟩
theorem szStoredS_ev (l : List SdL) (hok : ∀ e ∈ l,e.f0.length ≤ 9223372036854775807 ∧ e.f2.length ≤ 9223372036854775807) (hmax : l.length ≤ 9223372036854775807) (left : Int) (h0 : 0 ≤ left) (h1 : left ≤ 1048576) : ∃ r : Int,Ev (fun k => qjz.f k l left) r ∧ r ≤ 1048576 ∧ (¬ r < 0 → l.length ≤ 1048576 ∧ ∀ e ∈ l,smallSd e) :=
 rows_szf l (fun e => e.f0.length ≤ 9223372036854775807 ∧ e.f2.length ≤ 9223372036854775807) smallSd (fun k x => qjz.f k l x) (fun k x i => qjz.l0 k l x i) (fun _ e x => qjq.f e.f0 e.f1 e.f2 x) left h0 h1 hmax (fun _ => rfl)
  (fun k x => by simp only [qjz.l0,if_neg (Int.lt_irrefl _)])
  (fun hl k i h x => by simp only [qjz.l0,if_pos (show (i : Int) < (l.length : Int) by omega),if_pos (Int.natCast_nonneg i),rdSL_nat h,wrap_succ h (by omega)])
  hok (fun e he x hx0 hx1 => by obtain ⟨r,e1,e2,e3⟩ := szStored_eq e he.1 he.2 x hx0 hx1;exact ⟨r,⟨0,fun _ _ => e1⟩,e2,e3⟩)
theorem toStoredS_ev (l : List SdL) (hlen : l.length ≤ 1048576) (hs : ∀ e ∈ l,smallSd e) : Ev (fun k => qjx.f k l) (l.map toSd) := by
 simp only [qjx.f,if_pos (Int.natCast_nonneg l.length),Int.toNat_natCast,if_pos (show l.length ≤ 5026338869833 by omega)]
 have := rows_to l z82 (fun k x i => qjx.l0 k l x i) (fun k e => qjw.f k e.f0 e.f1 e.f2) (fun t => (⟨t.1,t.2.1,t.2.2⟩ : SdI)) toSd hlen
  (fun k x => by simp only [qjx.l0,if_neg (Int.lt_irrefl _)])
  (fun k i h x hx => by simp only [qjx.l0,if_pos (show (i : Int) < (l.length : Int) by omega),if_pos (Int.natCast_nonneg i),rdSL_nat h,wrap_succ h (by omega),if_pos (show (i : Int) < (x.length : Int) by omega),Int.toNat_natCast])
  (fun e he => ⟨(e.f0,e.f1,e.f2),Ev.bind (toByteS_ev e.f0 (by have := (hs e he).1;omega)) (Ev.bind (toByteS_ev e.f2 (by have := (hs e he).2;omega)) (Ev.now _)),rfl⟩) l.length 0 (by omega)
 rw [List.take_zero,List.map_nil,List.nil_append] at this
 exact this
theorem eqStored_refl (e : SdI) (ha : e.f0.length ≤ 1048576) (hb : e.f2.length ≤ 1048576) : Ev (fun k => qqk.f k e.f0 e.f1 e.f2 e.f0 e.f1 e.f2) true := by
 unfold qqk.f
 refine Ev.bind (eqByteS_refl e.f0 (by omega)) ?_
 simp only [if_true]
 refine Ev.bind (eqByteS_refl e.f2 (by omega)) ?_
 simp only [if_true]
 exact Ev.now _
theorem eqStoredS_refl (l : List SdI) (hlen : l.length ≤ 1048576) (hs : ∀ e ∈ l,e.f0.length ≤ 1048576 ∧ e.f2.length ≤ 1048576) : Ev (fun k => qqv.f k l l) true := by
 simp only [qqv.f,if_true]
 exact rows_eq l (fun k i => qqv.l0 k l l i) (fun k e => qqk.f k e.f0 e.f1 e.f2 e.f0 e.f1 e.f2) hlen
  (fun k => by simp only [qqv.l0,if_neg (Int.lt_irrefl _)])
  (fun k i h => by simp only [qqv.l0,if_pos (show (i : Int) < (l.length : Int) by omega),if_pos (Int.natCast_nonneg i),rdSI_nat h,wrap_succ h (by omega)])
  (fun e he => eqStored_refl e (hs e he).1 (hs e he).2) l.length 0 (by omega)
theorem mkTotT_bound (l0 l2 : Nat → Nat) (B n : Nat) (h : ∀ i,i < n → l0 i ≤ B ∧ l2 i ≤ B) : mkTotT l0 l2 n ≤ n * (1 + 2 * B) := by
 induction n with
 | zero => exact Nat.zero_le _
 | succ n ih =>
  have h1 := ih (fun i hi => h i (by omega))
  have h2 := h n (by omega)
  show mkTotT l0 l2 n + l0 n + 1 + l2 n ≤ (n + 1) * (1 + 2 * B)
  rw [Nat.add_mul]
  omega
theorem markStored_f (l : List SdI) (c : Int) (h0 : 0 ≤ c) (h1 : c ≤ 1000000000) (hs : ∀ e ∈ l,e.f0.length ≤ 1048576 ∧ e.f2.length ≤ 1048576) (hlen : l.length ≤ 1048576) : ∃ r : Int,qzj.f l c = some r ∧ 0 ≤ r := by
 have hb : markTotS l ≤ l.length * (1 + 2 * 1048576) := by
  refine mkTotT_bound _ _ _ _ (fun i hi => ?_)
  rw [rdSI_nat hi]
  exact hs _ (List.getElem_mem hi)
 have hb2 : l.length * (1 + 2 * 1048576) ≤ 1048576 * (1 + 2 * 1048576) := Nat.mul_le_mul_right _ hlen
 refine ⟨c + markTotS l,?_,by omega⟩
 unfold qzj.f
 rw [if_pos ⟨by omega,by omega,by omega⟩]
def markI : Nat → Int → List Int
 | 0,_ => []
 | n + 1,k => k :: markI n (k + 1)
theorem markI_len : ∀ (n : Nat) (k : Int),(markI n k).length = n
 | 0,_ => rfl
 | n + 1,k => by simp [markI,markI_len n]
theorem markIntS_l0 (d : Nat) : ∀ (k i : Nat) (c : Int) (x0 : List Int),x0.length - i = d → i ≤ x0.length → x0.length ≤ 281474976710656 → 0 ≤ c → c + d ≤ 9000000000000000000 → d < k → qzq.l0 k x0 c i = some (c + d,x0.take i ++ markI d c) := by
 induction d with
 | zero =>
  intro k i c x0 hd hi hl hc hc2 hk
  obtain ⟨k,rfl⟩ : ∃ m,k = m + 1 := ⟨k - 1,by omega⟩
  simp only [qzq.l0]
  rw [if_neg (by omega),List.take_of_length_le (by omega)];simp [markI]
 | succ d ih =>
  intro k i c x0 hd hi hl hc hc2 hk
  obtain ⟨k,rfl⟩ : ∃ m,k = m + 1 := ⟨k - 1,by omega⟩
  simp only [qzq.l0]
  rw [if_pos (by omega),if_pos (by omega),w64 (by omega) (by omega),w64 (by omega) (by omega),Int.toNat_natCast]
  have e := ih k (i + 1) (c + 1) (x0.set i c) (by simp;omega) (by simp;omega) (by simpa using hl) (by omega) (by omega) (by omega)
  rw [show ((i : Int) + 1) = ((i + 1 : Nat) : Int) from rfl,e]
  have hlt : i < x0.length := by omega
  rw [List.take_succ_eq_append_getElem (by simp;omega),List.getElem_set_self,List.take_set_of_le (by omega),List.append_assoc,List.singleton_append,markI]
  congr 2;omega
theorem markIntS_ev (l : List Int) (c : Int) (hl : l.length ≤ 281474976710656) (hc : 0 ≤ c) (hc2 : c ≤ 8000000000000000000) : Ev (fun k => qzq.f k l c) (c + l.length,markI l.length c) :=
 ⟨l.length + 1,fun k hk => by
  have := markIntS_l0 l.length k 0 c l (by omega) (by omega) hl hc (by omega) (by omega)
  simpa [qzq.f] using this⟩
theorem heldIntS_l0 (n : Nat) : ∀ (k i : Nat) (c : Int) (x0 : List Int),x0.drop i = markI n c → i ≤ x0.length → x0.length ≤ 281474976710656 → 0 ≤ c → c + n ≤ 9000000000000000000 → n < k → qqx.l0 k x0 c i = some (c + n) := by
 induction n with
 | zero =>
  intro k i c x0 hd hi hl hc hc2 hk
  obtain ⟨k,rfl⟩ : ∃ m,k = m + 1 := ⟨k - 1,by omega⟩
  have hlen := congrArg List.length hd
  rw [List.length_drop,markI_len] at hlen
  simp only [qqx.l0]
  rw [if_neg (by omega)];simp
 | succ n ih =>
  intro k i c x0 hd hi hl hc hc2 hk
  obtain ⟨k,rfl⟩ : ∃ m,k = m + 1 := ⟨k - 1,by omega⟩
  have hlen := congrArg List.length hd
  rw [List.length_drop,markI_len] at hlen
  have hlt : i < x0.length := by omega
  rw [List.drop_eq_getElem_cons hlt,markI] at hd
  injection hd with h1 h2
  simp only [qqx.l0]
  rw [if_pos (by omega),if_pos (by omega),rd_nat hlt,if_pos h1,w64 (by omega) (by omega),w64 (by omega) (by omega),show ((i : Int) + 1) = ((i + 1 : Nat) : Int) from rfl,ih k (i + 1) (c + 1) x0 h2 (by omega) hl (by omega) (by omega) (by omega)]
  congr 1;omega
theorem heldIntS_ev (n : Nat) (c : Int) (hl : n ≤ 281474976710656) (hc : 0 ≤ c) (hc2 : c ≤ 8000000000000000000) : Ev (fun k => qqx.f k (markI n c) c) (c + n) :=
 ⟨n + 1,fun k hk => by
  have := heldIntS_l0 n k 0 c (markI n c) (by simp) (by omega) (by rw [markI_len];exact hl) hc (by omega) (by omega)
  simpa [qqx.f] using this⟩
theorem mtI_l0 (d : Nat) : ∀ (n : Int) (t : ByteArray),0 ≤ n → n < 10 ^ d → n ≤ 9223372036854775807 → t.size + d ≤ 1000 → ∃ r,∀ k,d < k → qzv.l0 k n t = some r := by
 induction d with
 | zero =>
  intro n t h0 h1 hb ht
  refine ⟨(⟨#[109]⟩ : ByteArray) ++ t,fun k hk => ?_⟩
  obtain ⟨k,rfl⟩ : ∃ m,k = m + 1 := ⟨k - 1,by omega⟩
  rw [qzv.l0,if_neg (by simp at h1;omega),if_pos (by omega)]
 | succ d ih =>
  intro n t h0 h1 hb ht
  by_cases hz : n > 0
  ·have hs : (strOfNums [(wrap64 (48 + (Int.tmod n 10))) % 256]).size = 1 := rfl
   have ew : wrap64 (Int.tdiv n 10) = n / 10 := by
    rw [Int.tdiv_eq_ediv_of_nonneg h0]
    unfold wrap64;omega
   obtain ⟨r,e⟩ := ih (n / 10) ((strOfNums [(wrap64 (48 + (Int.tmod n 10))) % 256]) ++ t) (by omega) (by rw [Int.pow_succ] at h1;omega) (by omega) (by rw [ByteArray.size_append,hs];omega)
   refine ⟨r,fun k hk => ?_⟩
   obtain ⟨k,rfl⟩ : ∃ m,k = m + 1 := ⟨k - 1,by omega⟩
   rw [qzv.l0,if_pos hz,Option.bind_some,hs,if_pos (by omega),ew]
   exact e k (by omega)
  ·refine ⟨(⟨#[109]⟩ : ByteArray) ++ t,fun k hk => ?_⟩
   obtain ⟨k,rfl⟩ : ∃ m,k = m + 1 := ⟨k - 1,by omega⟩
   rw [qzv.l0,if_neg hz,if_pos (by omega)]
theorem mtI_ev (n : Int) (h0 : 0 ≤ n) (h1 : n ≤ 4611686018427387904) : ∃ r : ByteArray,Ev (fun k => qzv.f k n) r := by
 by_cases hz : n ≤ 0
 ·exact ⟨_,0,fun k _ => if_pos hz⟩
 ·obtain ⟨r,e⟩ := mtI_l0 19 n (⟨#[]⟩ : ByteArray) h0 (by omega) (by omega) (by decide)
  exact ⟨r,20,fun k hk => (if_neg hz).trans (e k (by omega))⟩
theorem markStringS_l0 (d : Nat) : ∀ (i : Nat) (c : Int) (x0 : List ByteArray),i + d = x0.length → x0.length ≤ 1048576 → 0 ≤ c → c + d ≤ 4000000000000000000 → ∃ l',Ev (fun k => qzk.l0 k x0 c (i : Int)) (c + d,l') := by
 induction d with
 | zero =>
  intro i c x0 hd hl h0 h1
  refine ⟨x0,Ev.upW ?_⟩
  simp only [qzk.l0,if_neg (show ¬ (i : Int) < (x0.length : Int) by omega)]
  rw [show c + ((0 : Nat) : Int) = c by omega]
  exact Ev.now _
 | succ d ih =>
  intro i c x0 hd hl h0 h1
  obtain ⟨t,ht⟩ := mtI_ev c h0 (by omega)
  obtain ⟨l',e⟩ := ih (i + 1) (c + 1) (x0.set i t) (by rw [List.length_set];omega) (by rw [List.length_set];omega) (by omega) (by omega)
  refine ⟨l',Ev.upW ?_⟩
  simp only [qzk.l0,if_pos (show (i : Int) < (x0.length : Int) by omega),if_pos (Int.natCast_nonneg i)]
  refine Ev.bind ht ?_
  rw [w64 (show -9223372036854775808 ≤ c + 1 by omega) (by omega),w64 (show -9223372036854775808 ≤ (i : Int) + 1 by omega) (by omega),Int.toNat_natCast,show (i : Int) + 1 = ((i + 1 : Nat) : Int) from rfl,show c + ((d + 1 : Nat) : Int) = c + 1 + (d : Int) by omega]
  exact e
theorem markStringS_ev (l : List ByteArray) (c : Int) (hl : l.length ≤ 1048576) (h0 : 0 ≤ c) (h1 : c ≤ 1000000000) : ∃ l',Ev (fun k => qzk.f k l c) (c + l.length,l') := by
 obtain ⟨l',e⟩ := markStringS_l0 l.length 0 c l (by omega) hl h0 (by omega)
 exact ⟨l',e⟩
theorem rdStr_nat {l : List ByteArray} {i : Nat} (h : i < l.length) : rdOf ByteArray.empty l (i : Int) = l[i] := by simp [rdOf,List.getD_eq_getElem?_getD,List.getElem?_eq_getElem h]
theorem szStringS_ev (l : List ByteArray) (hok : ∀ e ∈ l,okS e) (hmax : l.length ≤ 9223372036854775807) (left : Int) (h0 : 0 ≤ left) (h1 : left ≤ 1048576) : ∃ r : Int,Ev (fun k => qjj.f k l left) r ∧ r ≤ 1048576 ∧ (¬ r < 0 → l.length ≤ 1048576 ∧ ∀ e ∈ l,e.size ≤ 1048576) :=
 rows_szf l okS (fun e => e.size ≤ 1048576) (fun k x => qjj.f k l x) (fun k x i => qjj.l0 k l x i) (fun _ e x => if wrap64 (x - (e.size : Int)) < 0 then some (-1) else some (wrap64 (x - (e.size : Int)))) left h0 h1 hmax (fun _ => rfl)
  (fun k x => by simp only [qjj.l0,if_neg (Int.lt_irrefl _)])
  (fun hl k i h x => by
   simp only [qjj.l0,if_pos (show (i : Int) < (l.length : Int) by omega),if_pos (Int.natCast_nonneg i),rdStr_nat h,wrap_succ h (by omega)]
   by_cases hc : wrap64 (x - (l[i].size : Int)) < 0
   ·simp only [if_pos hc,Option.bind_some,if_pos (show (-1 : Int) < 0 by decide)]
   ·simp only [if_neg hc,Option.bind_some])
  hok (fun e he x hx0 hx1 => by
   unfold okS at he
   have ew : wrap64 (x - (e.size : Int)) = x - (e.size : Int) := w64 (by omega) (by omega)
   by_cases hc : x - (e.size : Int) < 0
   ·exact ⟨-1,by simp only [ew,if_pos hc];exact Ev.now _,by omega,fun h => by omega⟩
   ·exact ⟨x - (e.size : Int),by simp only [ew,if_neg hc];exact Ev.now _,by omega,fun h => by omega⟩)
theorem toStringS_ev (l : List ByteArray) (hlen : l.length ≤ 1048576) : Ev (fun k => qkq.f k l) l := by
 simp only [qkq.f,if_pos (Int.natCast_nonneg l.length),Int.toNat_natCast,if_pos (show l.length ≤ 17592186044416 by omega)]
 have := rows_to l (⟨#[]⟩ : ByteArray) (fun k x i => qkq.l0 k l x i) (fun _ e => some e) id id hlen
  (fun k x => by simp only [qkq.l0,if_neg (Int.lt_irrefl _)])
  (fun k i h x hx => by simp only [qkq.l0,if_pos (show (i : Int) < (l.length : Int) by omega),if_pos (Int.natCast_nonneg i),rdStr_nat h,wrap_succ h (by omega),if_pos (show (i : Int) < (x.length : Int) by omega),Int.toNat_natCast,Option.bind_some,id])
  (fun e _ => ⟨e,Ev.now _,rfl⟩) l.length 0 (by omega)
 rw [List.take_zero,List.map_nil,List.nil_append,List.map_id] at this
 exact this
theorem eqStringS_refl (l : List ByteArray) (hlen : l.length ≤ 1048576) : Ev (fun k => qqw.f k l l) true := by
 simp only [qqw.f,if_true]
 exact rows_eq l (fun k i => qqw.l0 k l l i) (fun _ e => some true) hlen
  (fun k => by simp only [qqw.l0,if_neg (Int.lt_irrefl _)])
  (fun k i h => by simp only [qqw.l0,if_pos (show (i : Int) < (l.length : Int) by omega),if_pos (Int.natCast_nonneg i),rdStr_nat h,wrap_succ h (by omega),if_true,Option.bind_some])
  (fun e _ => Ev.now _) l.length 0 (by omega)
theorem eqIntS_refl (l : List Int) (hlen : l.length ≤ 1048576) : Ev (fun k => qqz.f k l l) true := by
 simp only [qqz.f,if_true]
 exact rows_eq l (fun k i => qqz.l0 k l l i) (fun _ e => some true) hlen
  (fun k => by simp only [qqz.l0,if_neg (Int.lt_irrefl _)])
  (fun k i h => by simp only [qqz.l0,if_pos (show (i : Int) < (l.length : Int) by omega),if_pos (Int.natCast_nonneg i),rd_nat h,wrap_succ h (by omega),if_true,Option.bind_some])
  (fun e _ => Ev.now _) l.length 0 (by omega)
end Go.Proofs.Ytgolcojhnklfdaa.Pr
namespace Go.Proofs.Ytgolcojhnklfdaa.Pure
open Go.RowKit Go.Proofs.Ytgolcojhnklfdaa.Read Go.Proofs.YtgolcojhnklfdaaW.PrintWords Go.Proofs.Ytgolcojhnklfdaa.Pr
set_option linter.unusedVariables false
theorem fl_len : ∀ (i : Nat) (y : List Bool),(fl i y).length ≤ y.length
 | _,[] => Nat.le_refl _
 | i,b :: bs => by
  unfold fl
  have := fl_len (i + 1) bs
  split <;> simp only [List.length_cons] <;> omega
theorem pfL_len (a0_0 a0_1 : Int) (l0_2 : List ByteArray) (a0_3 : Int) (a1 a2 : ByteArray) (l3 : List StT) : (pfL a0_0 a0_1 l0_2 a0_3 a1 a2 l3).length ≤ 1000 := by
 unfold pfL
 split
 ·exact Nat.zero_le _
 ·split
  ·exact Nat.zero_le _
  ·exact Nat.le_trans (fl_len 0 _) (by unfold pfList;simp)
theorem FnExactPassFaults : xx.Pure := by
 intro p q B g u s l _ _ hB _ hu hs hl
 apply Ev.rounds
 simp only [xx.f]
 by_cases z1 : (u.size : Int) > 1048576
 ·simp only [if_pos z1];exact Ev.now _
 by_cases z2 : (s.size : Int) > 1048576
 ·simp only [if_neg z1,if_pos z2];exact Ev.now _
 simp only [if_neg z1,if_neg z2]
 obtain ⟨r1,e1,b1,s1⟩ := szStringS_ev B hB.2 hB.1 1048576 (by omega) (by omega)
 have er : Ev (fun k => qzx.f k p q B g 1048576) (if r1 < 0 then -1 else r1) := by
  unfold qzx.f
  refine Ev.bind e1 ?_
  by_cases h : r1 < 0
  ·simp only [if_pos h];exact Ev.now _
  ·simp only [if_neg h];exact Ev.now _
 refine Ev.bind er ?_
 by_cases n1 : r1 < 0
 ·simp only [if_pos n1,if_pos (show (-1 : Int) < 0 by decide)];exact Ev.now _
 simp only [if_neg n1]
 obtain ⟨hBl,hBs⟩ := s1 n1
 obtain ⟨r2,e2,b2,s2⟩ := szStoredS_ev l (fun e he => ⟨(hl.2 e he).1.1,(hl.2 e he).2.2.1⟩) hl.1 r1 (by omega) b1
 refine Ev.bind e2 ?_
 by_cases n2 : r2 < 0
 ·simp only [if_pos n2];exact Ev.now _
 simp only [if_neg n2]
 obtain ⟨hll,hls⟩ := s2 n2
 have hto : Ev (fun k => qjv.f k p q B g) (p,q,B,g) := Ev.bind (toStringS_ev B hBl) (Ev.now _)
 have hts := toStoredS_ev l hll hls
 have hb : ∀ x ∈ l.map toSd,isBytes x.f0 := fun x hx => by
  obtain ⟨e,he,rfl⟩ := List.mem_map.1 hx
  exact isBytes_okL (hl.2 e he).1
 have hsm : ∀ x ∈ l.map toSd,x.f0.length ≤ 1048576 ∧ x.f2.length ≤ 1048576 := fun x hx => by
  obtain ⟨e,he,rfl⟩ := List.mem_map.1 hx
  exact hls e he
 have hl2 : (l.map toSd).length ≤ 1048576 := by rw [List.length_map];exact hll
 have hpl := pfL_len p q B g u s (l.map toSd)
 have hsp := specFaults_ev p q B g u s (l.map toSd) hb
 have him := implFaults_ev p q B g u s (l.map toSd) hb
 obtain ⟨B',hmB⟩ := markStringS_ev B 1 hBl (by omega) (by omega)
 obtain ⟨m,hm,hm0⟩ := markStored_f (l.map toSd) (1 + B.length) (by omega) (by omega) hsm hl2
 generalize l.map toSd = L at *
 generalize pfL p q B g u s L = R at *
 refine Ev.bind hto ?_
 refine Ev.bind hts ?_
 refine Ev.bind hsp ?_
 refine Ev.bind hto ?_
 refine Ev.bind hts ?_
 refine Ev.bind him ?_
 refine Ev.bind (eqIntS_refl R (by omega)) ?_
 simp only [if_true]
 refine Ev.bind hto ?_
 have heq : Ev (fun k => qqj.f k p q B g p q B g) true := by
  unfold qqj.f
  simp only [if_true]
  refine Ev.bind (eqStringS_refl B hBl) ?_
  simp only [if_true]
  exact Ev.now _
 refine Ev.bind heq ?_
 simp only [if_true]
 refine Ev.bind hts ?_
 refine Ev.bind (eqStoredS_refl L hl2 hsm) ?_
 simp only [if_true]
 have hmr : Ev (fun k => qzz.f k p q B g 1) (1 + (B.length : Int),B') := Ev.bind hmB (Ev.now _)
 refine Ev.bind hmr ?_
 simp only [hm,Option.bind_some,if_neg (show ¬ m < 0 by omega)]
 refine Ev.bind (eqIntS_refl R (by omega)) ?_
 simp only [if_true]
 refine Ev.bind (markIntS_ev R 1 (by omega) (by omega) (by omega)) ?_
 refine Ev.bind (heldIntS_ev R.length 1 (by omega) (by omega) (by omega)) ?_
 simp only [if_neg (show ¬ (1 + (R.length : Int)) < 0 by omega),if_true]
 refine Ev.bind hto ?_
 refine Ev.bind hts ?_
 refine Ev.bind him ?_
 refine Ev.bind (eqIntS_refl R (by omega)) ?_
 simp only [if_true]
 refine Ev.bind (heldIntS_ev R.length 1 (by omega) (by omega) (by omega)) ?_
 simp only [if_neg (show ¬ (1 + (R.length : Int)) < 0 by omega),if_true]
 exact Ev.now _
end Go.Proofs.Ytgolcojhnklfdaa.Pure
namespace Go.Proofs.Ytgolcojhnklfdaa.fnExactPassFaults
open Go.ChangeShapes Go.WideShapes Go.ChangeAt Go.RowKit Go.Proofs.Ytgolcojhnklfdaa.Read Go.Proofs.YtgolcojhnklfdaaW.PrintWords Go.Proofs.Ytgolcojhnklfdaa.Pr
open Go.ChangeMaps (open_string shut_string)
set_option linter.unusedVariables false
theorem own : ownKnob Try.prog.godebug = none := by kernel_rfl
theorem laidOut : laidOutB Try.prog = true := by kernel_rfl
set_option maxRecDepth 100000 in
theorem lifted (os : Os) (started : os.Started) (H : Type) (enc : TypeId × Value → H) :
  ReturnsInHanded {} Try.checked os 5 .any (Rows.fnExactPassFaultsSpec.pre6 enc Try.prog Try.f5 Rows.fnExactPassFaultsRow.domain false) (Rows.fnExactPassFaultsSpec.post enc Try.prog Try.f5 false true false false) := by
 refine returnsInHanded_of_change_shaped (C := Try.checked) own started (by kernel_rfl) Try.func5
  (ChangeSpec.witness6 (enc := enc) (C := Try.checked) false ⟨#[],#[.agg #[.int .i64 0,.int .i64 0,.slice none 0 0,.int .i64 0],.string ByteArray.empty,.string ByteArray.empty,.slice none 0 0],[]⟩ 8 (by kernel_rfl) (by kernel_rfl) (by kernel_rfl) (by kernel_rfl)) ?_
 intro W base args ds gs before hval0 hW hcnd _ hsh _
 have htab : TabW W := cell_of_shapedOpen_int (zero := #[.int .i64 0]) hsh (of_decide_eq_true (by kernel_rfl)) (by kernel_rfl) rfl (by kernel_rfl) (by kernel_rfl) Try.underlying3
 clear hsh
 have hval : ∀ (j : Nat) t v,Try.f5.params[j]? = some t → args[j]? = some v → Value.okWide Try.prog W .any base t v := hval0
 have hW' := hW
 obtain ⟨p,q,hA0,hV,rfl,hfz,hnd⟩ := hW
 have hA : DataW.TrodAll enc Try.prog W 0 (fun _ => true) true Try.f5.params.toList args.toList ds p := hA0
 rw [Try.params5] at hA hval
 obtain ⟨v0,vs0,d0,ds0,p0,q0,hargs,rfl,rfl,h0,r0⟩ := trodAll_cons hA
 obtain ⟨v1,vs1,d1,ds1,p1,q1,rfl,rfl,rfl,h1,r1⟩ := trodAll_cons r0
 obtain ⟨v2,vs2,d2,ds2,p2,q2,rfl,rfl,rfl,h2,r2⟩ := trodAll_cons r1
 obtain ⟨v3,vs3,d3,ds3,p3,q3,rfl,rfl,rfl,h3,r3⟩ := trodAll_cons r2
 obtain ⟨rfl,rfl,rfl⟩ := trodAll_nil r3
 obtain rfl : args = #[v0,v1,v2,v3] := by cases args;simp_all
 obtain ⟨rfl,rfl⟩ := trodVars_none hV
 have lt0 : ∀ x ∈ p0,x.block < W.heap.size := by obtain ⟨m,hm⟩ := h0;exact DataW.trod_lt m _ _ _ hm
 have bk0 := fun {W' : World} (bel : Below W.heap.size W W') => Below.trod laidOut (by kernel_rfl) (of_decide_eq_true (by kernel_rfl)) h0 bel lt0
 obtain ⟨⟨a0_0,⟨a0_1,⟨l0_2,a0_3⟩⟩⟩,cs0,hv0,hK0,⟨o0_0,⟨o0_1,⟨o0_2,o0_3⟩⟩⟩⟩ := arg_struct Try.underlying47 (tells_struct Try.underlying47 (by kernel_rfl) (fs_cons rfl (tellsI Try.underlying3 (by kernel_rfl)) (fs_cons rfl (tellsI Try.underlying3 (by kernel_rfl)) (fs_cons rfl (tellsL Try.underlying45 (by kernel_rfl) (tellsS Try.underlying9 (by kernel_rfl))) (fs_one rfl (tellsI Try.underlying3 (by kernel_rfl))))))) (hval 0 47 v0 rfl rfl) h0
 obtain ⟨_,_,rfl,rfl,⟨_,_,rfl,rfl,⟨_,_,rfl,⟨A0_2,c0_2,rfl,hl0_2,hC0_2⟩,rfl⟩⟩⟩ := hK0
 simp only [List.cons_append,List.nil_append] at hv0
 subst hv0
 have lt1 : ∀ x ∈ p1,x.block < W.heap.size := by obtain ⟨m,hm⟩ := h1;exact DataW.trod_lt m _ _ _ hm
 have bk1 := fun {W' : World} (bel : Below W.heap.size W W') => Below.trod laidOut (by kernel_rfl) (of_decide_eq_true (by kernel_rfl)) h1 bel lt1
 obtain ⟨a1,rfl,_,_,o1⟩ := open_string Try.underlying9 (hval 1 9 v1 rfl rfl) h1
 unfold maxLen at o1
 have lt2 : ∀ x ∈ p2,x.block < W.heap.size := by obtain ⟨m,hm⟩ := h2;exact DataW.trod_lt m _ _ _ hm
 have bk2 := fun {W' : World} (bel : Below W.heap.size W W') => Below.trod laidOut (by kernel_rfl) (of_decide_eq_true (by kernel_rfl)) h2 bel lt2
 obtain ⟨a2,rfl,_,_,o2⟩ := open_string Try.underlying9 (hval 2 9 v2 rfl rfl) h2
 unfold maxLen at o2
 have lt3 : ∀ x ∈ p3,x.block < W.heap.size := by obtain ⟨m,hm⟩ := h3;exact DataW.trod_lt m _ _ _ hm
 have bk3 := fun {W' : World} (bel : Below W.heap.size W W') => Below.trod laidOut (by kernel_rfl) (of_decide_eq_true (by kernel_rfl)) h3 bel lt3
 obtain ⟨A3,c3,l3,rfl,hl3,hC3,o3⟩ := arg_slice Try.underlying48 (tellsL Try.underlying48 (by kernel_rfl) tells102) (hval 3 48 v3 rfl rfl) h3
 obtain ⟨k,hk⟩ := Pure.FnExactPassFaults a0_0 a0_1 l0_2 a0_3 a1 a2 l3 o0_0 o0_1 o0_2 o0_3 o1 o2 o3
 refine (xx.calls k a0_0 a0_1 _ _ l0_2 a0_3 a1 a2 _ _ l3 true W htab hC0_2 hl0_2 hC3 hl3 hk).mono fun e W' hpost => ?_
 obtain ⟨he,hb⟩ := hpost
 have bel : Below W.heap.size W W' := hb
 subst he
 exact ⟨_,rfl,_,_,_,[],_,[],hW',trodAll_mk1 (shut_bool Try.underlying4 _),(trodAll_cons_mk (bk0 bel) (trodAll_cons_mk (bk1 bel) (trodAll_cons_mk (bk2 bel) (trodAll_cons_mk (bk3 bel) trodAll_mk0)))),rfl,bel.frame _,fun h => by cases h⟩
theorem over : Rows.fnExactPassFaultsRow.holds Try.pinned (OpenSpec.ofChange Rows.fnExactPassFaultsSpec) :=
 OpenClaim.holds_of_wide 5 Try.f5 rfl rfl rfl rfl rfl rfl rfl ⟨rfl,rfl,rfl,rfl,rfl⟩ rfl rfl rfl rfl rfl (by kernel_rfl) Try.func5 (by kernel_rfl)
  (of_decide_eq_true (by kernel_rfl)) (by unfold Func.isWrapper;first | (rw [if_pos (by decide +kernel)];kernel_rfl) | (rw [if_neg (by decide +kernel)];exact ⟨rfl,rfl⟩))
  (fun os started H enc _ => lifted os started H enc)
theorem proved : Rows.FnExactPassFaultsSaid := over
#print axioms proved
end Go.Proofs.Ytgolcojhnklfdaa.fnExactPassFaults
namespace Go.Proofs.Ytgolcojhnklfdaa
theorem fnExactPassFaults_holds : Rows.FnExactPassFaultsSaid := fnExactPassFaults.proved
end Go.Proofs.Ytgolcojhnklfdaa
