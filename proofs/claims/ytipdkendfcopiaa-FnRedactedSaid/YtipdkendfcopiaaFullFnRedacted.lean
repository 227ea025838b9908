/- The law FnRedacted: whatever the input, the call returns true and the arguments read as before. No conditions. -/
import Derived.Test.YtipdkendfcopiaaFullFnRedactedE
import Derived.Test.YtipdkendfcopiaaRows
import Derived.WalkKit
import Derived.ProofKit
import Derived.OpenShut
import Derived.ShutString
import Derived.ChangeOld
import Derived.Below
namespace Go.Proofs.Ytipdkendfcopiaa.Pr
open Go.RowKit Go.Proofs.YtipdkendfcopiaaW.PrintWords Go.Proofs.YtipdkendfcopiaaW.PrintLast Go.Proofs.YtipdkendfcopiaaW.PrintMore
attribute [local go_sem] max2_int min2_int max_two min_two max_three min_three max_four min_four
set_option linter.unusedVariables false
set_option linter.unusedSimpArgs false
def qjz.l0 : Nat → List Int → List (S27) → List (S27) → List (S27) → Int → Int → Option (Bool)
 | 0,_,_,_,_,_,_ => none
 | k + 1,x1,x5,x6,x21,x22,x23 => if x23 < x22 then (if 0 ≤ x23 then (if x23 < (x21.length : Int) then (if x23 < (x1.length : Int) then (if (Int.tmod (rd x1 x23) 2) = 0 then ((qqw.f k ((wx x21 x23).f0) ((wx x21 x23).f1) ((wx x21 x23).f2) ((wx x21 x23).f3) ((wx x21 x23).f4)).bind fun bt107 => (if bt107.2.2.1.toList = ([] : List UInt8) then (if (bt107.2.2.2.1.length : Int) > 0 then (none) else (if x6.length < 1599289640401 then (qjz.l0 k x1 x5 (x6 ++ [(⟨bt107.1,bt107.2.1,bt107.2.2.1,bt107.2.2.2.1,bt107.2.2.2.2⟩ : S27)]) x21 x22 (wrap64 (x23 + 1))) else (none))) else (none))) else (if x6.length < 1599289640401 then (qjz.l0 k x1 x5 (x6 ++ [(⟨(wx x21 x23).f0,(wx x21 x23).f1,(wx x21 x23).f2,(wx x21 x23).f3,(wx x21 x23).f4⟩ : S27)]) x21 x22 (wrap64 (x23 + 1))) else (none))) else (if x6.length < 1599289640401 then (qjz.l0 k x1 x5 (x6 ++ [(⟨(wx x21 x23).f0,(wx x21 x23).f1,(wx x21 x23).f2,(wx x21 x23).f3,(wx x21 x23).f4⟩ : S27)]) x21 x22 (wrap64 (x23 + 1))) else (none))) else (none)) else (none)) else ((qqx.f k x5).bind fun t125 => ((qkz.f k x5).bind fun t128 => ((qjj.f t125 t128).bind fun t131 => (if t131 = true then (if (t125.length : Int) = 0 then (some true) else ((qqx.f k x6).bind fun t132 => ((qjj.f t132 t125).bind fun t135 => (if t135 = true then (if (x5.length : Int) = 0 then (some true) else (if 0 ≤ ((x1.length : Int) % (x5.length : Int)) then (if ((x1.length : Int) % (x5.length : Int)) < (x6.length : Int) then ((qqj.f k ((wx x6 ((x1.length : Int) % (x5.length : Int))).f0) ((wx x6 ((x1.length : Int) % (x5.length : Int))).f1) ((wx x6 ((x1.length : Int) % (x5.length : Int))).f2) ((wx x6 ((x1.length : Int) % (x5.length : Int))).f3) ((wx x6 ((x1.length : Int) % (x5.length : Int))).f4)).bind fun t137 => ((qqv.f k x5 ((x1.length : Int) % (x5.length : Int))).bind fun t140 => ((xw.f t137 ((x1.length : Int) % (x5.length : Int)) (x5.length : Int) t140 t125).bind fun t143 => (some t143)))) else (none)) else (none))) else (none))))) else (none)))))
def qjz.f (k : Nat) (l0 : List Int) (l1 : List Int) : Option (Bool) := if (l0.length : Int) > 1048576 then (some true) else (if (l1.length : Int) > 1048576 then (some true) else ((qjw.f k l0).bind fun t101 => (qjz.l0 k l1 t101 ([] : List (S27)) t101 (t101.length : Int) 0)))
set_option maxHeartbeats 8000000 in
set_option maxRecDepth 100000 in
theorem qjz.calls (k : Nat) (A0 : Option Addr) (c0 : Nat) (l0 : List Int) (A1 : Option Addr) (c1 : Nat) (l1 : List Int) (r : Bool) (w : World) (hr0 : Kd.C (Kd.int .u8) w A0 l0.length l0) (hc0 : l0.length ≤ c0) (hr1 : Kd.C (Kd.int .u8) w A1 l1.length l1) (hc1 : l1.length ≤ c1) (h : qjz.f k l0 l1 = some r) :
  Calls Try.prog 14 #[.slice A0 l0.length c0,.slice A1 l1.length c1] w fun e w' => e = .returned (.bool r) ∧ Below w.heap.size w w' := by
 have hu27 := Try.underlying27
 have HR0 := qq.mk hr0
 have HC0 := qq.mk hc0
 clear hr0 hc0
 have HR1 := qq.mk hr1
 have HC1 := qq.mk hc1
 clear hr1 hc1
 have HB := qq.mk (Below.refl w.heap.size w)
 have H : (if (l0.length : Int) > 1048576 then (some true) else (if (l1.length : Int) > 1048576 then (some true) else ((qjw.f k l0).bind fun t101 => (qjz.l0 k l1 t101 ([] : List (S27)) t101 (t101.length : Int) 0)))) = some r := h
 clear h
 by_cases c3 : (l0.length : Int) > 1048576
 ·rw [if_pos c3] at H
  have c3b0 : decide (1048576 < (l0.length : Int)) = true := decide_eq_true c3
  have c3b1 : decide (1048576 < l0.length) = true := decide_eq_true (by omega)
  clear c3
  obtain rfl := Option.some.inj H
  go_enter Try.func14,Try.ntmps14
  go_wp2
  go_ret
  exact ⟨by first | rfl | (simp [*,kz,jx] <;> rfl),by repeat (first | (with_reducible first | exact HB.out | apply qj | apply qz | apply qk) | exact HB.out)⟩
 ·rw [if_neg c3] at H
  have c3b0 : decide (1048576 < (l0.length : Int)) = false := decide_eq_false c3
  have c3b1 : decide (1048576 < l0.length) = false := decide_eq_false (by omega)
  clear c3
  by_cases c4 : (l1.length : Int) > 1048576
  ·rw [if_pos c4] at H
   have c4b0 : decide (1048576 < (l1.length : Int)) = true := decide_eq_true c4
   have c4b1 : decide (1048576 < l1.length) = true := decide_eq_true (by omega)
   clear c4
   obtain rfl := Option.some.inj H
   go_enter Try.func14,Try.ntmps14
   go_wp2
   go_ret
   exact ⟨by first | rfl | (simp [*,kz,jx] <;> rfl),by repeat (first | (with_reducible first | exact HB.out | apply qj | apply qz | apply qk) | exact HB.out)⟩
  ·rw [if_neg c4] at H
   have c4b0 : decide (1048576 < (l1.length : Int)) = false := decide_eq_false c4
   have c4b1 : decide (1048576 < l1.length) = false := decide_eq_false (by omega)
   clear c4
   replace H := Option.bind_eq_some_iff.mp H
   obtain ⟨t101,A50,H⟩ := H
   replace H : (qjz.l0 k l1 t101 ([] : List (S27)) t101 (t101.length : Int) 0) = some r := H
   have A5 := qq.mk A50
   clear A50
   have H' := qq.mk H
   clear H
   go_enter Try.func14,Try.ntmps14
   go_wp2_with (first | ((with_reducible refine kj (f := 62) rfl ?_);refine goesL_ (some 20) rfl rfl Try.func62 (by kernel_rfl) rfl #[.slice A0 l0.length c0] rfl (by (try simp only [List.map_toArray,List.map_cons,List.map_nil]);first | done | rfl | (simp only [List.length_drop,List.length_take];rfl)) ?_;(with_reducible refine (qjw.calls k _ _ l0 t101 _ ?side1 ?side2 A5.out).mono ?_);(case side1 => repeat (first | exact HR0.out | (with_reducible refine Kd.C_alloc ?_ _) | (with_reducible refine Kd.C_drewN ?_ _) | (with_reducible refine Kd.C_drew ?_)));(case side2 => exact HC0.out);rintro e w6 ⟨v102,rfl,ho0,hb⟩;refine ⟨_,rfl,?_⟩;have n0_ := qq.mk (Kd.N_lower (Kd.N_mono (ok' := fun k_ => True) ho0 (fun k_ hk_ => trivial)) (zw (by repeat (first | (with_reducible first | exact HB.out | apply qj | apply qz | apply qk) | exact HB.out))));have n1_ := qq.mk (zv (by repeat (first | (with_reducible first | exact HB.out | apply qj | apply qz | apply qk) | exact HB.out)) hb);clear HB;have HO103 := n0_;have HB := n1_;clear n0_ n1_;(try clear hb);(try clear hb2);(try clear hk);(try clear hi);(try clear ho0);obtain ⟨Ao7,co7,eo7⟩ := Kd.N_slice HO103.out;subst eo7))
   go_loopg [6,23] k (fun kq v6 v23 w' => ∃ (x6_1 : List (S27)) (x23_1 : Int),v23 = .int .i64 x23_1 ∧ qq (qjz.l0 kq l1 t101 x6_1 t101 (t101.length : Int) x23_1 = some r) ∧ qq (kq ≤ k) ∧ qq (Kd.N k27 27 w' w.heap.size (fun k_ => some k_ ≠ (v6 : Value).ownBlock) (.slice Ao7 t101.length co7) t101) ∧ qq (Kd.N k27 27 w' w.heap.size (fun k_ => some k_ ≠ ((.slice Ao7 t101.length co7) : Value).ownBlock) v6 x6_1) ∧ qq (Kd.N k27 27 w' w.heap.size (fun k_ => some k_ ≠ (v6 : Value).ownBlock) (.slice Ao7 t101.length co7) t101) ∧ qq (Below w.heap.size w w'))
   case atStart => exact ⟨(([] : List (S27))),(0),(by first | rfl | (simp;done) | (simp [*];done) | (generalize ByteArray.toList _ = l_;cases l_ <;> first | rfl | (simp;done))),H',⟨Nat.le_refl _⟩,⟨by (with_reducible repeat (first | apply Kd.vq | apply Kd.kx | apply Kd.vz));exact Kd.N_mono HO103.out (fun _ hk => (by simp [Value.ownBlock]))⟩,⟨by first | exact Kd.S_nil _ _ _ _ _ | exact Kd.N_nil _ _ _ _ _ | exact Kd.V_nil _ _ _ _ _ | exact Kd.Q_nil _ _ _ _ _ | exact Kd.R_nil _ _ _ _ _⟩,⟨by (with_reducible repeat (first | apply Kd.vq | apply Kd.kx | apply Kd.vz));exact Kd.N_mono HO103.out (fun _ hk => (by simp [Value.ownBlock]))⟩,⟨by repeat (first | (with_reducible first | exact HB.out | apply qj | apply qz | apply qk) | exact HB.out)⟩⟩
   case round =>
    clear H'
    try clear c1
    try clear p2
    try clear c3
    try clear c3b0
    try clear c3b1
    try clear c4
    try clear c4b0
    try clear c4b1
    try clear c6
    obtain ⟨x6_1,x23_1,rfl,HA,HK1,HO_5,HO_6,HO_21,HB⟩ := hrel
    cases gk with
    | zero => exact absurd HA.out (by simp [qjz.l0])
    | succ k1 =>
     have H := HA.out
     clear HA
     simp only [qjz.l0] at H
     by_cases c8 : x23_1 < (t101.length : Int)
     ·rw [if_pos c8] at H
      have c8b0 : decide (x23_1 < (t101.length : Int)) = true := decide_eq_true c8
      clear c8
      by_cases c9 : 0 ≤ x23_1
      ·rw [if_pos c9] at H
       have c9b0 : decide (0 ≤ x23_1) = true := decide_eq_true c9
       clear c9
       by_cases c10 : x23_1 < (t101.length : Int)
       ·rw [if_pos c10] at H
        have c10b0 : decide (x23_1 < (t101.length : Int)) = true := decide_eq_true c10
        clear c10
        by_cases c11 : x23_1 < (l1.length : Int)
        ·rw [if_pos c11] at H
         have c11b0 : decide (x23_1 < (l1.length : Int)) = true := decide_eq_true c11
         clear c11
         by_cases c12 : (Int.tmod (rd l1 x23_1) 2) = 0
         ·rw [if_pos c12] at H
          have c12b0 : ((Int.tmod (rd l1 x23_1) 2) == 0) = true := beq_iff_eq.mpr c12
          have c12b1 : ((Int.tmod (rd l1 x23_1) 2) != 0) = false := bne_eq_false_iff_eq.mpr c12
          clear c12
          replace H := Option.bind_eq_some_iff.mp H
          obtain ⟨⟨t107,t108,t109,t110,t113⟩,A130,H⟩ := H
          replace H : (if t109.toList = ([] : List UInt8) then (if (t110.length : Int) > 0 then (none) else (if x6_1.length < 1599289640401 then (qjz.l0 k1 l1 t101 (x6_1 ++ [(⟨t107,t108,t109,t110,t113⟩ : S27)]) t101 (t101.length : Int) (wrap64 (x23_1 + 1))) else (none))) else (none)) = some r := H
          have A13 := qq.mk A130
          clear A130
          by_cases c14 : t109.toList = ([] : List UInt8)
          ·rw [if_pos c14] at H
           have c14b0 : (t109.toList == ([] : List UInt8)) = true := beq_iff_eq.mpr c14
           have c14b1 : (t109.toList != ([] : List UInt8)) = false := bne_eq_false_iff_eq.mpr c14
           clear c14
           by_cases c15 : (t110.length : Int) > 0
           ·rw [if_pos c15] at H
            exact absurd H (by simp)
           ·rw [if_neg c15] at H
            have c15b0 : decide (0 < (t110.length : Int)) = false := decide_eq_false c15
            have c15b1 : decide (0 < t110.length) = false := decide_eq_false (by omega)
            clear c15
            by_cases c16 : x6_1.length < 1599289640401
            ·rw [if_pos c16] at H
             have LMc16 := qq.mk c16
             clear c16
             obtain ⟨y116,hy116⟩ : ∃ y_ : List (S27),y_ = (x6_1 ++ [(⟨t107,t108,t109,t110,t113⟩ : S27)]) := ⟨_,rfl⟩
             replace H : (qjz.l0 k1 l1 t101 y116 t101 (t101.length : Int) (wrap64 (x23_1 + 1))) = some r := by first | (rw [hy116];with_reducible exact H) | (have H2_ := (Option.bind_some _ _).symm.trans H;rw [hy116];with_reducible exact H2_) | (have H2_ := (Option.bind_some _ _).symm.trans H;with_reducible exact H2_) | with_reducible exact H | (rw [hy116];exact H) | exact H
             have Ny116 := qq.mk hy116
             clear hy116
             have H' := qq.mk H
             clear H
             have p104 : 0 ≤ (x23_1 : Int) := of_decide_eq_true (by assumption)
             have q104 : x23_1 < (t101.length : Int) := of_decide_eq_true (by assumption)
             obtain ⟨ad104,A104_3,c104_3,A104_4,c104_4,e104,hx104_0,hx104_1,hx104_2,hx104_3,hx104_4,hl104_3,hi104_3,hl104_4,hi104_4⟩ := at_T27 (Kd.N_reads' HO_21.out).2.2 x23_1 p104 q104
             cases e104
             obtain ⟨ce104,hce104,hMe104,hcc104⟩ := Kd.N_get HO_21.out z27 x23_1 p104 (by first | exact q104 | exact of_decide_eq_true (by assumption) | (have e_ := (Kd.N_reads' HO_21.out).1;omega))
             obtain ⟨ua104_3,uc104_3,ua104_4,uc104_4,rfl,ul104_3,ge104_3,ul104_4,ge104_4⟩ := k27_openF hMe104
             have hv104_3 := hcc104 3 _ rfl
             rw [add_field _ _ 3 (by omega)] at hv104_3
             replace hv104_3 := Option.some.inj (hv104_3.symm.trans hx104_3)
             injection hv104_3 with hva_ hvn_ hvc_
             rw [hva_] at ge104_3
             rw [hvc_] at ul104_3
             have HL104_3 := qq.mk (show Kd.V (Kd.int .u8) 5 _ w.heap.size _ _ ((wx t101 x23_1).f3) from Kd.V_mk ul104_3 ge104_3)
             clear hva_ hvn_ hvc_ ge104_3 ul104_3
             have hv104_4 := hcc104 4 _ rfl
             rw [add_field _ _ 4 (by omega)] at hv104_4
             replace hv104_4 := Option.some.inj (hv104_4.symm.trans hx104_4)
             injection hv104_4 with hva_ hvn_ hvc_
             rw [hva_] at ge104_4
             rw [hvc_] at ul104_4
             have HL104_4 := qq.mk (show Kd.V (Kd.int .u8) 5 _ w.heap.size _ _ ((wx t101 x23_1).f4) from Kd.V_mk ul104_4 ge104_4)
             clear hva_ hvn_ hvc_ ge104_4 ul104_4
             clear hcc104 hce104
             have HR104_3 := qq.mk hi104_3
             have HC104_3 := qq.mk hl104_3
             clear hi104_3 hl104_3
             have HR104_4 := qq.mk hi104_4
             have HC104_4 := qq.mk hl104_4
             clear hi104_4 hl104_4
             replace p104 := eq_true p104
             replace q104 := eq_true q104
             go_wp2_with (first | ((with_reducible refine gate_dst (N := 8) rfl ?_);(try (refine gate_guard (by rfl) ?_;dsimp only));refine box_event ?hg (N := 8) ?hd (cs := #[.int .i64 0,.string (⟨#[]⟩ : ByteArray),.string (⟨#[]⟩ : ByteArray),.slice none 0 0,.slice none 0 0]) (t := 27) ?hr ?_;(case hd => rfl);(case hg => rfl);(case hr => first | (go_simp;done) | (go_simp;rfl));intro gb105 hg w17 hbox hb;have n0_ := qq.mk (Kd.N_below (Kd.N_elderB (by (with_reducible repeat (first | apply Kd.vq | apply Kd.kx | apply Kd.vz));exact HO_5.out) gb105 (Nat.le_of_eq hg.symm)) hb);have n1_ := qq.mk (Kd.N_below (Kd.N_elderB (by (with_reducible repeat (first | apply Kd.vq | apply Kd.kx | apply Kd.vz));exact HO_6.out) gb105 (Nat.le_of_eq hg.symm)) hb);have n2_ := qq.mk (Kd.N_below (Kd.N_elderB (by (with_reducible repeat (first | apply Kd.vq | apply Kd.kx | apply Kd.vz));exact HO_21.out) gb105 (Nat.le_of_eq hg.symm)) hb);have n3_ := qq.mk (Kd.V_below (Kd.V_elderB (by (with_reducible repeat (first | apply Kd.wq | apply Kd.vx | apply Kd.wz));exact HL104_3.out) gb105 (Nat.le_of_eq hg.symm)) hb);have n4_ := qq.mk (Kd.V_below (Kd.V_elderB (by (with_reducible repeat (first | apply Kd.wq | apply Kd.vx | apply Kd.wz));exact HL104_4.out) gb105 (Nat.le_of_eq hg.symm)) hb);have n5_ := qq.mk (Kd.C_below (by repeat (first | (with_reducible exact HR104_3.out) | (with_reducible refine Kd.C_alloc ?_ _) | (with_reducible refine Kd.C_drewN ?_ _) | (with_reducible refine Kd.C_drew ?_) | exact HR104_3.out)) hb);have n6_ := qq.mk (Kd.C_below (by repeat (first | (with_reducible exact HR104_4.out) | (with_reducible refine Kd.C_alloc ?_ _) | (with_reducible refine Kd.C_drewN ?_ _) | (with_reducible refine Kd.C_drew ?_) | exact HR104_4.out)) hb);have n7_ := qq.mk (zv (by repeat (first | (with_reducible first | exact HB.out | apply qj | apply qz | apply qk) | exact HB.out)) hb);have n8_ := qq.mk (hbox);have n9_ := qq.mk ((by rw [hg];exact (zw (by repeat (first | (with_reducible first | exact HB.out | apply qj | apply qz | apply qk) | exact HB.out))) : w.heap.size ≤ gb105));have n10_ := qq.mk ((by rw [hg];exact (zw (by repeat (first | (with_reducible first | exact HB.out | apply qj | apply qz | apply qk) | exact HB.out))) : w.heap.size ≤ gb105));clear HO_5;clear HO_6;clear HO_21;clear HL104_3;clear HL104_4;clear HR104_3;clear HR104_4;clear HB;have HO_5 := n0_;have HO_6 := n1_;have HO_21 := n2_;have HL104_3 := n3_;have HL104_4 := n4_;have HR104_3 := n5_;have HR104_4 := n6_;have HB := n7_;have BK105 := n8_;have GW105 := n9_;have GE105 := n10_;clear n0_ n1_ n2_ n3_ n4_ n5_ n6_ n7_ n8_ n9_ n10_;clear hb hbox hg;have hcz18_0 : w17.cell? ⟨gb105,0,none⟩ = some (.int .i64 0) := (qw BK105.out 0).trans rfl;have hcz18_1 : w17.cell? ⟨gb105,1,none⟩ = some (.string (⟨#[]⟩ : ByteArray)) := (qw BK105.out 1).trans rfl;have hcz18_2 : w17.cell? ⟨gb105,2,none⟩ = some (.string (⟨#[]⟩ : ByteArray)) := (qw BK105.out 2).trans rfl;have hcz18_3 : w17.cell? ⟨gb105,3,none⟩ = some (.slice none 0 0) := (qw BK105.out 3).trans rfl;have hcz18_4 : w17.cell? ⟨gb105,4,none⟩ = some (.slice none 0 0) := (qw BK105.out 4).trans rfl;have hfz18_0 := qv BK105.out 0;have hfz18_1 := qv BK105.out 1;have hfz18_2 := qv BK105.out 2;have hfz18_3 := qv BK105.out 3;have hfz18_4 := qv BK105.out 4;have p106 : 0 ≤ (x23_1 : Int) := of_decide_eq_true (by assumption);have q106 : x23_1 < (l1.length : Int) := of_decide_eq_true (by assumption);obtain ⟨ad106,e106,hx106_0⟩ := Kd.at_int HR1.out x23_1 p106 q106;cases e106;have hn106_0 : ad106.block ≠ gb105 := Nat.ne_of_lt (Nat.lt_of_lt_of_le (by have := World.block_lt_of_cell? _ _ hx106_0;first | rwa [add_block] at this | exact this) GW105.out);have hn106_1 : ad106.block ≠ gb105 := Nat.ne_of_lt (Nat.lt_of_lt_of_le (by have := World.block_lt_of_cell? _ _ hx106_0;first | rwa [add_block] at this | exact this) GW105.out);have hn106_2 : ad106.block ≠ gb105 := Nat.ne_of_lt (Nat.lt_of_lt_of_le (by have := World.block_lt_of_cell? _ _ hx106_0;first | rwa [add_block] at this | exact this) GW105.out);have hn106_3 : ad106.block ≠ gb105 := Nat.ne_of_lt (Nat.lt_of_lt_of_le (by have := World.block_lt_of_cell? _ _ hx106_0;first | rwa [add_block] at this | exact this) GW105.out);have hn106_4 : ad106.block ≠ gb105 := Nat.ne_of_lt (Nat.lt_of_lt_of_le (by have := World.block_lt_of_cell? _ _ hx106_0;first | rwa [add_block] at this | exact this) GW105.out);replace hx106_0 := (HB.out.cell (World.block_lt_of_cell? w _ hx106_0)).trans hx106_0;replace hx106_0 := (cell_far (p := ⟨gb105,0,none⟩) (by first | (rw [add_block];exact hn106_0) | (show (Addr.add _ _).block ≠ _;rw [add_block];exact hn106_0) | exact hn106_0) (.int .i64 ((wx t101 x23_1).f0))).trans hx106_0;replace hx106_0 := (cell_far (p := ⟨gb105,1,none⟩) (by first | (rw [add_block];exact hn106_1) | (show (Addr.add _ _).block ≠ _;rw [add_block];exact hn106_1) | exact hn106_1) (.string ((wx t101 x23_1).f1))).trans hx106_0;replace hx106_0 := (cell_far (p := ⟨gb105,2,none⟩) (by first | (rw [add_block];exact hn106_2) | (show (Addr.add _ _).block ≠ _;rw [add_block];exact hn106_2) | exact hn106_2) (.string ((wx t101 x23_1).f2))).trans hx106_0;replace hx106_0 := (cell_far (p := ⟨gb105,3,none⟩) (by first | (rw [add_block];exact hn106_3) | (show (Addr.add _ _).block ≠ _;rw [add_block];exact hn106_3) | exact hn106_3) (.slice A104_3 ((wx t101 x23_1).f3).length c104_3)).trans hx106_0;replace hx106_0 := (cell_far (p := ⟨gb105,4,none⟩) (by first | (rw [add_block];exact hn106_4) | (show (Addr.add _ _).block ≠ _;rw [add_block];exact hn106_4) | exact hn106_4) (.slice A104_4 ((wx t101 x23_1).f4).length c104_4)).trans hx106_0;clear hn106_0;clear hn106_1;clear hn106_2;clear hn106_3;clear hn106_4;replace p106 := eq_true p106;replace q106 := eq_true q106) | ((with_reducible refine kj (f := 31) rfl ?_);refine goesL_ (some 41) rfl rfl Try.func31 (by kernel_rfl) rfl #[.agg #[.int .i64 ((wx t101 x23_1).f0),.string ((wx t101 x23_1).f1),.string ((wx t101 x23_1).f2),.slice A104_3 ((wx t101 x23_1).f3).length c104_3,.slice A104_4 ((wx t101 x23_1).f4).length c104_4]] rfl (by (try simp only [List.map_toArray,List.map_cons,List.map_nil]);first | done | rfl | (simp only [List.length_drop,List.length_take];rfl)) ?_;(with_reducible refine (qqw.calls k1 ((wx t101 x23_1).f0) ((wx t101 x23_1).f1) ((wx t101 x23_1).f2) _ _ ((wx t101 x23_1).f3) _ _ ((wx t101 x23_1).f4) t107 t108 t109 t110 t113 _ ?side1 ?side2 ?side3 ?side4 A13.out).mono ?_);(case side1 => repeat (first | exact ((Kd.V_reads' (by (with_reducible repeat (first | apply Kd.wq | apply Kd.vx | apply Kd.wz));exact (Kd.V_mono (Kd.V_far (p := ⟨gb105,4,none⟩) (Kd.V_far (p := ⟨gb105,3,none⟩) (Kd.V_far (p := ⟨gb105,2,none⟩) (Kd.V_far (p := ⟨gb105,1,none⟩) (Kd.V_far (p := ⟨gb105,0,none⟩) (Kd.V_mono HL104_3.out (fun k_ hk => (⟨hk,hk.2⟩ : _ ∧ k_ ≠ gb105))) (fun _ hk => hk.2) (.int .i64 ((wx t101 x23_1).f0))) (fun _ hk => hk.2) (.string ((wx t101 x23_1).f1))) (fun _ hk => hk.2) (.string ((wx t101 x23_1).f2))) (fun _ hk => hk.2) (.slice A104_3 ((wx t101 x23_1).f3).length c104_3)) (fun _ hk => hk.2) (.slice A104_4 ((wx t101 x23_1).f4).length c104_4)) (fun _ h_ => h_.1)))).2.2) | (with_reducible refine Kd.C_alloc ?_ _) | (with_reducible refine Kd.C_drewN ?_ _) | (with_reducible refine Kd.C_drew ?_)));(case side2 => exact HC104_3.out);(case side3 => repeat (first | exact ((Kd.V_reads' (by (with_reducible repeat (first | apply Kd.wq | apply Kd.vx | apply Kd.wz));exact (Kd.V_mono (Kd.V_far (p := ⟨gb105,4,none⟩) (Kd.V_far (p := ⟨gb105,3,none⟩) (Kd.V_far (p := ⟨gb105,2,none⟩) (Kd.V_far (p := ⟨gb105,1,none⟩) (Kd.V_far (p := ⟨gb105,0,none⟩) (Kd.V_mono HL104_4.out (fun k_ hk => (⟨hk,hk.2⟩ : _ ∧ k_ ≠ gb105))) (fun _ hk => hk.2) (.int .i64 ((wx t101 x23_1).f0))) (fun _ hk => hk.2) (.string ((wx t101 x23_1).f1))) (fun _ hk => hk.2) (.string ((wx t101 x23_1).f2))) (fun _ hk => hk.2) (.slice A104_3 ((wx t101 x23_1).f3).length c104_3)) (fun _ hk => hk.2) (.slice A104_4 ((wx t101 x23_1).f4).length c104_4)) (fun _ h_ => h_.1)))).2.2) | (with_reducible refine Kd.C_alloc ?_ _) | (with_reducible refine Kd.C_drewN ?_ _) | (with_reducible refine Kd.C_drew ?_)));(case side4 => exact HC104_4.out);rintro e w19 ⟨v111,v114,rfl,ho0,ho1,hb⟩;refine ⟨_,rfl,?_⟩;have n0_ := qq.mk (Kd.N_mono (Kd.N_told (Kd.N_told (Kd.N_old (by (with_reducible repeat (first | apply Kd.vq | apply Kd.kx | apply Kd.vz));exact (Kd.N_mono (Kd.N_far (p := ⟨gb105,4,none⟩) (Kd.N_far (p := ⟨gb105,3,none⟩) (Kd.N_far (p := ⟨gb105,2,none⟩) (Kd.N_far (p := ⟨gb105,1,none⟩) (Kd.N_far (p := ⟨gb105,0,none⟩) (Kd.N_mono HO_5.out (fun k_ hk => (⟨hk,hk.2⟩ : _ ∧ k_ ≠ gb105))) (fun _ hk => hk.2) (.int .i64 ((wx t101 x23_1).f0))) (fun _ hk => hk.2) (.string ((wx t101 x23_1).f1))) (fun _ hk => hk.2) (.string ((wx t101 x23_1).f2))) (fun _ hk => hk.2) (.slice A104_3 ((wx t101 x23_1).f3).length c104_3)) (fun _ hk => hk.2) (.slice A104_4 ((wx t101 x23_1).f4).length c104_4)) (fun _ h_ => h_.1))) hb) (Kd.R_base ho0)) (Kd.R_base ho1)) (fun _ h_ => h_.1));have n1_ := qq.mk (Kd.N_mono (Kd.N_told (Kd.N_told (Kd.N_old (by (with_reducible repeat (first | apply Kd.vq | apply Kd.kx | apply Kd.vz));exact (Kd.N_mono (Kd.N_far (p := ⟨gb105,4,none⟩) (Kd.N_far (p := ⟨gb105,3,none⟩) (Kd.N_far (p := ⟨gb105,2,none⟩) (Kd.N_far (p := ⟨gb105,1,none⟩) (Kd.N_far (p := ⟨gb105,0,none⟩) (Kd.N_mono HO_6.out (fun k_ hk => (⟨hk,hk.2⟩ : _ ∧ k_ ≠ gb105))) (fun _ hk => hk.2) (.int .i64 ((wx t101 x23_1).f0))) (fun _ hk => hk.2) (.string ((wx t101 x23_1).f1))) (fun _ hk => hk.2) (.string ((wx t101 x23_1).f2))) (fun _ hk => hk.2) (.slice A104_3 ((wx t101 x23_1).f3).length c104_3)) (fun _ hk => hk.2) (.slice A104_4 ((wx t101 x23_1).f4).length c104_4)) (fun _ h_ => h_.1))) hb) (Kd.R_base ho0)) (Kd.R_base ho1)) (fun _ h_ => h_.1));have n2_ := qq.mk (Kd.N_mono (Kd.N_told (Kd.N_told (Kd.N_old (by (with_reducible repeat (first | apply Kd.vq | apply Kd.kx | apply Kd.vz));exact (Kd.N_mono (Kd.N_far (p := ⟨gb105,4,none⟩) (Kd.N_far (p := ⟨gb105,3,none⟩) (Kd.N_far (p := ⟨gb105,2,none⟩) (Kd.N_far (p := ⟨gb105,1,none⟩) (Kd.N_far (p := ⟨gb105,0,none⟩) (Kd.N_mono HO_21.out (fun k_ hk => (⟨hk,hk.2⟩ : _ ∧ k_ ≠ gb105))) (fun _ hk => hk.2) (.int .i64 ((wx t101 x23_1).f0))) (fun _ hk => hk.2) (.string ((wx t101 x23_1).f1))) (fun _ hk => hk.2) (.string ((wx t101 x23_1).f2))) (fun _ hk => hk.2) (.slice A104_3 ((wx t101 x23_1).f3).length c104_3)) (fun _ hk => hk.2) (.slice A104_4 ((wx t101 x23_1).f4).length c104_4)) (fun _ h_ => h_.1))) hb) (Kd.R_base ho0)) (Kd.R_base ho1)) (fun _ h_ => h_.1));have n3_ := qq.mk (Kd.V_mono (Kd.V_told (Kd.V_told (Kd.V_old (by (with_reducible repeat (first | apply Kd.wq | apply Kd.vx | apply Kd.wz));exact (Kd.V_mono (Kd.V_far (p := ⟨gb105,4,none⟩) (Kd.V_far (p := ⟨gb105,3,none⟩) (Kd.V_far (p := ⟨gb105,2,none⟩) (Kd.V_far (p := ⟨gb105,1,none⟩) (Kd.V_far (p := ⟨gb105,0,none⟩) (Kd.V_mono HL104_3.out (fun k_ hk => (⟨hk,hk.2⟩ : _ ∧ k_ ≠ gb105))) (fun _ hk => hk.2) (.int .i64 ((wx t101 x23_1).f0))) (fun _ hk => hk.2) (.string ((wx t101 x23_1).f1))) (fun _ hk => hk.2) (.string ((wx t101 x23_1).f2))) (fun _ hk => hk.2) (.slice A104_3 ((wx t101 x23_1).f3).length c104_3)) (fun _ hk => hk.2) (.slice A104_4 ((wx t101 x23_1).f4).length c104_4)) (fun _ h_ => h_.1))) hb) (Kd.R_base ho0)) (Kd.R_base ho1)) (fun _ h_ => h_.1));have n4_ := qq.mk (Kd.V_mono (Kd.V_told (Kd.V_told (Kd.V_old (by (with_reducible repeat (first | apply Kd.wq | apply Kd.vx | apply Kd.wz));exact (Kd.V_mono (Kd.V_far (p := ⟨gb105,4,none⟩) (Kd.V_far (p := ⟨gb105,3,none⟩) (Kd.V_far (p := ⟨gb105,2,none⟩) (Kd.V_far (p := ⟨gb105,1,none⟩) (Kd.V_far (p := ⟨gb105,0,none⟩) (Kd.V_mono HL104_4.out (fun k_ hk => (⟨hk,hk.2⟩ : _ ∧ k_ ≠ gb105))) (fun _ hk => hk.2) (.int .i64 ((wx t101 x23_1).f0))) (fun _ hk => hk.2) (.string ((wx t101 x23_1).f1))) (fun _ hk => hk.2) (.string ((wx t101 x23_1).f2))) (fun _ hk => hk.2) (.slice A104_3 ((wx t101 x23_1).f3).length c104_3)) (fun _ hk => hk.2) (.slice A104_4 ((wx t101 x23_1).f4).length c104_4)) (fun _ h_ => h_.1))) hb) (Kd.R_base ho0)) (Kd.R_base ho1)) (fun _ h_ => h_.1));have n5_ := qq.mk (Kd.R_lower ho0 (zw (by repeat (first | (with_reducible first | exact HB.out | apply qj | apply qz | apply qk | refine qx ?_ GE105.out) | exact HB.out))));have n6_ := qq.mk (Kd.R_lower ho1 (zw (by repeat (first | (with_reducible first | exact HB.out | apply qj | apply qz | apply qk | refine qx ?_ GE105.out) | exact HB.out))));have n7_ := qq.mk (Kd.C_below ((Kd.V_reads' (by (with_reducible repeat (first | apply Kd.wq | apply Kd.vx | apply Kd.wz));exact (Kd.V_mono (Kd.V_far (p := ⟨gb105,4,none⟩) (Kd.V_far (p := ⟨gb105,3,none⟩) (Kd.V_far (p := ⟨gb105,2,none⟩) (Kd.V_far (p := ⟨gb105,1,none⟩) (Kd.V_far (p := ⟨gb105,0,none⟩) (Kd.V_mono HL104_3.out (fun k_ hk => (⟨hk,hk.2⟩ : _ ∧ k_ ≠ gb105))) (fun _ hk => hk.2) (.int .i64 ((wx t101 x23_1).f0))) (fun _ hk => hk.2) (.string ((wx t101 x23_1).f1))) (fun _ hk => hk.2) (.string ((wx t101 x23_1).f2))) (fun _ hk => hk.2) (.slice A104_3 ((wx t101 x23_1).f3).length c104_3)) (fun _ hk => hk.2) (.slice A104_4 ((wx t101 x23_1).f4).length c104_4)) (fun _ h_ => h_.1)))).2.2) hb);have n8_ := qq.mk (Kd.C_below ((Kd.V_reads' (by (with_reducible repeat (first | apply Kd.wq | apply Kd.vx | apply Kd.wz));exact (Kd.V_mono (Kd.V_far (p := ⟨gb105,4,none⟩) (Kd.V_far (p := ⟨gb105,3,none⟩) (Kd.V_far (p := ⟨gb105,2,none⟩) (Kd.V_far (p := ⟨gb105,1,none⟩) (Kd.V_far (p := ⟨gb105,0,none⟩) (Kd.V_mono HL104_4.out (fun k_ hk => (⟨hk,hk.2⟩ : _ ∧ k_ ≠ gb105))) (fun _ hk => hk.2) (.int .i64 ((wx t101 x23_1).f0))) (fun _ hk => hk.2) (.string ((wx t101 x23_1).f1))) (fun _ hk => hk.2) (.string ((wx t101 x23_1).f2))) (fun _ hk => hk.2) (.slice A104_3 ((wx t101 x23_1).f3).length c104_3)) (fun _ hk => hk.2) (.slice A104_4 ((wx t101 x23_1).f4).length c104_4)) (fun _ h_ => h_.1)))).2.2) hb);have n9_ := qq.mk (wj (g := gb105) (o := .cells #[.int .i64 ((wx t101 x23_1).f0),.string ((wx t101 x23_1).f1),.string ((wx t101 x23_1).f2),.slice A104_3 ((wx t101 x23_1).f3).length c104_3,.slice A104_4 ((wx t101 x23_1).f4).length c104_4] 27 (0,0)) (by (with_reducible repeat (first | refine zz ?_ _ | refine zj ?_ | refine zq ?_ _));refine blk_put (cs := #[.int .i64 ((wx t101 x23_1).f0),.string ((wx t101 x23_1).f1),.string ((wx t101 x23_1).f2),.slice A104_3 ((wx t101 x23_1).f3).length c104_3,.slice none 0 0]) ?_ 4 _ rfl;(with_reducible repeat (first | refine zz ?_ _ | refine zj ?_ | refine zq ?_ _));refine blk_put (cs := #[.int .i64 ((wx t101 x23_1).f0),.string ((wx t101 x23_1).f1),.string ((wx t101 x23_1).f2),.slice none 0 0,.slice none 0 0]) ?_ 3 _ rfl;(with_reducible repeat (first | refine zz ?_ _ | refine zj ?_ | refine zq ?_ _));refine blk_put (cs := #[.int .i64 ((wx t101 x23_1).f0),.string ((wx t101 x23_1).f1),.string (⟨#[]⟩ : ByteArray),.slice none 0 0,.slice none 0 0]) ?_ 2 _ rfl;(with_reducible repeat (first | refine zz ?_ _ | refine zj ?_ | refine zq ?_ _));refine blk_put (cs := #[.int .i64 ((wx t101 x23_1).f0),.string (⟨#[]⟩ : ByteArray),.string (⟨#[]⟩ : ByteArray),.slice none 0 0,.slice none 0 0]) ?_ 1 _ rfl;(with_reducible repeat (first | refine zz ?_ _ | refine zj ?_ | refine zq ?_ _));refine blk_put (cs := #[.int .i64 0,.string (⟨#[]⟩ : ByteArray),.string (⟨#[]⟩ : ByteArray),.slice none 0 0,.slice none 0 0]) ?_ 0 _ rfl;(with_reducible repeat (first | refine zz ?_ _ | refine zj ?_ | refine zq ?_ _));exact BK105.out) hb);have n10_ := qq.mk (zv (by repeat (first | (with_reducible first | exact HB.out | apply qj | apply qz | apply qk | refine qx ?_ GE105.out) | exact HB.out)) hb);clear HO_5;clear HO_6;clear HO_21;clear HL104_3;clear HL104_4;clear HR104_3;clear HR104_4;clear BK105;clear HB;have HO_5 := n0_;have HO_6 := n1_;have HO_21 := n2_;have HL104_3 := n3_;have HL104_4 := n4_;have HO112 := n5_;have HO115 := n6_;have HR104_3 := n7_;have HR104_4 := n8_;have BK105 := n9_;have HB := n10_;clear n0_ n1_ n2_ n3_ n4_ n5_ n6_ n7_ n8_ n9_ n10_;(try clear hb);(try clear hb2);(try clear hk);(try clear hi);(try clear ho0);(try clear ho1);have hcz20_0 : w19.cell? ⟨gb105,0,none⟩ = some (.int .i64 ((wx t101 x23_1).f0)) := (qw BK105.out 0).trans rfl;have hcz20_1 : w19.cell? ⟨gb105,1,none⟩ = some (.string ((wx t101 x23_1).f1)) := (qw BK105.out 1).trans rfl;have hcz20_2 : w19.cell? ⟨gb105,2,none⟩ = some (.string ((wx t101 x23_1).f2)) := (qw BK105.out 2).trans rfl;have hcz20_3 : w19.cell? ⟨gb105,3,none⟩ = some (.slice A104_3 ((wx t101 x23_1).f3).length c104_3) := (qw BK105.out 3).trans rfl;have hcz20_4 : w19.cell? ⟨gb105,4,none⟩ = some (.slice A104_4 ((wx t101 x23_1).f4).length c104_4) := (qw BK105.out 4).trans rfl;have hfz20_0 := qv BK105.out 0;have hfz20_1 := qv BK105.out 1;have hfz20_2 := qv BK105.out 2;have hfz20_3 := qv BK105.out 3;have hfz20_4 := qv BK105.out 4;obtain ⟨Ao21,co21,eo21⟩ := Kd.R_slice HO112.out;subst eo21;obtain ⟨Ao22,co22,eo22⟩ := Kd.R_slice HO115.out;subst eo22) | ((with_reducible refine kk (t := 27) (p := 8) rfl ?_);refine kv (t := 27) (p := 8) (v := ?vo_w23) (w1 := (((((w19.setCell ⟨gb105,0,none⟩ (.int .i64 t107)).setCell ⟨gb105,1,none⟩ (.string t108)).setCell ⟨gb105,2,none⟩ (.string t109)).setCell ⟨gb105,3,none⟩ (.slice Ao21 t110.length co21)).setCell ⟨gb105,4,none⟩ (.slice Ao22 t113.length co22))) ?hg ?ho ?hn ?hr ?_;(case ho => rfl);(case hg => rfl);(case hn => rfl);(case hr => first | (go_simp;done) | (go_simp;rfl));intro w23 hw;have n0_ : qq (Kd.N k27 27 w23 w.heap.size (fun k_ => some k_ ≠ (u6 : Value).ownBlock ∧ some k_ ≠ (.slice Ao21 t110.length co21 : Value).ownBlock ∧ some k_ ≠ (.slice Ao22 t113.length co22 : Value).ownBlock ∧ k_ ≠ gb105) (.slice (some ad104) t101.length co7) t101) := ⟨(by rw [hw];exact (by (with_reducible repeat (first | apply Kd.vq | apply Kd.kx | apply Kd.vz));exact Kd.N_mono (Kd.N_far (p := ⟨gb105,4,none⟩) (Kd.N_far (p := ⟨gb105,3,none⟩) (Kd.N_far (p := ⟨gb105,2,none⟩) (Kd.N_far (p := ⟨gb105,1,none⟩) (Kd.N_far (p := ⟨gb105,0,none⟩) (Kd.N_mono HO_5.out (fun k_ hk => (⟨hk,hk.1.1.2⟩ : _ ∧ k_ ≠ gb105))) (fun _ hk => hk.2) (.int .i64 t107)) (fun _ hk => hk.2) (.string t108)) (fun _ hk => hk.2) (.string t109)) (fun _ hk => hk.2) (.slice Ao21 t110.length co21)) (fun _ hk => hk.2) (.slice Ao22 t113.length co22)) (fun _ hk => ⟨hk.1.1.1.1,⟨hk.1.1.2,⟨hk.1.2,hk.1.1.1.2⟩⟩⟩)))⟩;have n1_ : qq (Kd.N k27 27 w23 w.heap.size (fun k_ => some k_ ≠ (.slice (some ad104) t101.length co7 : Value).ownBlock ∧ some k_ ≠ (.slice Ao21 t110.length co21 : Value).ownBlock ∧ some k_ ≠ (.slice Ao22 t113.length co22 : Value).ownBlock ∧ k_ ≠ gb105) u6 x6_1) := ⟨(by rw [hw];exact (by (with_reducible repeat (first | apply Kd.vq | apply Kd.kx | apply Kd.vz));exact Kd.N_mono (Kd.N_far (p := ⟨gb105,4,none⟩) (Kd.N_far (p := ⟨gb105,3,none⟩) (Kd.N_far (p := ⟨gb105,2,none⟩) (Kd.N_far (p := ⟨gb105,1,none⟩) (Kd.N_far (p := ⟨gb105,0,none⟩) (Kd.N_mono HO_6.out (fun k_ hk => (⟨hk,hk.1.1.2⟩ : _ ∧ k_ ≠ gb105))) (fun _ hk => hk.2) (.int .i64 t107)) (fun _ hk => hk.2) (.string t108)) (fun _ hk => hk.2) (.string t109)) (fun _ hk => hk.2) (.slice Ao21 t110.length co21)) (fun _ hk => hk.2) (.slice Ao22 t113.length co22)) (fun _ hk => ⟨hk.1.1.1.1,⟨hk.1.1.2,⟨hk.1.2,hk.1.1.1.2⟩⟩⟩)))⟩;have n2_ : qq (Kd.N k27 27 w23 w.heap.size (fun k_ => some k_ ≠ (u6 : Value).ownBlock ∧ some k_ ≠ (.slice Ao21 t110.length co21 : Value).ownBlock ∧ some k_ ≠ (.slice Ao22 t113.length co22 : Value).ownBlock ∧ k_ ≠ gb105) (.slice (some ad104) t101.length co7) t101) := ⟨(by rw [hw];exact (by (with_reducible repeat (first | apply Kd.vq | apply Kd.kx | apply Kd.vz));exact Kd.N_mono (Kd.N_far (p := ⟨gb105,4,none⟩) (Kd.N_far (p := ⟨gb105,3,none⟩) (Kd.N_far (p := ⟨gb105,2,none⟩) (Kd.N_far (p := ⟨gb105,1,none⟩) (Kd.N_far (p := ⟨gb105,0,none⟩) (Kd.N_mono HO_21.out (fun k_ hk => (⟨hk,hk.1.1.2⟩ : _ ∧ k_ ≠ gb105))) (fun _ hk => hk.2) (.int .i64 t107)) (fun _ hk => hk.2) (.string t108)) (fun _ hk => hk.2) (.string t109)) (fun _ hk => hk.2) (.slice Ao21 t110.length co21)) (fun _ hk => hk.2) (.slice Ao22 t113.length co22)) (fun _ hk => ⟨hk.1.1.1.1,⟨hk.1.1.2,⟨hk.1.2,hk.1.1.1.2⟩⟩⟩)))⟩;have n3_ : qq (Kd.V (Kd.int .u8) 5 w23 w.heap.size (fun k_ => some k_ ≠ (u6 : Value).ownBlock ∧ some k_ ≠ (.slice (some ad104) t101.length co7 : Value).ownBlock ∧ some k_ ≠ (.slice Ao21 t110.length co21 : Value).ownBlock ∧ some k_ ≠ (.slice Ao22 t113.length co22 : Value).ownBlock ∧ k_ ≠ gb105) (.slice A104_3 ((wx t101 x23_1).f3).length c104_3) ((wx t101 x23_1).f3)) := ⟨(by rw [hw];exact (by (with_reducible repeat (first | apply Kd.wq | apply Kd.vx | apply Kd.wz));exact Kd.V_mono (Kd.V_far (p := ⟨gb105,4,none⟩) (Kd.V_far (p := ⟨gb105,3,none⟩) (Kd.V_far (p := ⟨gb105,2,none⟩) (Kd.V_far (p := ⟨gb105,1,none⟩) (Kd.V_far (p := ⟨gb105,0,none⟩) (Kd.V_mono HL104_3.out (fun k_ hk => (⟨hk,hk.1.1.2⟩ : _ ∧ k_ ≠ gb105))) (fun _ hk => hk.2) (.int .i64 t107)) (fun _ hk => hk.2) (.string t108)) (fun _ hk => hk.2) (.string t109)) (fun _ hk => hk.2) (.slice Ao21 t110.length co21)) (fun _ hk => hk.2) (.slice Ao22 t113.length co22)) (fun _ hk => ⟨hk.1.1.1.1.1,⟨hk.1.1.1.1.2,⟨hk.1.1.2,⟨hk.1.2,hk.1.1.1.2⟩⟩⟩⟩)))⟩;have n4_ : qq (Kd.V (Kd.int .u8) 5 w23 w.heap.size (fun k_ => some k_ ≠ (u6 : Value).ownBlock ∧ some k_ ≠ (.slice (some ad104) t101.length co7 : Value).ownBlock ∧ some k_ ≠ (.slice Ao21 t110.length co21 : Value).ownBlock ∧ some k_ ≠ (.slice Ao22 t113.length co22 : Value).ownBlock ∧ k_ ≠ gb105) (.slice A104_4 ((wx t101 x23_1).f4).length c104_4) ((wx t101 x23_1).f4)) := ⟨(by rw [hw];exact (by (with_reducible repeat (first | apply Kd.wq | apply Kd.vx | apply Kd.wz));exact Kd.V_mono (Kd.V_far (p := ⟨gb105,4,none⟩) (Kd.V_far (p := ⟨gb105,3,none⟩) (Kd.V_far (p := ⟨gb105,2,none⟩) (Kd.V_far (p := ⟨gb105,1,none⟩) (Kd.V_far (p := ⟨gb105,0,none⟩) (Kd.V_mono HL104_4.out (fun k_ hk => (⟨hk,hk.1.1.2⟩ : _ ∧ k_ ≠ gb105))) (fun _ hk => hk.2) (.int .i64 t107)) (fun _ hk => hk.2) (.string t108)) (fun _ hk => hk.2) (.string t109)) (fun _ hk => hk.2) (.slice Ao21 t110.length co21)) (fun _ hk => hk.2) (.slice Ao22 t113.length co22)) (fun _ hk => ⟨hk.1.1.1.1.1,⟨hk.1.1.1.1.2,⟨hk.1.1.2,⟨hk.1.2,hk.1.1.1.2⟩⟩⟩⟩)))⟩;have n5_ : qq (Kd.R (Kd.int .u8) 5 w23 w.heap.size (fun k_ => some k_ ≠ (.slice Ao22 t113.length co22 : Value).ownBlock) (.slice Ao21 t110.length co21) t110) := ⟨(by rw [hw];exact (by (with_reducible repeat (first | apply Kd.jq | apply Kd.zx | apply Kd.jz));exact Kd.R_mono (Kd.R_far (p := ⟨gb105,4,none⟩) (Kd.R_far (p := ⟨gb105,3,none⟩) (Kd.R_far (p := ⟨gb105,2,none⟩) (Kd.R_far (p := ⟨gb105,1,none⟩) (Kd.R_far (p := ⟨gb105,0,none⟩) (Kd.R_types HO112.out BK105.out (by decide)) (fun _ hk => hk.2) (.int .i64 t107)) (fun _ hk => hk.2) (.string t108)) (fun _ hk => hk.2) (.string t109)) (fun _ hk => hk.2) (.slice Ao21 t110.length co21)) (fun _ hk => hk.2) (.slice Ao22 t113.length co22)) (fun _ hk => hk.1)))⟩;have n6_ : qq (Kd.R (Kd.int .u8) 5 w23 w.heap.size (fun k_ => some k_ ≠ (.slice Ao21 t110.length co21 : Value).ownBlock) (.slice Ao22 t113.length co22) t113) := ⟨(by rw [hw];exact (by (with_reducible repeat (first | apply Kd.jq | apply Kd.zx | apply Kd.jz));exact Kd.R_mono (Kd.R_far (p := ⟨gb105,4,none⟩) (Kd.R_far (p := ⟨gb105,3,none⟩) (Kd.R_far (p := ⟨gb105,2,none⟩) (Kd.R_far (p := ⟨gb105,1,none⟩) (Kd.R_far (p := ⟨gb105,0,none⟩) (Kd.R_types HO115.out BK105.out (by decide)) (fun _ hk => hk.2) (.int .i64 t107)) (fun _ hk => hk.2) (.string t108)) (fun _ hk => hk.2) (.string t109)) (fun _ hk => hk.2) (.slice Ao21 t110.length co21)) (fun _ hk => hk.2) (.slice Ao22 t113.length co22)) (fun _ hk => hk.1)))⟩;have n7_ : qq (w23.heap[gb105]? = some (.cells #[.int .i64 t107,.string t108,.string t109,.slice Ao21 t110.length co21,.slice Ao22 t113.length co22] 27 (0,0))) := ⟨(by rw [hw];exact (by (with_reducible repeat (first | refine zz ?_ _ | refine zj ?_ | refine zq ?_ _));refine blk_put (cs := #[.int .i64 t107,.string t108,.string t109,.slice Ao21 t110.length co21,.slice A104_4 ((wx t101 x23_1).f4).length c104_4]) ?_ 4 _ rfl;(with_reducible repeat (first | refine zz ?_ _ | refine zj ?_ | refine zq ?_ _));refine blk_put (cs := #[.int .i64 t107,.string t108,.string t109,.slice A104_3 ((wx t101 x23_1).f3).length c104_3,.slice A104_4 ((wx t101 x23_1).f4).length c104_4]) ?_ 3 _ rfl;(with_reducible repeat (first | refine zz ?_ _ | refine zj ?_ | refine zq ?_ _));refine blk_put (cs := #[.int .i64 t107,.string t108,.string ((wx t101 x23_1).f2),.slice A104_3 ((wx t101 x23_1).f3).length c104_3,.slice A104_4 ((wx t101 x23_1).f4).length c104_4]) ?_ 2 _ rfl;(with_reducible repeat (first | refine zz ?_ _ | refine zj ?_ | refine zq ?_ _));refine blk_put (cs := #[.int .i64 t107,.string ((wx t101 x23_1).f1),.string ((wx t101 x23_1).f2),.slice A104_3 ((wx t101 x23_1).f3).length c104_3,.slice A104_4 ((wx t101 x23_1).f4).length c104_4]) ?_ 1 _ rfl;(with_reducible repeat (first | refine zz ?_ _ | refine zj ?_ | refine zq ?_ _));refine blk_put (cs := #[.int .i64 ((wx t101 x23_1).f0),.string ((wx t101 x23_1).f1),.string ((wx t101 x23_1).f2),.slice A104_3 ((wx t101 x23_1).f3).length c104_3,.slice A104_4 ((wx t101 x23_1).f4).length c104_4]) ?_ 0 _ rfl;(with_reducible repeat (first | refine zz ?_ _ | refine zj ?_ | refine zq ?_ _));exact BK105.out))⟩;have n8_ : qq (Below w.heap.size w w23) := ⟨(by rw [hw];exact (by repeat (first | (with_reducible first | exact HB.out | apply qj | apply qz | apply qk | refine qx ?_ GE105.out) | exact HB.out)))⟩;clear hw;clear HO_5;clear HO_6;clear HO_21;clear HL104_3;clear HL104_4;clear HO112;clear HO115;clear BK105;clear HB;have HO_5 := n0_;have HO_6 := n1_;have HO_21 := n2_;have HL104_3 := n3_;have HL104_4 := n4_;have HO112 := n5_;have HO115 := n6_;have BK105 := n7_;have HB := n8_;clear n0_ n1_ n2_ n3_ n4_ n5_ n6_ n7_ n8_;have hcz24_0 : w23.cell? ⟨gb105,0,none⟩ = some (.int .i64 t107) := (qw BK105.out 0).trans rfl;have hcz24_1 : w23.cell? ⟨gb105,1,none⟩ = some (.string t108) := (qw BK105.out 1).trans rfl;have hcz24_2 : w23.cell? ⟨gb105,2,none⟩ = some (.string t109) := (qw BK105.out 2).trans rfl;have hcz24_3 : w23.cell? ⟨gb105,3,none⟩ = some (.slice Ao21 t110.length co21) := (qw BK105.out 3).trans rfl;have hcz24_4 : w23.cell? ⟨gb105,4,none⟩ = some (.slice Ao22 t113.length co22) := (qw BK105.out 4).trans rfl;have hfz24_0 := qv BK105.out 0;have hfz24_1 := qv BK105.out 1;have hfz24_2 := qv BK105.out 2;have hfz24_3 := qv BK105.out 3;have hfz24_4 := qv BK105.out 4) | ((with_reducible refine gate_builtin (b := .append) (xs := #[.tmp 51,.tmp 53]) rfl ?_);(try (refine gate_guard (by rfl) ?_;dsimp only));at_builtin;refine Kd.N_append k27 (w0 := w) w.heap.size rfl (.tmp 51) (.tmp 53) 39 27 (.agg #[(.int .i64 0),(.string ⟨#[]⟩),(.string ⟨#[]⟩),(.slice none 0 0),(.slice none 0 0)]) 88 rfl Try.underlying39 info27 rfl (by decide) (by omega) u6 x6_1 (⟨t107,t108,t109,t110,t113⟩ : S27) [.int .i64 t107,.string t108,.string t109,.slice Ao21 t110.length co21,.slice Ao22 t113.length co22] (fun k_ => some k_ ≠ (.slice (some ad104) t101.length co7 : Value).ownBlock ∧ k_ ≠ gb105) (fun k_ => ((fun k_ => some k_ ≠ (.slice (some ad104) t101.length co7 : Value).ownBlock ∧ k_ ≠ gb105)) k_ ∧ some k_ ≠ (u6 : Value).ownBlock) rfl rfl ?aP (fun _ hk => hk) ?aF ?aO ?aB ?aS ?aL ?_;(case aP => exact (k27_mkF _ _ (⟨t107,t108,t109,t110,t113⟩ : S27) (Kd.R_reads' (Kd.R_mono (ok' := (fun k_ => ((fun k_ => some k_ ≠ (.slice (some ad104) t101.length co7 : Value).ownBlock ∧ k_ ≠ gb105)) k_ ∧ some k_ ≠ (u6 : Value).ownBlock)) (Kd.R_types (Kd.R_apart' (Kd.R_apart' (HO112.out) (Kd.N_typed HO_21.out) (by decide)) (Kd.N_typed HO_6.out) (by decide)) BK105.out (by decide)) (fun k_ hk => ⟨⟨hk.1.1.2,hk.2⟩,hk.1.2⟩))).2.1 (Kd.R_F (Kd.R_mono (ok' := (fun k_ => ((fun k_ => some k_ ≠ (.slice (some ad104) t101.length co7 : Value).ownBlock ∧ k_ ≠ gb105)) k_ ∧ some k_ ≠ (u6 : Value).ownBlock)) (Kd.R_types (Kd.R_apart' (Kd.R_apart' (HO112.out) (Kd.N_typed HO_21.out) (by decide)) (Kd.N_typed HO_6.out) (by decide)) BK105.out (by decide)) (fun k_ hk => ⟨⟨hk.1.1.2,hk.2⟩,hk.1.2⟩))) (Kd.R_reads' (Kd.R_mono (ok' := (fun k_ => ((fun k_ => some k_ ≠ (.slice (some ad104) t101.length co7 : Value).ownBlock ∧ k_ ≠ gb105)) k_ ∧ some k_ ≠ (u6 : Value).ownBlock)) (Kd.R_types (Kd.R_apart' (Kd.R_apart' (HO115.out) (Kd.N_typed HO_21.out) (by decide)) (Kd.N_typed HO_6.out) (by decide)) BK105.out (by decide)) (fun k_ hk => ⟨⟨hk.1.1.2,hk.2⟩,hk.1.2⟩))).2.1 (Kd.R_F (Kd.R_mono (ok' := (fun k_ => ((fun k_ => some k_ ≠ (.slice (some ad104) t101.length co7 : Value).ownBlock ∧ k_ ≠ gb105)) k_ ∧ some k_ ≠ (u6 : Value).ownBlock)) (Kd.R_types (Kd.R_apart' (Kd.R_apart' (HO115.out) (Kd.N_typed HO_21.out) (by decide)) (Kd.N_typed HO_6.out) (by decide)) BK105.out (by decide)) (fun k_ hk => ⟨⟨hk.1.1.2,hk.2⟩,hk.1.2⟩)))));(case aB => exact (by repeat (first | (with_reducible first | exact HB.out | apply qj | apply qz | apply qk | refine qx ?_ GE105.out) | exact HB.out)));(case aF => exact (fun k_ hk => ⟨Kd.fresh' (Kd.N_lt (by (with_reducible repeat (first | apply Kd.vq | apply Kd.kx | apply Kd.vz));exact HO_21.out)) k_ hk,Kd.freshB (g := gb105) (o := .cells #[.int .i64 t107,.string t108,.string t109,.slice Ao21 t110.length co21,.slice Ao22 t113.length co22] 27 (0,0)) (by (with_reducible repeat (first | refine zz ?_ _ | refine zj ?_ | refine zq ?_ _));exact BK105.out) k_ hk⟩));(case aO => exact (by (with_reducible repeat (first | apply Kd.vq | apply Kd.kx | apply Kd.vz));exact Kd.N_mono HO_6.out (fun _ hk => ⟨hk.1,hk.2.2.2⟩)));(case aS => exact (zw (by repeat (first | (with_reducible first | exact HB.out | apply qj | apply qz | apply qk | refine qx ?_ GE105.out) | exact HB.out))));(case aL => have := LMc16.out;omega);intro v117 w25 ho hb hg hat;rw [← Ny116.out] at ho;have n0_ := qq.mk (Kd.N_afterv (ok := (fun k_ => some k_ ≠ (.slice Ao21 t110.length co21 : Value).ownBlock ∧ some k_ ≠ (.slice Ao22 t113.length co22 : Value).ownBlock ∧ k_ ≠ gb105)) (by (with_reducible repeat (first | apply Kd.vq | apply Kd.kx | apply Kd.vz));exact Kd.N_mono HO_5.out (fun _ hk => ⟨⟨hk.2.1,⟨hk.2.2.1,hk.2.2.2⟩⟩,hk.1⟩)) hg hat);have n1_ := qq.mk (Kd.N_afterv (ok := (fun k_ => some k_ ≠ (.slice Ao21 t110.length co21 : Value).ownBlock ∧ some k_ ≠ (.slice Ao22 t113.length co22 : Value).ownBlock ∧ k_ ≠ gb105)) (by (with_reducible repeat (first | apply Kd.vq | apply Kd.kx | apply Kd.vz));exact Kd.N_mono HO_21.out (fun _ hk => ⟨⟨hk.2.1,⟨hk.2.2.1,hk.2.2.2⟩⟩,hk.1⟩)) hg hat);have n2_ := qq.mk (Kd.V_afterv (ok := (fun k_ => some k_ ≠ (.slice (some ad104) t101.length co7 : Value).ownBlock ∧ some k_ ≠ (.slice Ao21 t110.length co21 : Value).ownBlock ∧ some k_ ≠ (.slice Ao22 t113.length co22 : Value).ownBlock ∧ k_ ≠ gb105)) (by (with_reducible repeat (first | apply Kd.wq | apply Kd.vx | apply Kd.wz));exact Kd.V_mono HL104_3.out (fun _ hk => ⟨⟨hk.2.1,⟨hk.2.2.1,⟨hk.2.2.2.1,hk.2.2.2.2⟩⟩⟩,hk.1⟩)) hg hat);have n3_ := qq.mk (Kd.V_afterv (ok := (fun k_ => some k_ ≠ (.slice (some ad104) t101.length co7 : Value).ownBlock ∧ some k_ ≠ (.slice Ao21 t110.length co21 : Value).ownBlock ∧ some k_ ≠ (.slice Ao22 t113.length co22 : Value).ownBlock ∧ k_ ≠ gb105)) (by (with_reducible repeat (first | apply Kd.wq | apply Kd.vx | apply Kd.wz));exact Kd.V_mono HL104_4.out (fun _ hk => ⟨⟨hk.2.1,⟨hk.2.2.1,⟨hk.2.2.2.1,hk.2.2.2.2⟩⟩⟩,hk.1⟩)) hg hat);have n4_ := qq.mk (blk_grown (g := gb105) (o := .cells #[.int .i64 t107,.string t108,.string t109,.slice Ao21 t110.length co21,.slice Ao22 t113.length co22] 27 (0,0)) (by (with_reducible repeat (first | refine zz ?_ _ | refine zj ?_ | refine zq ?_ _));exact BK105.out) hg (Kd.N_away HO_6.out (fun _ hk => hk.2.2.2)));have n5_ := qq.mk (hb);have n6_ := qq.mk (ho);clear HO_5;clear HO_21;clear HL104_3;clear HL104_4;clear BK105;clear HB;clear HO_6;clear HO112;clear HO115;have HO_5 := n0_;have HO_21 := n1_;have HL104_3 := n2_;have HL104_4 := n3_;have BK105 := n4_;have HB := n5_;have HO118 := n6_;clear n0_ n1_ n2_ n3_ n4_ n5_ n6_;clear ho hb hg hat))
             go_roundg k1
             case measure => have := HK1.out;omega
             case rel => exact ⟨(y116),(wrap64 (x23_1 + 1)),(by first | rfl | (simp;done) | (simp [*];done) | (generalize ByteArray.toList _ = l_;cases l_ <;> first | rfl | (simp;done))),H',⟨by have := HK1.out;omega⟩,⟨by (with_reducible repeat (first | apply Kd.vq | apply Kd.kx | apply Kd.vz));exact Kd.N_mono HO_5.out (fun _ hk => hk.2)⟩,⟨by (with_reducible repeat (first | apply Kd.vq | apply Kd.kx | apply Kd.vz));exact Kd.N_mono HO118.out (fun _ hk => hk.1)⟩,⟨by (with_reducible repeat (first | apply Kd.vq | apply Kd.kx | apply Kd.vz));exact Kd.N_mono HO_21.out (fun _ hk => hk.2)⟩,⟨by repeat (first | (with_reducible first | exact HB.out | apply qj | apply qz | apply qk | refine qx ?_ GE105.out) | exact HB.out)⟩⟩
            ·rw [if_neg c16] at H
             exact absurd H (by simp)
          ·rw [if_neg c14] at H
           exact absurd H (by simp)
         ·rw [if_neg c12] at H
          have c12b0 : ((Int.tmod (rd l1 x23_1) 2) == 0) = false := beq_eq_false_iff_ne.mpr c12
          have c12b1 : ((Int.tmod (rd l1 x23_1) 2) != 0) = true := bne_iff_ne.mpr c12
          by_cases c26 : x6_1.length < 1599289640401
          ·rw [if_pos c26] at H
           have LMc26 := qq.mk c26
           clear c26
           obtain ⟨y119,hy119⟩ : ∃ y_ : List (S27),y_ = (x6_1 ++ [(⟨(wx t101 x23_1).f0,(wx t101 x23_1).f1,(wx t101 x23_1).f2,(wx t101 x23_1).f3,(wx t101 x23_1).f4⟩ : S27)]) := ⟨_,rfl⟩
           replace H : (qjz.l0 k1 l1 t101 y119 t101 (t101.length : Int) (wrap64 (x23_1 + 1))) = some r := by first | (rw [hy119];with_reducible exact H) | (have H2_ := (Option.bind_some _ _).symm.trans H;rw [hy119];with_reducible exact H2_) | (have H2_ := (Option.bind_some _ _).symm.trans H;with_reducible exact H2_) | with_reducible exact H | (rw [hy119];exact H) | exact H
           have Ny119 := qq.mk hy119
           clear hy119
           have H' := qq.mk H
           clear H
           have p104 : 0 ≤ (x23_1 : Int) := of_decide_eq_true (by assumption)
           have q104 : x23_1 < (t101.length : Int) := of_decide_eq_true (by assumption)
           obtain ⟨ad104,A104_3,c104_3,A104_4,c104_4,e104,hx104_0,hx104_1,hx104_2,hx104_3,hx104_4,hl104_3,hi104_3,hl104_4,hi104_4⟩ := at_T27 (Kd.N_reads' HO_21.out).2.2 x23_1 p104 q104
           cases e104
           obtain ⟨ce104,hce104,hMe104,hcc104⟩ := Kd.N_get HO_21.out z27 x23_1 p104 (by first | exact q104 | exact of_decide_eq_true (by assumption) | (have e_ := (Kd.N_reads' HO_21.out).1;omega))
           obtain ⟨ua104_3,uc104_3,ua104_4,uc104_4,rfl,ul104_3,ge104_3,ul104_4,ge104_4⟩ := k27_openF hMe104
           have hv104_3 := hcc104 3 _ rfl
           rw [add_field _ _ 3 (by omega)] at hv104_3
           replace hv104_3 := Option.some.inj (hv104_3.symm.trans hx104_3)
           injection hv104_3 with hva_ hvn_ hvc_
           rw [hva_] at ge104_3
           rw [hvc_] at ul104_3
           have HL104_3 := qq.mk (show Kd.V (Kd.int .u8) 5 _ w.heap.size _ _ ((wx t101 x23_1).f3) from Kd.V_mk ul104_3 ge104_3)
           clear hva_ hvn_ hvc_ ge104_3 ul104_3
           have hv104_4 := hcc104 4 _ rfl
           rw [add_field _ _ 4 (by omega)] at hv104_4
           replace hv104_4 := Option.some.inj (hv104_4.symm.trans hx104_4)
           injection hv104_4 with hva_ hvn_ hvc_
           rw [hva_] at ge104_4
           rw [hvc_] at ul104_4
           have HL104_4 := qq.mk (show Kd.V (Kd.int .u8) 5 _ w.heap.size _ _ ((wx t101 x23_1).f4) from Kd.V_mk ul104_4 ge104_4)
           clear hva_ hvn_ hvc_ ge104_4 ul104_4
           clear hcc104 hce104
           have HR104_3 := qq.mk hi104_3
           have HC104_3 := qq.mk hl104_3
           clear hi104_3 hl104_3
           have HR104_4 := qq.mk hi104_4
           have HC104_4 := qq.mk hl104_4
           clear hi104_4 hl104_4
           replace p104 := eq_true p104
           replace q104 := eq_true q104
           go_wp2_with (first | ((with_reducible refine gate_dst (N := 8) rfl ?_);(try (refine gate_guard (by rfl) ?_;dsimp only));refine box_event ?hg (N := 8) ?hd (cs := #[.int .i64 0,.string (⟨#[]⟩ : ByteArray),.string (⟨#[]⟩ : ByteArray),.slice none 0 0,.slice none 0 0]) (t := 27) ?hr ?_;(case hd => rfl);(case hg => rfl);(case hr => first | (go_simp;done) | (go_simp;rfl));intro gb105 hg w27 hbox hb;have n0_ := qq.mk (Kd.N_below (Kd.N_elderB (by (with_reducible repeat (first | apply Kd.vq | apply Kd.kx | apply Kd.vz));exact HO_5.out) gb105 (Nat.le_of_eq hg.symm)) hb);have n1_ := qq.mk (Kd.N_below (Kd.N_elderB (by (with_reducible repeat (first | apply Kd.vq | apply Kd.kx | apply Kd.vz));exact HO_6.out) gb105 (Nat.le_of_eq hg.symm)) hb);have n2_ := qq.mk (Kd.N_below (Kd.N_elderB (by (with_reducible repeat (first | apply Kd.vq | apply Kd.kx | apply Kd.vz));exact HO_21.out) gb105 (Nat.le_of_eq hg.symm)) hb);have n3_ := qq.mk (Kd.V_below (Kd.V_elderB (by (with_reducible repeat (first | apply Kd.wq | apply Kd.vx | apply Kd.wz));exact HL104_3.out) gb105 (Nat.le_of_eq hg.symm)) hb);have n4_ := qq.mk (Kd.V_below (Kd.V_elderB (by (with_reducible repeat (first | apply Kd.wq | apply Kd.vx | apply Kd.wz));exact HL104_4.out) gb105 (Nat.le_of_eq hg.symm)) hb);have n5_ := qq.mk (Kd.C_below (by repeat (first | (with_reducible exact HR104_3.out) | (with_reducible refine Kd.C_alloc ?_ _) | (with_reducible refine Kd.C_drewN ?_ _) | (with_reducible refine Kd.C_drew ?_) | exact HR104_3.out)) hb);have n6_ := qq.mk (Kd.C_below (by repeat (first | (with_reducible exact HR104_4.out) | (with_reducible refine Kd.C_alloc ?_ _) | (with_reducible refine Kd.C_drewN ?_ _) | (with_reducible refine Kd.C_drew ?_) | exact HR104_4.out)) hb);have n7_ := qq.mk (zv (by repeat (first | (with_reducible first | exact HB.out | apply qj | apply qz | apply qk) | exact HB.out)) hb);have n8_ := qq.mk (hbox);have n9_ := qq.mk ((by rw [hg];exact (zw (by repeat (first | (with_reducible first | exact HB.out | apply qj | apply qz | apply qk) | exact HB.out))) : w.heap.size ≤ gb105));have n10_ := qq.mk ((by rw [hg];exact (zw (by repeat (first | (with_reducible first | exact HB.out | apply qj | apply qz | apply qk) | exact HB.out))) : w.heap.size ≤ gb105));clear HO_5;clear HO_6;clear HO_21;clear HL104_3;clear HL104_4;clear HR104_3;clear HR104_4;clear HB;have HO_5 := n0_;have HO_6 := n1_;have HO_21 := n2_;have HL104_3 := n3_;have HL104_4 := n4_;have HR104_3 := n5_;have HR104_4 := n6_;have HB := n7_;have BK105 := n8_;have GW105 := n9_;have GE105 := n10_;clear n0_ n1_ n2_ n3_ n4_ n5_ n6_ n7_ n8_ n9_ n10_;clear hb hbox hg;have hcz28_0 : w27.cell? ⟨gb105,0,none⟩ = some (.int .i64 0) := (qw BK105.out 0).trans rfl;have hcz28_1 : w27.cell? ⟨gb105,1,none⟩ = some (.string (⟨#[]⟩ : ByteArray)) := (qw BK105.out 1).trans rfl;have hcz28_2 : w27.cell? ⟨gb105,2,none⟩ = some (.string (⟨#[]⟩ : ByteArray)) := (qw BK105.out 2).trans rfl;have hcz28_3 : w27.cell? ⟨gb105,3,none⟩ = some (.slice none 0 0) := (qw BK105.out 3).trans rfl;have hcz28_4 : w27.cell? ⟨gb105,4,none⟩ = some (.slice none 0 0) := (qw BK105.out 4).trans rfl;have hfz28_0 := qv BK105.out 0;have hfz28_1 := qv BK105.out 1;have hfz28_2 := qv BK105.out 2;have hfz28_3 := qv BK105.out 3;have hfz28_4 := qv BK105.out 4) | ((with_reducible refine kk (t := 27) (p := 8) rfl ?_);refine kv (t := 27) (p := 8) (v := ?vo_w29) (w1 := (((((w27.setCell ⟨gb105,0,none⟩ (.int .i64 ((wx t101 x23_1).f0))).setCell ⟨gb105,1,none⟩ (.string ((wx t101 x23_1).f1))).setCell ⟨gb105,2,none⟩ (.string ((wx t101 x23_1).f2))).setCell ⟨gb105,3,none⟩ (.slice A104_3 ((wx t101 x23_1).f3).length c104_3)).setCell ⟨gb105,4,none⟩ (.slice A104_4 ((wx t101 x23_1).f4).length c104_4))) ?hg ?ho ?hn ?hr ?_;(case ho => rfl);(case hg => rfl);(case hn => rfl);(case hr => first | (go_simp;done) | (go_simp;rfl));intro w29 hw;have n0_ : qq (Kd.N k27 27 w29 w.heap.size (fun k_ => some k_ ≠ (u6 : Value).ownBlock ∧ k_ ≠ gb105) (.slice (some ad104) t101.length co7) t101) := ⟨(by rw [hw];exact (by (with_reducible repeat (first | apply Kd.vq | apply Kd.kx | apply Kd.vz));exact Kd.N_mono (Kd.N_far (p := ⟨gb105,4,none⟩) (Kd.N_far (p := ⟨gb105,3,none⟩) (Kd.N_far (p := ⟨gb105,2,none⟩) (Kd.N_far (p := ⟨gb105,1,none⟩) (Kd.N_far (p := ⟨gb105,0,none⟩) (Kd.N_mono HO_5.out (fun k_ hk => (⟨hk,hk.2⟩ : _ ∧ k_ ≠ gb105))) (fun _ hk => hk.2) (.int .i64 ((wx t101 x23_1).f0))) (fun _ hk => hk.2) (.string ((wx t101 x23_1).f1))) (fun _ hk => hk.2) (.string ((wx t101 x23_1).f2))) (fun _ hk => hk.2) (.slice A104_3 ((wx t101 x23_1).f3).length c104_3)) (fun _ hk => hk.2) (.slice A104_4 ((wx t101 x23_1).f4).length c104_4)) (fun _ hk => ⟨hk.1.1,hk.1.2⟩)))⟩;have n1_ : qq (Kd.N k27 27 w29 w.heap.size (fun k_ => some k_ ≠ (.slice (some ad104) t101.length co7 : Value).ownBlock ∧ k_ ≠ gb105) u6 x6_1) := ⟨(by rw [hw];exact (by (with_reducible repeat (first | apply Kd.vq | apply Kd.kx | apply Kd.vz));exact Kd.N_mono (Kd.N_far (p := ⟨gb105,4,none⟩) (Kd.N_far (p := ⟨gb105,3,none⟩) (Kd.N_far (p := ⟨gb105,2,none⟩) (Kd.N_far (p := ⟨gb105,1,none⟩) (Kd.N_far (p := ⟨gb105,0,none⟩) (Kd.N_mono HO_6.out (fun k_ hk => (⟨hk,hk.2⟩ : _ ∧ k_ ≠ gb105))) (fun _ hk => hk.2) (.int .i64 ((wx t101 x23_1).f0))) (fun _ hk => hk.2) (.string ((wx t101 x23_1).f1))) (fun _ hk => hk.2) (.string ((wx t101 x23_1).f2))) (fun _ hk => hk.2) (.slice A104_3 ((wx t101 x23_1).f3).length c104_3)) (fun _ hk => hk.2) (.slice A104_4 ((wx t101 x23_1).f4).length c104_4)) (fun _ hk => ⟨hk.1.1,hk.1.2⟩)))⟩;have n2_ : qq (Kd.N k27 27 w29 w.heap.size (fun k_ => some k_ ≠ (u6 : Value).ownBlock ∧ k_ ≠ gb105) (.slice (some ad104) t101.length co7) t101) := ⟨(by rw [hw];exact (by (with_reducible repeat (first | apply Kd.vq | apply Kd.kx | apply Kd.vz));exact Kd.N_mono (Kd.N_far (p := ⟨gb105,4,none⟩) (Kd.N_far (p := ⟨gb105,3,none⟩) (Kd.N_far (p := ⟨gb105,2,none⟩) (Kd.N_far (p := ⟨gb105,1,none⟩) (Kd.N_far (p := ⟨gb105,0,none⟩) (Kd.N_mono HO_21.out (fun k_ hk => (⟨hk,hk.2⟩ : _ ∧ k_ ≠ gb105))) (fun _ hk => hk.2) (.int .i64 ((wx t101 x23_1).f0))) (fun _ hk => hk.2) (.string ((wx t101 x23_1).f1))) (fun _ hk => hk.2) (.string ((wx t101 x23_1).f2))) (fun _ hk => hk.2) (.slice A104_3 ((wx t101 x23_1).f3).length c104_3)) (fun _ hk => hk.2) (.slice A104_4 ((wx t101 x23_1).f4).length c104_4)) (fun _ hk => ⟨hk.1.1,hk.1.2⟩)))⟩;have n3_ : qq (Kd.V (Kd.int .u8) 5 w29 w.heap.size (fun k_ => some k_ ≠ (u6 : Value).ownBlock ∧ some k_ ≠ (.slice (some ad104) t101.length co7 : Value).ownBlock ∧ k_ ≠ gb105) (.slice A104_3 ((wx t101 x23_1).f3).length c104_3) ((wx t101 x23_1).f3)) := ⟨(by rw [hw];exact (by (with_reducible repeat (first | apply Kd.wq | apply Kd.vx | apply Kd.wz));exact Kd.V_mono (Kd.V_far (p := ⟨gb105,4,none⟩) (Kd.V_far (p := ⟨gb105,3,none⟩) (Kd.V_far (p := ⟨gb105,2,none⟩) (Kd.V_far (p := ⟨gb105,1,none⟩) (Kd.V_far (p := ⟨gb105,0,none⟩) (Kd.V_mono HL104_3.out (fun k_ hk => (⟨hk,hk.2⟩ : _ ∧ k_ ≠ gb105))) (fun _ hk => hk.2) (.int .i64 ((wx t101 x23_1).f0))) (fun _ hk => hk.2) (.string ((wx t101 x23_1).f1))) (fun _ hk => hk.2) (.string ((wx t101 x23_1).f2))) (fun _ hk => hk.2) (.slice A104_3 ((wx t101 x23_1).f3).length c104_3)) (fun _ hk => hk.2) (.slice A104_4 ((wx t101 x23_1).f4).length c104_4)) (fun _ hk => ⟨hk.1.1.1,⟨hk.1.1.2,hk.1.2⟩⟩)))⟩;have n4_ : qq (Kd.V (Kd.int .u8) 5 w29 w.heap.size (fun k_ => some k_ ≠ (u6 : Value).ownBlock ∧ some k_ ≠ (.slice (some ad104) t101.length co7 : Value).ownBlock ∧ k_ ≠ gb105) (.slice A104_4 ((wx t101 x23_1).f4).length c104_4) ((wx t101 x23_1).f4)) := ⟨(by rw [hw];exact (by (with_reducible repeat (first | apply Kd.wq | apply Kd.vx | apply Kd.wz));exact Kd.V_mono (Kd.V_far (p := ⟨gb105,4,none⟩) (Kd.V_far (p := ⟨gb105,3,none⟩) (Kd.V_far (p := ⟨gb105,2,none⟩) (Kd.V_far (p := ⟨gb105,1,none⟩) (Kd.V_far (p := ⟨gb105,0,none⟩) (Kd.V_mono HL104_4.out (fun k_ hk => (⟨hk,hk.2⟩ : _ ∧ k_ ≠ gb105))) (fun _ hk => hk.2) (.int .i64 ((wx t101 x23_1).f0))) (fun _ hk => hk.2) (.string ((wx t101 x23_1).f1))) (fun _ hk => hk.2) (.string ((wx t101 x23_1).f2))) (fun _ hk => hk.2) (.slice A104_3 ((wx t101 x23_1).f3).length c104_3)) (fun _ hk => hk.2) (.slice A104_4 ((wx t101 x23_1).f4).length c104_4)) (fun _ hk => ⟨hk.1.1.1,⟨hk.1.1.2,hk.1.2⟩⟩)))⟩;have n5_ : qq (w29.heap[gb105]? = some (.cells #[.int .i64 ((wx t101 x23_1).f0),.string ((wx t101 x23_1).f1),.string ((wx t101 x23_1).f2),.slice A104_3 ((wx t101 x23_1).f3).length c104_3,.slice A104_4 ((wx t101 x23_1).f4).length c104_4] 27 (0,0))) := ⟨(by rw [hw];exact (by (with_reducible repeat (first | refine zz ?_ _ | refine zj ?_ | refine zq ?_ _));refine blk_put (cs := #[.int .i64 ((wx t101 x23_1).f0),.string ((wx t101 x23_1).f1),.string ((wx t101 x23_1).f2),.slice A104_3 ((wx t101 x23_1).f3).length c104_3,.slice none 0 0]) ?_ 4 _ rfl;(with_reducible repeat (first | refine zz ?_ _ | refine zj ?_ | refine zq ?_ _));refine blk_put (cs := #[.int .i64 ((wx t101 x23_1).f0),.string ((wx t101 x23_1).f1),.string ((wx t101 x23_1).f2),.slice none 0 0,.slice none 0 0]) ?_ 3 _ rfl;(with_reducible repeat (first | refine zz ?_ _ | refine zj ?_ | refine zq ?_ _));refine blk_put (cs := #[.int .i64 ((wx t101 x23_1).f0),.string ((wx t101 x23_1).f1),.string (⟨#[]⟩ : ByteArray),.slice none 0 0,.slice none 0 0]) ?_ 2 _ rfl;(with_reducible repeat (first | refine zz ?_ _ | refine zj ?_ | refine zq ?_ _));refine blk_put (cs := #[.int .i64 ((wx t101 x23_1).f0),.string (⟨#[]⟩ : ByteArray),.string (⟨#[]⟩ : ByteArray),.slice none 0 0,.slice none 0 0]) ?_ 1 _ rfl;(with_reducible repeat (first | refine zz ?_ _ | refine zj ?_ | refine zq ?_ _));refine blk_put (cs := #[.int .i64 0,.string (⟨#[]⟩ : ByteArray),.string (⟨#[]⟩ : ByteArray),.slice none 0 0,.slice none 0 0]) ?_ 0 _ rfl;(with_reducible repeat (first | refine zz ?_ _ | refine zj ?_ | refine zq ?_ _));exact BK105.out))⟩;have n6_ : qq (Below w.heap.size w w29) := ⟨(by rw [hw];exact (by repeat (first | (with_reducible first | exact HB.out | apply qj | apply qz | apply qk | refine qx ?_ GE105.out) | exact HB.out)))⟩;clear hw;clear HO_5;clear HO_6;clear HO_21;clear HL104_3;clear HL104_4;clear BK105;clear HB;have HO_5 := n0_;have HO_6 := n1_;have HO_21 := n2_;have HL104_3 := n3_;have HL104_4 := n4_;have BK105 := n5_;have HB := n6_;clear n0_ n1_ n2_ n3_ n4_ n5_ n6_;have p106 : 0 ≤ (x23_1 : Int) := of_decide_eq_true (by assumption);have q106 : x23_1 < (l1.length : Int) := of_decide_eq_true (by assumption);obtain ⟨ad106,e106,hx106_0⟩ := Kd.at_int HR1.out x23_1 p106 q106;cases e106;replace hx106_0 := (HB.out.cell (World.block_lt_of_cell? w _ hx106_0)).trans hx106_0;replace p106 := eq_true p106;replace q106 := eq_true q106;have hcz30_0 : w29.cell? ⟨gb105,0,none⟩ = some (.int .i64 ((wx t101 x23_1).f0)) := (qw BK105.out 0).trans rfl;have hcz30_1 : w29.cell? ⟨gb105,1,none⟩ = some (.string ((wx t101 x23_1).f1)) := (qw BK105.out 1).trans rfl;have hcz30_2 : w29.cell? ⟨gb105,2,none⟩ = some (.string ((wx t101 x23_1).f2)) := (qw BK105.out 2).trans rfl;have hcz30_3 : w29.cell? ⟨gb105,3,none⟩ = some (.slice A104_3 ((wx t101 x23_1).f3).length c104_3) := (qw BK105.out 3).trans rfl;have hcz30_4 : w29.cell? ⟨gb105,4,none⟩ = some (.slice A104_4 ((wx t101 x23_1).f4).length c104_4) := (qw BK105.out 4).trans rfl;have hfz30_0 := qv BK105.out 0;have hfz30_1 := qv BK105.out 1;have hfz30_2 := qv BK105.out 2;have hfz30_3 := qv BK105.out 3;have hfz30_4 := qv BK105.out 4) | ((with_reducible refine gate_builtin (b := .append) (xs := #[.tmp 51,.tmp 53]) rfl ?_);(try (refine gate_guard (by rfl) ?_;dsimp only));at_builtin;refine Kd.N_append k27 (w0 := w) w.heap.size rfl (.tmp 51) (.tmp 53) 39 27 (.agg #[(.int .i64 0),(.string ⟨#[]⟩),(.string ⟨#[]⟩),(.slice none 0 0),(.slice none 0 0)]) 88 rfl Try.underlying39 info27 rfl (by decide) (by omega) u6 x6_1 (⟨(wx t101 x23_1).f0,(wx t101 x23_1).f1,(wx t101 x23_1).f2,(wx t101 x23_1).f3,(wx t101 x23_1).f4⟩ : S27) [.int .i64 ((wx t101 x23_1).f0),.string ((wx t101 x23_1).f1),.string ((wx t101 x23_1).f2),.slice A104_3 ((wx t101 x23_1).f3).length c104_3,.slice A104_4 ((wx t101 x23_1).f4).length c104_4] (fun k_ => some k_ ≠ (.slice (some ad104) t101.length co7 : Value).ownBlock ∧ k_ ≠ gb105) (fun k_ => ((fun k_ => some k_ ≠ (.slice (some ad104) t101.length co7 : Value).ownBlock ∧ k_ ≠ gb105)) k_ ∧ some k_ ≠ (u6 : Value).ownBlock) rfl rfl ?aP (fun _ hk => hk) ?aF ?aO ?aB ?aS ?aL ?_;(case aP => exact (k27_mkF _ _ (⟨(wx t101 x23_1).f0,(wx t101 x23_1).f1,(wx t101 x23_1).f2,(wx t101 x23_1).f3,(wx t101 x23_1).f4⟩ : S27) (Kd.V_reads' (Kd.V_mono (ok' := (fun k_ => ((fun k_ => some k_ ≠ (.slice (some ad104) t101.length co7 : Value).ownBlock ∧ k_ ≠ gb105)) k_ ∧ some k_ ≠ (u6 : Value).ownBlock)) (HL104_3.out) (fun k_ hk => ⟨⟨hk.2.1,hk.2.2⟩,hk.1⟩))).2.1 (Kd.V_F (Kd.V_mono (ok' := (fun k_ => ((fun k_ => some k_ ≠ (.slice (some ad104) t101.length co7 : Value).ownBlock ∧ k_ ≠ gb105)) k_ ∧ some k_ ≠ (u6 : Value).ownBlock)) (HL104_3.out) (fun k_ hk => ⟨⟨hk.2.1,hk.2.2⟩,hk.1⟩))) (Kd.V_reads' (Kd.V_mono (ok' := (fun k_ => ((fun k_ => some k_ ≠ (.slice (some ad104) t101.length co7 : Value).ownBlock ∧ k_ ≠ gb105)) k_ ∧ some k_ ≠ (u6 : Value).ownBlock)) (HL104_4.out) (fun k_ hk => ⟨⟨hk.2.1,hk.2.2⟩,hk.1⟩))).2.1 (Kd.V_F (Kd.V_mono (ok' := (fun k_ => ((fun k_ => some k_ ≠ (.slice (some ad104) t101.length co7 : Value).ownBlock ∧ k_ ≠ gb105)) k_ ∧ some k_ ≠ (u6 : Value).ownBlock)) (HL104_4.out) (fun k_ hk => ⟨⟨hk.2.1,hk.2.2⟩,hk.1⟩)))));(case aB => exact (by repeat (first | (with_reducible first | exact HB.out | apply qj | apply qz | apply qk | refine qx ?_ GE105.out) | exact HB.out)));(case aF => exact (fun k_ hk => ⟨Kd.fresh' (Kd.N_lt (by (with_reducible repeat (first | apply Kd.vq | apply Kd.kx | apply Kd.vz));exact HO_21.out)) k_ hk,Kd.freshB (g := gb105) (o := .cells #[.int .i64 ((wx t101 x23_1).f0),.string ((wx t101 x23_1).f1),.string ((wx t101 x23_1).f2),.slice A104_3 ((wx t101 x23_1).f3).length c104_3,.slice A104_4 ((wx t101 x23_1).f4).length c104_4] 27 (0,0)) (by (with_reducible repeat (first | refine zz ?_ _ | refine zj ?_ | refine zq ?_ _));exact BK105.out) k_ hk⟩));(case aO => exact (by (with_reducible repeat (first | apply Kd.vq | apply Kd.kx | apply Kd.vz));exact HO_6.out));(case aS => exact (zw (by repeat (first | (with_reducible first | exact HB.out | apply qj | apply qz | apply qk | refine qx ?_ GE105.out) | exact HB.out))));(case aL => have := LMc26.out;omega);intro v120 w31 ho hb hg hat;rw [← Ny119.out] at ho;have n0_ := qq.mk (Kd.N_afterv (ok := (fun k_ => k_ ≠ gb105)) (by (with_reducible repeat (first | apply Kd.vq | apply Kd.kx | apply Kd.vz));exact Kd.N_mono HO_5.out (fun _ hk => ⟨hk.2,hk.1⟩)) hg hat);have n1_ := qq.mk (Kd.N_afterv (ok := (fun k_ => k_ ≠ gb105)) (by (with_reducible repeat (first | apply Kd.vq | apply Kd.kx | apply Kd.vz));exact Kd.N_mono HO_21.out (fun _ hk => ⟨hk.2,hk.1⟩)) hg hat);have n2_ := qq.mk (Kd.V_afterv (ok := (fun k_ => some k_ ≠ (.slice (some ad104) t101.length co7 : Value).ownBlock ∧ k_ ≠ gb105)) (by (with_reducible repeat (first | apply Kd.wq | apply Kd.vx | apply Kd.wz));exact Kd.V_mono HL104_3.out (fun _ hk => ⟨⟨hk.2.1,hk.2.2⟩,hk.1⟩)) hg hat);have n3_ := qq.mk (Kd.V_afterv (ok := (fun k_ => some k_ ≠ (.slice (some ad104) t101.length co7 : Value).ownBlock ∧ k_ ≠ gb105)) (by (with_reducible repeat (first | apply Kd.wq | apply Kd.vx | apply Kd.wz));exact Kd.V_mono HL104_4.out (fun _ hk => ⟨⟨hk.2.1,hk.2.2⟩,hk.1⟩)) hg hat);have n4_ := qq.mk (blk_grown (g := gb105) (o := .cells #[.int .i64 ((wx t101 x23_1).f0),.string ((wx t101 x23_1).f1),.string ((wx t101 x23_1).f2),.slice A104_3 ((wx t101 x23_1).f3).length c104_3,.slice A104_4 ((wx t101 x23_1).f4).length c104_4] 27 (0,0)) (by (with_reducible repeat (first | refine zz ?_ _ | refine zj ?_ | refine zq ?_ _));exact BK105.out) hg (Kd.N_away HO_6.out (fun _ hk => hk.2)));have n5_ := qq.mk (hb);have n6_ := qq.mk (ho);clear HO_5;clear HO_21;clear HL104_3;clear HL104_4;clear BK105;clear HB;clear HO_6;have HO_5 := n0_;have HO_21 := n1_;have HL104_3 := n2_;have HL104_4 := n3_;have BK105 := n4_;have HB := n5_;have HO121 := n6_;clear n0_ n1_ n2_ n3_ n4_ n5_ n6_;clear ho hb hg hat))
           go_roundg k1
           case measure => have := HK1.out;omega
           case rel => exact ⟨(y119),(wrap64 (x23_1 + 1)),(by first | rfl | (simp;done) | (simp [*];done) | (generalize ByteArray.toList _ = l_;cases l_ <;> first | rfl | (simp;done))),H',⟨by have := HK1.out;omega⟩,⟨by (with_reducible repeat (first | apply Kd.vq | apply Kd.kx | apply Kd.vz));exact Kd.N_mono HO_5.out (fun _ hk => hk.2)⟩,⟨by (with_reducible repeat (first | apply Kd.vq | apply Kd.kx | apply Kd.vz));exact Kd.N_mono HO121.out (fun _ hk => hk.1)⟩,⟨by (with_reducible repeat (first | apply Kd.vq | apply Kd.kx | apply Kd.vz));exact Kd.N_mono HO_21.out (fun _ hk => hk.2)⟩,⟨by repeat (first | (with_reducible first | exact HB.out | apply qj | apply qz | apply qk | refine qx ?_ GE105.out) | exact HB.out)⟩⟩
          ·rw [if_neg c26] at H
           exact absurd H (by simp)
        ·rw [if_neg c11] at H
         have c11b0 : decide (x23_1 < (l1.length : Int)) = false := decide_eq_false c11
         clear c11
         by_cases c32 : x6_1.length < 1599289640401
         ·rw [if_pos c32] at H
          have LMc32 := qq.mk c32
          clear c32
          obtain ⟨y122,hy122⟩ : ∃ y_ : List (S27),y_ = (x6_1 ++ [(⟨(wx t101 x23_1).f0,(wx t101 x23_1).f1,(wx t101 x23_1).f2,(wx t101 x23_1).f3,(wx t101 x23_1).f4⟩ : S27)]) := ⟨_,rfl⟩
          replace H : (qjz.l0 k1 l1 t101 y122 t101 (t101.length : Int) (wrap64 (x23_1 + 1))) = some r := by first | (rw [hy122];with_reducible exact H) | (have H2_ := (Option.bind_some _ _).symm.trans H;rw [hy122];with_reducible exact H2_) | (have H2_ := (Option.bind_some _ _).symm.trans H;with_reducible exact H2_) | with_reducible exact H | (rw [hy122];exact H) | exact H
          have Ny122 := qq.mk hy122
          clear hy122
          have H' := qq.mk H
          clear H
          have p104 : 0 ≤ (x23_1 : Int) := of_decide_eq_true (by assumption)
          have q104 : x23_1 < (t101.length : Int) := of_decide_eq_true (by assumption)
          obtain ⟨ad104,A104_3,c104_3,A104_4,c104_4,e104,hx104_0,hx104_1,hx104_2,hx104_3,hx104_4,hl104_3,hi104_3,hl104_4,hi104_4⟩ := at_T27 (Kd.N_reads' HO_21.out).2.2 x23_1 p104 q104
          cases e104
          obtain ⟨ce104,hce104,hMe104,hcc104⟩ := Kd.N_get HO_21.out z27 x23_1 p104 (by first | exact q104 | exact of_decide_eq_true (by assumption) | (have e_ := (Kd.N_reads' HO_21.out).1;omega))
          obtain ⟨ua104_3,uc104_3,ua104_4,uc104_4,rfl,ul104_3,ge104_3,ul104_4,ge104_4⟩ := k27_openF hMe104
          have hv104_3 := hcc104 3 _ rfl
          rw [add_field _ _ 3 (by omega)] at hv104_3
          replace hv104_3 := Option.some.inj (hv104_3.symm.trans hx104_3)
          injection hv104_3 with hva_ hvn_ hvc_
          rw [hva_] at ge104_3
          rw [hvc_] at ul104_3
          have HL104_3 := qq.mk (show Kd.V (Kd.int .u8) 5 _ w.heap.size _ _ ((wx t101 x23_1).f3) from Kd.V_mk ul104_3 ge104_3)
          clear hva_ hvn_ hvc_ ge104_3 ul104_3
          have hv104_4 := hcc104 4 _ rfl
          rw [add_field _ _ 4 (by omega)] at hv104_4
          replace hv104_4 := Option.some.inj (hv104_4.symm.trans hx104_4)
          injection hv104_4 with hva_ hvn_ hvc_
          rw [hva_] at ge104_4
          rw [hvc_] at ul104_4
          have HL104_4 := qq.mk (show Kd.V (Kd.int .u8) 5 _ w.heap.size _ _ ((wx t101 x23_1).f4) from Kd.V_mk ul104_4 ge104_4)
          clear hva_ hvn_ hvc_ ge104_4 ul104_4
          clear hcc104 hce104
          have HR104_3 := qq.mk hi104_3
          have HC104_3 := qq.mk hl104_3
          clear hi104_3 hl104_3
          have HR104_4 := qq.mk hi104_4
          have HC104_4 := qq.mk hl104_4
          clear hi104_4 hl104_4
          replace p104 := eq_true p104
          replace q104 := eq_true q104
          go_wp2_with (first | ((with_reducible refine gate_dst (N := 8) rfl ?_);(try (refine gate_guard (by rfl) ?_;dsimp only));refine box_event ?hg (N := 8) ?hd (cs := #[.int .i64 0,.string (⟨#[]⟩ : ByteArray),.string (⟨#[]⟩ : ByteArray),.slice none 0 0,.slice none 0 0]) (t := 27) ?hr ?_;(case hd => rfl);(case hg => rfl);(case hr => first | (go_simp;done) | (go_simp;rfl));intro gb105 hg w33 hbox hb;have n0_ := qq.mk (Kd.N_below (Kd.N_elderB (by (with_reducible repeat (first | apply Kd.vq | apply Kd.kx | apply Kd.vz));exact HO_5.out) gb105 (Nat.le_of_eq hg.symm)) hb);have n1_ := qq.mk (Kd.N_below (Kd.N_elderB (by (with_reducible repeat (first | apply Kd.vq | apply Kd.kx | apply Kd.vz));exact HO_6.out) gb105 (Nat.le_of_eq hg.symm)) hb);have n2_ := qq.mk (Kd.N_below (Kd.N_elderB (by (with_reducible repeat (first | apply Kd.vq | apply Kd.kx | apply Kd.vz));exact HO_21.out) gb105 (Nat.le_of_eq hg.symm)) hb);have n3_ := qq.mk (Kd.V_below (Kd.V_elderB (by (with_reducible repeat (first | apply Kd.wq | apply Kd.vx | apply Kd.wz));exact HL104_3.out) gb105 (Nat.le_of_eq hg.symm)) hb);have n4_ := qq.mk (Kd.V_below (Kd.V_elderB (by (with_reducible repeat (first | apply Kd.wq | apply Kd.vx | apply Kd.wz));exact HL104_4.out) gb105 (Nat.le_of_eq hg.symm)) hb);have n5_ := qq.mk (Kd.C_below (by repeat (first | (with_reducible exact HR104_3.out) | (with_reducible refine Kd.C_alloc ?_ _) | (with_reducible refine Kd.C_drewN ?_ _) | (with_reducible refine Kd.C_drew ?_) | exact HR104_3.out)) hb);have n6_ := qq.mk (Kd.C_below (by repeat (first | (with_reducible exact HR104_4.out) | (with_reducible refine Kd.C_alloc ?_ _) | (with_reducible refine Kd.C_drewN ?_ _) | (with_reducible refine Kd.C_drew ?_) | exact HR104_4.out)) hb);have n7_ := qq.mk (zv (by repeat (first | (with_reducible first | exact HB.out | apply qj | apply qz | apply qk) | exact HB.out)) hb);have n8_ := qq.mk (hbox);have n9_ := qq.mk ((by rw [hg];exact (zw (by repeat (first | (with_reducible first | exact HB.out | apply qj | apply qz | apply qk) | exact HB.out))) : w.heap.size ≤ gb105));have n10_ := qq.mk ((by rw [hg];exact (zw (by repeat (first | (with_reducible first | exact HB.out | apply qj | apply qz | apply qk) | exact HB.out))) : w.heap.size ≤ gb105));clear HO_5;clear HO_6;clear HO_21;clear HL104_3;clear HL104_4;clear HR104_3;clear HR104_4;clear HB;have HO_5 := n0_;have HO_6 := n1_;have HO_21 := n2_;have HL104_3 := n3_;have HL104_4 := n4_;have HR104_3 := n5_;have HR104_4 := n6_;have HB := n7_;have BK105 := n8_;have GW105 := n9_;have GE105 := n10_;clear n0_ n1_ n2_ n3_ n4_ n5_ n6_ n7_ n8_ n9_ n10_;clear hb hbox hg;have hcz34_0 : w33.cell? ⟨gb105,0,none⟩ = some (.int .i64 0) := (qw BK105.out 0).trans rfl;have hcz34_1 : w33.cell? ⟨gb105,1,none⟩ = some (.string (⟨#[]⟩ : ByteArray)) := (qw BK105.out 1).trans rfl;have hcz34_2 : w33.cell? ⟨gb105,2,none⟩ = some (.string (⟨#[]⟩ : ByteArray)) := (qw BK105.out 2).trans rfl;have hcz34_3 : w33.cell? ⟨gb105,3,none⟩ = some (.slice none 0 0) := (qw BK105.out 3).trans rfl;have hcz34_4 : w33.cell? ⟨gb105,4,none⟩ = some (.slice none 0 0) := (qw BK105.out 4).trans rfl;have hfz34_0 := qv BK105.out 0;have hfz34_1 := qv BK105.out 1;have hfz34_2 := qv BK105.out 2;have hfz34_3 := qv BK105.out 3;have hfz34_4 := qv BK105.out 4) | ((with_reducible refine kk (t := 27) (p := 8) rfl ?_);refine kv (t := 27) (p := 8) (v := ?vo_w35) (w1 := (((((w33.setCell ⟨gb105,0,none⟩ (.int .i64 ((wx t101 x23_1).f0))).setCell ⟨gb105,1,none⟩ (.string ((wx t101 x23_1).f1))).setCell ⟨gb105,2,none⟩ (.string ((wx t101 x23_1).f2))).setCell ⟨gb105,3,none⟩ (.slice A104_3 ((wx t101 x23_1).f3).length c104_3)).setCell ⟨gb105,4,none⟩ (.slice A104_4 ((wx t101 x23_1).f4).length c104_4))) ?hg ?ho ?hn ?hr ?_;(case ho => rfl);(case hg => rfl);(case hn => rfl);(case hr => first | (go_simp;done) | (go_simp;rfl));intro w35 hw;have n0_ : qq (Kd.N k27 27 w35 w.heap.size (fun k_ => some k_ ≠ (u6 : Value).ownBlock ∧ k_ ≠ gb105) (.slice (some ad104) t101.length co7) t101) := ⟨(by rw [hw];exact (by (with_reducible repeat (first | apply Kd.vq | apply Kd.kx | apply Kd.vz));exact Kd.N_mono (Kd.N_far (p := ⟨gb105,4,none⟩) (Kd.N_far (p := ⟨gb105,3,none⟩) (Kd.N_far (p := ⟨gb105,2,none⟩) (Kd.N_far (p := ⟨gb105,1,none⟩) (Kd.N_far (p := ⟨gb105,0,none⟩) (Kd.N_mono HO_5.out (fun k_ hk => (⟨hk,hk.2⟩ : _ ∧ k_ ≠ gb105))) (fun _ hk => hk.2) (.int .i64 ((wx t101 x23_1).f0))) (fun _ hk => hk.2) (.string ((wx t101 x23_1).f1))) (fun _ hk => hk.2) (.string ((wx t101 x23_1).f2))) (fun _ hk => hk.2) (.slice A104_3 ((wx t101 x23_1).f3).length c104_3)) (fun _ hk => hk.2) (.slice A104_4 ((wx t101 x23_1).f4).length c104_4)) (fun _ hk => ⟨hk.1.1,hk.1.2⟩)))⟩;have n1_ : qq (Kd.N k27 27 w35 w.heap.size (fun k_ => some k_ ≠ (.slice (some ad104) t101.length co7 : Value).ownBlock ∧ k_ ≠ gb105) u6 x6_1) := ⟨(by rw [hw];exact (by (with_reducible repeat (first | apply Kd.vq | apply Kd.kx | apply Kd.vz));exact Kd.N_mono (Kd.N_far (p := ⟨gb105,4,none⟩) (Kd.N_far (p := ⟨gb105,3,none⟩) (Kd.N_far (p := ⟨gb105,2,none⟩) (Kd.N_far (p := ⟨gb105,1,none⟩) (Kd.N_far (p := ⟨gb105,0,none⟩) (Kd.N_mono HO_6.out (fun k_ hk => (⟨hk,hk.2⟩ : _ ∧ k_ ≠ gb105))) (fun _ hk => hk.2) (.int .i64 ((wx t101 x23_1).f0))) (fun _ hk => hk.2) (.string ((wx t101 x23_1).f1))) (fun _ hk => hk.2) (.string ((wx t101 x23_1).f2))) (fun _ hk => hk.2) (.slice A104_3 ((wx t101 x23_1).f3).length c104_3)) (fun _ hk => hk.2) (.slice A104_4 ((wx t101 x23_1).f4).length c104_4)) (fun _ hk => ⟨hk.1.1,hk.1.2⟩)))⟩;have n2_ : qq (Kd.N k27 27 w35 w.heap.size (fun k_ => some k_ ≠ (u6 : Value).ownBlock ∧ k_ ≠ gb105) (.slice (some ad104) t101.length co7) t101) := ⟨(by rw [hw];exact (by (with_reducible repeat (first | apply Kd.vq | apply Kd.kx | apply Kd.vz));exact Kd.N_mono (Kd.N_far (p := ⟨gb105,4,none⟩) (Kd.N_far (p := ⟨gb105,3,none⟩) (Kd.N_far (p := ⟨gb105,2,none⟩) (Kd.N_far (p := ⟨gb105,1,none⟩) (Kd.N_far (p := ⟨gb105,0,none⟩) (Kd.N_mono HO_21.out (fun k_ hk => (⟨hk,hk.2⟩ : _ ∧ k_ ≠ gb105))) (fun _ hk => hk.2) (.int .i64 ((wx t101 x23_1).f0))) (fun _ hk => hk.2) (.string ((wx t101 x23_1).f1))) (fun _ hk => hk.2) (.string ((wx t101 x23_1).f2))) (fun _ hk => hk.2) (.slice A104_3 ((wx t101 x23_1).f3).length c104_3)) (fun _ hk => hk.2) (.slice A104_4 ((wx t101 x23_1).f4).length c104_4)) (fun _ hk => ⟨hk.1.1,hk.1.2⟩)))⟩;have n3_ : qq (Kd.V (Kd.int .u8) 5 w35 w.heap.size (fun k_ => some k_ ≠ (u6 : Value).ownBlock ∧ some k_ ≠ (.slice (some ad104) t101.length co7 : Value).ownBlock ∧ k_ ≠ gb105) (.slice A104_3 ((wx t101 x23_1).f3).length c104_3) ((wx t101 x23_1).f3)) := ⟨(by rw [hw];exact (by (with_reducible repeat (first | apply Kd.wq | apply Kd.vx | apply Kd.wz));exact Kd.V_mono (Kd.V_far (p := ⟨gb105,4,none⟩) (Kd.V_far (p := ⟨gb105,3,none⟩) (Kd.V_far (p := ⟨gb105,2,none⟩) (Kd.V_far (p := ⟨gb105,1,none⟩) (Kd.V_far (p := ⟨gb105,0,none⟩) (Kd.V_mono HL104_3.out (fun k_ hk => (⟨hk,hk.2⟩ : _ ∧ k_ ≠ gb105))) (fun _ hk => hk.2) (.int .i64 ((wx t101 x23_1).f0))) (fun _ hk => hk.2) (.string ((wx t101 x23_1).f1))) (fun _ hk => hk.2) (.string ((wx t101 x23_1).f2))) (fun _ hk => hk.2) (.slice A104_3 ((wx t101 x23_1).f3).length c104_3)) (fun _ hk => hk.2) (.slice A104_4 ((wx t101 x23_1).f4).length c104_4)) (fun _ hk => ⟨hk.1.1.1,⟨hk.1.1.2,hk.1.2⟩⟩)))⟩;have n4_ : qq (Kd.V (Kd.int .u8) 5 w35 w.heap.size (fun k_ => some k_ ≠ (u6 : Value).ownBlock ∧ some k_ ≠ (.slice (some ad104) t101.length co7 : Value).ownBlock ∧ k_ ≠ gb105) (.slice A104_4 ((wx t101 x23_1).f4).length c104_4) ((wx t101 x23_1).f4)) := ⟨(by rw [hw];exact (by (with_reducible repeat (first | apply Kd.wq | apply Kd.vx | apply Kd.wz));exact Kd.V_mono (Kd.V_far (p := ⟨gb105,4,none⟩) (Kd.V_far (p := ⟨gb105,3,none⟩) (Kd.V_far (p := ⟨gb105,2,none⟩) (Kd.V_far (p := ⟨gb105,1,none⟩) (Kd.V_far (p := ⟨gb105,0,none⟩) (Kd.V_mono HL104_4.out (fun k_ hk => (⟨hk,hk.2⟩ : _ ∧ k_ ≠ gb105))) (fun _ hk => hk.2) (.int .i64 ((wx t101 x23_1).f0))) (fun _ hk => hk.2) (.string ((wx t101 x23_1).f1))) (fun _ hk => hk.2) (.string ((wx t101 x23_1).f2))) (fun _ hk => hk.2) (.slice A104_3 ((wx t101 x23_1).f3).length c104_3)) (fun _ hk => hk.2) (.slice A104_4 ((wx t101 x23_1).f4).length c104_4)) (fun _ hk => ⟨hk.1.1.1,⟨hk.1.1.2,hk.1.2⟩⟩)))⟩;have n5_ : qq (w35.heap[gb105]? = some (.cells #[.int .i64 ((wx t101 x23_1).f0),.string ((wx t101 x23_1).f1),.string ((wx t101 x23_1).f2),.slice A104_3 ((wx t101 x23_1).f3).length c104_3,.slice A104_4 ((wx t101 x23_1).f4).length c104_4] 27 (0,0))) := ⟨(by rw [hw];exact (by (with_reducible repeat (first | refine zz ?_ _ | refine zj ?_ | refine zq ?_ _));refine blk_put (cs := #[.int .i64 ((wx t101 x23_1).f0),.string ((wx t101 x23_1).f1),.string ((wx t101 x23_1).f2),.slice A104_3 ((wx t101 x23_1).f3).length c104_3,.slice none 0 0]) ?_ 4 _ rfl;(with_reducible repeat (first | refine zz ?_ _ | refine zj ?_ | refine zq ?_ _));refine blk_put (cs := #[.int .i64 ((wx t101 x23_1).f0),.string ((wx t101 x23_1).f1),.string ((wx t101 x23_1).f2),.slice none 0 0,.slice none 0 0]) ?_ 3 _ rfl;(with_reducible repeat (first | refine zz ?_ _ | refine zj ?_ | refine zq ?_ _));refine blk_put (cs := #[.int .i64 ((wx t101 x23_1).f0),.string ((wx t101 x23_1).f1),.string (⟨#[]⟩ : ByteArray),.slice none 0 0,.slice none 0 0]) ?_ 2 _ rfl;(with_reducible repeat (first | refine zz ?_ _ | refine zj ?_ | refine zq ?_ _));refine blk_put (cs := #[.int .i64 ((wx t101 x23_1).f0),.string (⟨#[]⟩ : ByteArray),.string (⟨#[]⟩ : ByteArray),.slice none 0 0,.slice none 0 0]) ?_ 1 _ rfl;(with_reducible repeat (first | refine zz ?_ _ | refine zj ?_ | refine zq ?_ _));refine blk_put (cs := #[.int .i64 0,.string (⟨#[]⟩ : ByteArray),.string (⟨#[]⟩ : ByteArray),.slice none 0 0,.slice none 0 0]) ?_ 0 _ rfl;(with_reducible repeat (first | refine zz ?_ _ | refine zj ?_ | refine zq ?_ _));exact BK105.out))⟩;have n6_ : qq (Below w.heap.size w w35) := ⟨(by rw [hw];exact (by repeat (first | (with_reducible first | exact HB.out | apply qj | apply qz | apply qk | refine qx ?_ GE105.out) | exact HB.out)))⟩;clear hw;clear HO_5;clear HO_6;clear HO_21;clear HL104_3;clear HL104_4;clear BK105;clear HB;have HO_5 := n0_;have HO_6 := n1_;have HO_21 := n2_;have HL104_3 := n3_;have HL104_4 := n4_;have BK105 := n5_;have HB := n6_;clear n0_ n1_ n2_ n3_ n4_ n5_ n6_;have hcz36_0 : w35.cell? ⟨gb105,0,none⟩ = some (.int .i64 ((wx t101 x23_1).f0)) := (qw BK105.out 0).trans rfl;have hcz36_1 : w35.cell? ⟨gb105,1,none⟩ = some (.string ((wx t101 x23_1).f1)) := (qw BK105.out 1).trans rfl;have hcz36_2 : w35.cell? ⟨gb105,2,none⟩ = some (.string ((wx t101 x23_1).f2)) := (qw BK105.out 2).trans rfl;have hcz36_3 : w35.cell? ⟨gb105,3,none⟩ = some (.slice A104_3 ((wx t101 x23_1).f3).length c104_3) := (qw BK105.out 3).trans rfl;have hcz36_4 : w35.cell? ⟨gb105,4,none⟩ = some (.slice A104_4 ((wx t101 x23_1).f4).length c104_4) := (qw BK105.out 4).trans rfl;have hfz36_0 := qv BK105.out 0;have hfz36_1 := qv BK105.out 1;have hfz36_2 := qv BK105.out 2;have hfz36_3 := qv BK105.out 3;have hfz36_4 := qv BK105.out 4) | ((with_reducible refine gate_builtin (b := .append) (xs := #[.tmp 51,.tmp 53]) rfl ?_);(try (refine gate_guard (by rfl) ?_;dsimp only));at_builtin;refine Kd.N_append k27 (w0 := w) w.heap.size rfl (.tmp 51) (.tmp 53) 39 27 (.agg #[(.int .i64 0),(.string ⟨#[]⟩),(.string ⟨#[]⟩),(.slice none 0 0),(.slice none 0 0)]) 88 rfl Try.underlying39 info27 rfl (by decide) (by omega) u6 x6_1 (⟨(wx t101 x23_1).f0,(wx t101 x23_1).f1,(wx t101 x23_1).f2,(wx t101 x23_1).f3,(wx t101 x23_1).f4⟩ : S27) [.int .i64 ((wx t101 x23_1).f0),.string ((wx t101 x23_1).f1),.string ((wx t101 x23_1).f2),.slice A104_3 ((wx t101 x23_1).f3).length c104_3,.slice A104_4 ((wx t101 x23_1).f4).length c104_4] (fun k_ => some k_ ≠ (.slice (some ad104) t101.length co7 : Value).ownBlock ∧ k_ ≠ gb105) (fun k_ => ((fun k_ => some k_ ≠ (.slice (some ad104) t101.length co7 : Value).ownBlock ∧ k_ ≠ gb105)) k_ ∧ some k_ ≠ (u6 : Value).ownBlock) rfl rfl ?aP (fun _ hk => hk) ?aF ?aO ?aB ?aS ?aL ?_;(case aP => exact (k27_mkF _ _ (⟨(wx t101 x23_1).f0,(wx t101 x23_1).f1,(wx t101 x23_1).f2,(wx t101 x23_1).f3,(wx t101 x23_1).f4⟩ : S27) (Kd.V_reads' (Kd.V_mono (ok' := (fun k_ => ((fun k_ => some k_ ≠ (.slice (some ad104) t101.length co7 : Value).ownBlock ∧ k_ ≠ gb105)) k_ ∧ some k_ ≠ (u6 : Value).ownBlock)) (HL104_3.out) (fun k_ hk => ⟨⟨hk.2.1,hk.2.2⟩,hk.1⟩))).2.1 (Kd.V_F (Kd.V_mono (ok' := (fun k_ => ((fun k_ => some k_ ≠ (.slice (some ad104) t101.length co7 : Value).ownBlock ∧ k_ ≠ gb105)) k_ ∧ some k_ ≠ (u6 : Value).ownBlock)) (HL104_3.out) (fun k_ hk => ⟨⟨hk.2.1,hk.2.2⟩,hk.1⟩))) (Kd.V_reads' (Kd.V_mono (ok' := (fun k_ => ((fun k_ => some k_ ≠ (.slice (some ad104) t101.length co7 : Value).ownBlock ∧ k_ ≠ gb105)) k_ ∧ some k_ ≠ (u6 : Value).ownBlock)) (HL104_4.out) (fun k_ hk => ⟨⟨hk.2.1,hk.2.2⟩,hk.1⟩))).2.1 (Kd.V_F (Kd.V_mono (ok' := (fun k_ => ((fun k_ => some k_ ≠ (.slice (some ad104) t101.length co7 : Value).ownBlock ∧ k_ ≠ gb105)) k_ ∧ some k_ ≠ (u6 : Value).ownBlock)) (HL104_4.out) (fun k_ hk => ⟨⟨hk.2.1,hk.2.2⟩,hk.1⟩)))));(case aB => exact (by repeat (first | (with_reducible first | exact HB.out | apply qj | apply qz | apply qk | refine qx ?_ GE105.out) | exact HB.out)));(case aF => exact (fun k_ hk => ⟨Kd.fresh' (Kd.N_lt (by (with_reducible repeat (first | apply Kd.vq | apply Kd.kx | apply Kd.vz));exact HO_21.out)) k_ hk,Kd.freshB (g := gb105) (o := .cells #[.int .i64 ((wx t101 x23_1).f0),.string ((wx t101 x23_1).f1),.string ((wx t101 x23_1).f2),.slice A104_3 ((wx t101 x23_1).f3).length c104_3,.slice A104_4 ((wx t101 x23_1).f4).length c104_4] 27 (0,0)) (by (with_reducible repeat (first | refine zz ?_ _ | refine zj ?_ | refine zq ?_ _));exact BK105.out) k_ hk⟩));(case aO => exact (by (with_reducible repeat (first | apply Kd.vq | apply Kd.kx | apply Kd.vz));exact HO_6.out));(case aS => exact (zw (by repeat (first | (with_reducible first | exact HB.out | apply qj | apply qz | apply qk | refine qx ?_ GE105.out) | exact HB.out))));(case aL => have := LMc32.out;omega);intro v123 w37 ho hb hg hat;rw [← Ny122.out] at ho;have n0_ := qq.mk (Kd.N_afterv (ok := (fun k_ => k_ ≠ gb105)) (by (with_reducible repeat (first | apply Kd.vq | apply Kd.kx | apply Kd.vz));exact Kd.N_mono HO_5.out (fun _ hk => ⟨hk.2,hk.1⟩)) hg hat);have n1_ := qq.mk (Kd.N_afterv (ok := (fun k_ => k_ ≠ gb105)) (by (with_reducible repeat (first | apply Kd.vq | apply Kd.kx | apply Kd.vz));exact Kd.N_mono HO_21.out (fun _ hk => ⟨hk.2,hk.1⟩)) hg hat);have n2_ := qq.mk (Kd.V_afterv (ok := (fun k_ => some k_ ≠ (.slice (some ad104) t101.length co7 : Value).ownBlock ∧ k_ ≠ gb105)) (by (with_reducible repeat (first | apply Kd.wq | apply Kd.vx | apply Kd.wz));exact Kd.V_mono HL104_3.out (fun _ hk => ⟨⟨hk.2.1,hk.2.2⟩,hk.1⟩)) hg hat);have n3_ := qq.mk (Kd.V_afterv (ok := (fun k_ => some k_ ≠ (.slice (some ad104) t101.length co7 : Value).ownBlock ∧ k_ ≠ gb105)) (by (with_reducible repeat (first | apply Kd.wq | apply Kd.vx | apply Kd.wz));exact Kd.V_mono HL104_4.out (fun _ hk => ⟨⟨hk.2.1,hk.2.2⟩,hk.1⟩)) hg hat);have n4_ := qq.mk (blk_grown (g := gb105) (o := .cells #[.int .i64 ((wx t101 x23_1).f0),.string ((wx t101 x23_1).f1),.string ((wx t101 x23_1).f2),.slice A104_3 ((wx t101 x23_1).f3).length c104_3,.slice A104_4 ((wx t101 x23_1).f4).length c104_4] 27 (0,0)) (by (with_reducible repeat (first | refine zz ?_ _ | refine zj ?_ | refine zq ?_ _));exact BK105.out) hg (Kd.N_away HO_6.out (fun _ hk => hk.2)));have n5_ := qq.mk (hb);have n6_ := qq.mk (ho);clear HO_5;clear HO_21;clear HL104_3;clear HL104_4;clear BK105;clear HB;clear HO_6;have HO_5 := n0_;have HO_21 := n1_;have HL104_3 := n2_;have HL104_4 := n3_;have BK105 := n4_;have HB := n5_;have HO124 := n6_;clear n0_ n1_ n2_ n3_ n4_ n5_ n6_;clear ho hb hg hat))
          go_roundg k1
          case measure => have := HK1.out;omega
          case rel => exact ⟨(y122),(wrap64 (x23_1 + 1)),(by first | rfl | (simp;done) | (simp [*];done) | (generalize ByteArray.toList _ = l_;cases l_ <;> first | rfl | (simp;done))),H',⟨by have := HK1.out;omega⟩,⟨by (with_reducible repeat (first | apply Kd.vq | apply Kd.kx | apply Kd.vz));exact Kd.N_mono HO_5.out (fun _ hk => hk.2)⟩,⟨by (with_reducible repeat (first | apply Kd.vq | apply Kd.kx | apply Kd.vz));exact Kd.N_mono HO124.out (fun _ hk => hk.1)⟩,⟨by (with_reducible repeat (first | apply Kd.vq | apply Kd.kx | apply Kd.vz));exact Kd.N_mono HO_21.out (fun _ hk => hk.2)⟩,⟨by repeat (first | (with_reducible first | exact HB.out | apply qj | apply qz | apply qk | refine qx ?_ GE105.out) | exact HB.out)⟩⟩
         ·rw [if_neg c32] at H
          exact absurd H (by simp)
       ·rw [if_neg c10] at H
        exact absurd H (by simp)
      ·rw [if_neg c9] at H
       exact absurd H (by simp)
     ·rw [if_neg c8] at H
      have c8b0 : decide (x23_1 < (t101.length : Int)) = false := decide_eq_false c8
      clear c8
      replace H := Option.bind_eq_some_iff.mp H
      obtain ⟨t125,A380,H⟩ := H
      replace H : ((qkz.f k1 t101).bind fun t128 => ((qjj.f t125 t128).bind fun t131 => (if t131 = true then (if (t125.length : Int) = 0 then (some true) else ((qqx.f k1 x6_1).bind fun t132 => ((qjj.f t132 t125).bind fun t135 => (if t135 = true then (if (t101.length : Int) = 0 then (some true) else (if 0 ≤ ((l1.length : Int) % (t101.length : Int)) then (if ((l1.length : Int) % (t101.length : Int)) < (x6_1.length : Int) then ((qqj.f k1 ((wx x6_1 ((l1.length : Int) % (t101.length : Int))).f0) ((wx x6_1 ((l1.length : Int) % (t101.length : Int))).f1) ((wx x6_1 ((l1.length : Int) % (t101.length : Int))).f2) ((wx x6_1 ((l1.length : Int) % (t101.length : Int))).f3) ((wx x6_1 ((l1.length : Int) % (t101.length : Int))).f4)).bind fun t137 => ((qqv.f k1 t101 ((l1.length : Int) % (t101.length : Int))).bind fun t140 => ((xw.f t137 ((l1.length : Int) % (t101.length : Int)) (t101.length : Int) t140 t125).bind fun t143 => (some t143)))) else (none)) else (none))) else (none))))) else (none)))) = some r := H
      have A38 := qq.mk A380
      clear A380
      replace H := Option.bind_eq_some_iff.mp H
      obtain ⟨t128,A390,H⟩ := H
      replace H : ((qjj.f t125 t128).bind fun t131 => (if t131 = true then (if (t125.length : Int) = 0 then (some true) else ((qqx.f k1 x6_1).bind fun t132 => ((qjj.f t132 t125).bind fun t135 => (if t135 = true then (if (t101.length : Int) = 0 then (some true) else (if 0 ≤ ((l1.length : Int) % (t101.length : Int)) then (if ((l1.length : Int) % (t101.length : Int)) < (x6_1.length : Int) then ((qqj.f k1 ((wx x6_1 ((l1.length : Int) % (t101.length : Int))).f0) ((wx x6_1 ((l1.length : Int) % (t101.length : Int))).f1) ((wx x6_1 ((l1.length : Int) % (t101.length : Int))).f2) ((wx x6_1 ((l1.length : Int) % (t101.length : Int))).f3) ((wx x6_1 ((l1.length : Int) % (t101.length : Int))).f4)).bind fun t137 => ((qqv.f k1 t101 ((l1.length : Int) % (t101.length : Int))).bind fun t140 => ((xw.f t137 ((l1.length : Int) % (t101.length : Int)) (t101.length : Int) t140 t125).bind fun t143 => (some t143)))) else (none)) else (none))) else (none))))) else (none))) = some r := H
      have A39 := qq.mk A390
      clear A390
      replace H := Option.bind_eq_some_iff.mp H
      obtain ⟨t131,A400,H⟩ := H
      replace H : (if t131 = true then (if (t125.length : Int) = 0 then (some true) else ((qqx.f k1 x6_1).bind fun t132 => ((qjj.f t132 t125).bind fun t135 => (if t135 = true then (if (t101.length : Int) = 0 then (some true) else (if 0 ≤ ((l1.length : Int) % (t101.length : Int)) then (if ((l1.length : Int) % (t101.length : Int)) < (x6_1.length : Int) then ((qqj.f k1 ((wx x6_1 ((l1.length : Int) % (t101.length : Int))).f0) ((wx x6_1 ((l1.length : Int) % (t101.length : Int))).f1) ((wx x6_1 ((l1.length : Int) % (t101.length : Int))).f2) ((wx x6_1 ((l1.length : Int) % (t101.length : Int))).f3) ((wx x6_1 ((l1.length : Int) % (t101.length : Int))).f4)).bind fun t137 => ((qqv.f k1 t101 ((l1.length : Int) % (t101.length : Int))).bind fun t140 => ((xw.f t137 ((l1.length : Int) % (t101.length : Int)) (t101.length : Int) t140 t125).bind fun t143 => (some t143)))) else (none)) else (none))) else (none))))) else (none)) = some r := H
      have A40 := qq.mk A400
      clear A400
      by_cases c41 : t131 = true
      ·subst c41
       have H1 : (if (t125.length : Int) = 0 then (some true) else ((qqx.f k1 x6_1).bind fun t132 => ((qjj.f t132 t125).bind fun t135 => (if t135 = true then (if (t101.length : Int) = 0 then (some true) else (if 0 ≤ ((l1.length : Int) % (t101.length : Int)) then (if ((l1.length : Int) % (t101.length : Int)) < (x6_1.length : Int) then ((qqj.f k1 ((wx x6_1 ((l1.length : Int) % (t101.length : Int))).f0) ((wx x6_1 ((l1.length : Int) % (t101.length : Int))).f1) ((wx x6_1 ((l1.length : Int) % (t101.length : Int))).f2) ((wx x6_1 ((l1.length : Int) % (t101.length : Int))).f3) ((wx x6_1 ((l1.length : Int) % (t101.length : Int))).f4)).bind fun t137 => ((qqv.f k1 t101 ((l1.length : Int) % (t101.length : Int))).bind fun t140 => ((xw.f t137 ((l1.length : Int) % (t101.length : Int)) (t101.length : Int) t140 t125).bind fun t143 => (some t143)))) else (none)) else (none))) else (none))))) = some r := by rw [if_pos rfl] at H;exact H
       clear H
       have H := H1
       clear H1
       by_cases c42 : (t125.length : Int) = 0
       ·rw [if_pos c42] at H
        have c42b0 : ((t125.length : Int) == 0) = true := beq_iff_eq.mpr c42
        have c42b1 : ((t125.length : Int) != 0) = false := bne_eq_false_iff_eq.mpr c42
        clear c42
        obtain rfl := Option.some.inj H
        go_wp2_with (first | ((with_reducible refine kj (f := 36) rfl ?_);refine goesL_ (some 57) rfl rfl Try.func36 (by kernel_rfl) rfl #[.slice Ao7 t101.length co7] rfl (by (try simp only [List.map_toArray,List.map_cons,List.map_nil]);first | done | rfl | (simp only [List.length_drop,List.length_take];rfl)) ?_;(with_reducible refine (qqx.calls k1 _ _ t101 t125 _ ?side1 ?side2 A38.out).mono ?_);(case side1 => repeat (first | exact (Kd.N_reads' HO_5.out).2.2 | (with_reducible refine Kd.C_alloc ?_ _) | (with_reducible refine Kd.C_drewN ?_ _) | (with_reducible refine Kd.C_drew ?_)));(case side2 => exact (Kd.N_reads' HO_5.out).2.1);rintro e w43 ⟨v126,rfl,ho0,hb⟩;refine ⟨_,rfl,?_⟩;have n0_ := qq.mk (Kd.N_elder' (by (with_reducible repeat (first | apply Kd.vq | apply Kd.kx | apply Kd.vz));exact HO_5.out) (Kd.R_base ho0) hb);have n1_ := qq.mk (Kd.N_elder' (by (with_reducible repeat (first | apply Kd.vq | apply Kd.kx | apply Kd.vz));exact HO_6.out) (Kd.R_base ho0) hb);have n2_ := qq.mk (Kd.N_elder' (by (with_reducible repeat (first | apply Kd.vq | apply Kd.kx | apply Kd.vz));exact HO_21.out) (Kd.R_base ho0) hb);have n3_ := qq.mk (Kd.R_lower ho0 (zw (by repeat (first | (with_reducible first | exact HB.out | apply qj | apply qz | apply qk) | exact HB.out))));have n4_ := qq.mk (zv (by repeat (first | (with_reducible first | exact HB.out | apply qj | apply qz | apply qk) | exact HB.out)) hb);clear HO_5;clear HO_6;clear HO_21;clear HB;have HO_5 := n0_;have HO_6 := n1_;have HO_21 := n2_;have HO127 := n3_;have HB := n4_;clear n0_ n1_ n2_ n3_ n4_;(try clear hb);(try clear hb2);(try clear hk);(try clear hi);(try clear ho0)) | ((with_reducible refine kj (f := 34) rfl ?_);refine goesL_ (some 60) rfl rfl Try.func34 (by kernel_rfl) rfl #[.slice Ao7 t101.length co7] rfl (by (try simp only [List.map_toArray,List.map_cons,List.map_nil]);first | done | rfl | (simp only [List.length_drop,List.length_take];rfl)) ?_;(with_reducible refine (qkz.calls k1 _ _ t101 t128 _ ?side1 ?side2 A39.out).mono ?_);(case side1 => repeat (first | exact (Kd.N_reads' HO_5.out).2.2 | (with_reducible refine Kd.C_alloc ?_ _) | (with_reducible refine Kd.C_drewN ?_ _) | (with_reducible refine Kd.C_drew ?_)));(case side2 => exact (Kd.N_reads' HO_5.out).2.1);rintro e w44 ⟨v129,rfl,ho0,hb⟩;refine ⟨_,rfl,?_⟩;have n0_ := qq.mk (Kd.N_below (by (with_reducible repeat (first | apply Kd.vq | apply Kd.kx | apply Kd.vz));exact HO_5.out) hb);have n1_ := qq.mk (Kd.N_below (by (with_reducible repeat (first | apply Kd.vq | apply Kd.kx | apply Kd.vz));exact HO_6.out) hb);have n2_ := qq.mk (Kd.N_below (by (with_reducible repeat (first | apply Kd.vq | apply Kd.kx | apply Kd.vz));exact HO_21.out) hb);have n3_ := qq.mk (Kd.R_below (by (with_reducible repeat (first | apply Kd.jq | apply Kd.zx | apply Kd.jz));exact HO127.out) hb);have n4_ := qq.mk (Kd.V_lower (Kd.V_mono (ok' := fun k_ => some k_ ≠ (.slice Ao7 t101.length co7 : Value).ownBlock ∧ some k_ ≠ (u6 : Value).ownBlock ∧ some k_ ≠ (.slice Ao7 t101.length co7 : Value).ownBlock ∧ some k_ ≠ (v126 : Value).ownBlock) ho0 (fun k_ hk_ => ⟨(Kd.fresh' (Kd.N_lt (by (with_reducible repeat (first | apply Kd.vq | apply Kd.kx | apply Kd.vz));exact HO_5.out)) k_ hk_),(Kd.fresh' (Kd.N_lt (by (with_reducible repeat (first | apply Kd.vq | apply Kd.kx | apply Kd.vz));exact HO_6.out)) k_ hk_),(Kd.fresh' (Kd.N_lt (by (with_reducible repeat (first | apply Kd.vq | apply Kd.kx | apply Kd.vz));exact HO_21.out)) k_ hk_),(Kd.fresh' (Kd.R_lt (by (with_reducible repeat (first | apply Kd.jq | apply Kd.zx | apply Kd.jz));exact HO127.out)) k_ hk_)⟩)) (zw (by repeat (first | (with_reducible first | exact HB.out | apply qj | apply qz | apply qk) | exact HB.out))));have n5_ := qq.mk (zv (by repeat (first | (with_reducible first | exact HB.out | apply qj | apply qz | apply qk) | exact HB.out)) hb);clear HO_5;clear HO_6;clear HO_21;clear HO127;clear HB;have HO_5 := n0_;have HO_6 := n1_;have HO_21 := n2_;have HO127 := n3_;have HO130 := n4_;have HB := n5_;clear n0_ n1_ n2_ n3_ n4_ n5_;(try clear hb);(try clear hb2);(try clear hk);(try clear hi);(try clear ho0);obtain ⟨Ao45,co45,eo45⟩ := Kd.R_slice HO127.out;subst eo45;obtain ⟨Ao46,co46,eo46⟩ := Kd.V_slice HO130.out;subst eo46) | ((with_reducible refine kj (f := 63) rfl ?_);refine goesL_ (some 61) rfl rfl Try.func63 (by kernel_rfl) rfl #[.slice Ao45 t125.length co45,.slice Ao46 t128.length co46] rfl (by (try simp only [List.map_toArray,List.map_cons,List.map_nil]);first | done | rfl | (simp only [List.length_drop,List.length_take];rfl)) ?_;(with_reducible refine (qjj.calls _ _ t125 _ _ t128 true _ ?side1 ?side2 ?side3 ?side4 A40.out).mono ?_);(case side1 => repeat (first | exact (Kd.R_reads' HO127.out).2.2 | (with_reducible refine Kd.C_alloc ?_ _) | (with_reducible refine Kd.C_drewN ?_ _) | (with_reducible refine Kd.C_drew ?_)));(case side2 => exact (Kd.R_reads' HO127.out).2.1);(case side3 => repeat (first | exact (Kd.V_reads' HO130.out).2.2 | (with_reducible refine Kd.C_alloc ?_ _) | (with_reducible refine Kd.C_drewN ?_ _) | (with_reducible refine Kd.C_drew ?_)));(case side4 => exact (Kd.V_reads' HO130.out).2.1);rintro e w' ⟨rfl,⟨nd,rfl⟩⟩;refine ⟨_,rfl,?_⟩))
        go_ret
        exact ⟨by first | rfl | (simp [*,kz,jx] <;> rfl),by repeat (first | (with_reducible first | exact HB.out | apply qj | apply qz | apply qk) | exact HB.out)⟩
       ·rw [if_neg c42] at H
        have c42b0 : ((t125.length : Int) == 0) = false := beq_eq_false_iff_ne.mpr c42
        have c42b1 : ((t125.length : Int) != 0) = true := bne_iff_ne.mpr c42
        have c42b2 : ¬ (t125 = []) := fun h_ => c42 (by rw [h_];rfl)
        replace H := Option.bind_eq_some_iff.mp H
        obtain ⟨t132,A470,H⟩ := H
        replace H : ((qjj.f t132 t125).bind fun t135 => (if t135 = true then (if (t101.length : Int) = 0 then (some true) else (if 0 ≤ ((l1.length : Int) % (t101.length : Int)) then (if ((l1.length : Int) % (t101.length : Int)) < (x6_1.length : Int) then ((qqj.f k1 ((wx x6_1 ((l1.length : Int) % (t101.length : Int))).f0) ((wx x6_1 ((l1.length : Int) % (t101.length : Int))).f1) ((wx x6_1 ((l1.length : Int) % (t101.length : Int))).f2) ((wx x6_1 ((l1.length : Int) % (t101.length : Int))).f3) ((wx x6_1 ((l1.length : Int) % (t101.length : Int))).f4)).bind fun t137 => ((qqv.f k1 t101 ((l1.length : Int) % (t101.length : Int))).bind fun t140 => ((xw.f t137 ((l1.length : Int) % (t101.length : Int)) (t101.length : Int) t140 t125).bind fun t143 => (some t143)))) else (none)) else (none))) else (none))) = some r := H
        have A47 := qq.mk A470
        clear A470
        replace H := Option.bind_eq_some_iff.mp H
        obtain ⟨t135,A480,H⟩ := H
        replace H : (if t135 = true then (if (t101.length : Int) = 0 then (some true) else (if 0 ≤ ((l1.length : Int) % (t101.length : Int)) then (if ((l1.length : Int) % (t101.length : Int)) < (x6_1.length : Int) then ((qqj.f k1 ((wx x6_1 ((l1.length : Int) % (t101.length : Int))).f0) ((wx x6_1 ((l1.length : Int) % (t101.length : Int))).f1) ((wx x6_1 ((l1.length : Int) % (t101.length : Int))).f2) ((wx x6_1 ((l1.length : Int) % (t101.length : Int))).f3) ((wx x6_1 ((l1.length : Int) % (t101.length : Int))).f4)).bind fun t137 => ((qqv.f k1 t101 ((l1.length : Int) % (t101.length : Int))).bind fun t140 => ((xw.f t137 ((l1.length : Int) % (t101.length : Int)) (t101.length : Int) t140 t125).bind fun t143 => (some t143)))) else (none)) else (none))) else (none)) = some r := H
        have A48 := qq.mk A480
        clear A480
        by_cases c49 : t135 = true
        ·subst c49
         have H1 : (if (t101.length : Int) = 0 then (some true) else (if 0 ≤ ((l1.length : Int) % (t101.length : Int)) then (if ((l1.length : Int) % (t101.length : Int)) < (x6_1.length : Int) then ((qqj.f k1 ((wx x6_1 ((l1.length : Int) % (t101.length : Int))).f0) ((wx x6_1 ((l1.length : Int) % (t101.length : Int))).f1) ((wx x6_1 ((l1.length : Int) % (t101.length : Int))).f2) ((wx x6_1 ((l1.length : Int) % (t101.length : Int))).f3) ((wx x6_1 ((l1.length : Int) % (t101.length : Int))).f4)).bind fun t137 => ((qqv.f k1 t101 ((l1.length : Int) % (t101.length : Int))).bind fun t140 => ((xw.f t137 ((l1.length : Int) % (t101.length : Int)) (t101.length : Int) t140 t125).bind fun t143 => (some t143)))) else (none)) else (none))) = some r := by rw [if_pos rfl] at H;exact H
         clear H
         have H := H1
         clear H1
         by_cases c50 : (t101.length : Int) = 0
         ·rw [if_pos c50] at H
          have c50b0 : ((t101.length : Int) == 0) = true := beq_iff_eq.mpr c50
          have c50b1 : ((t101.length : Int) != 0) = false := bne_eq_false_iff_eq.mpr c50
          clear c50
          obtain rfl := Option.some.inj H
          go_wp2_with (first | ((with_reducible refine kj (f := 36) rfl ?_);refine goesL_ (some 57) rfl rfl Try.func36 (by kernel_rfl) rfl #[.slice Ao7 t101.length co7] rfl (by (try simp only [List.map_toArray,List.map_cons,List.map_nil]);first | done | rfl | (simp only [List.length_drop,List.length_take];rfl)) ?_;(with_reducible refine (qqx.calls k1 _ _ t101 t125 _ ?side1 ?side2 A38.out).mono ?_);(case side1 => repeat (first | exact (Kd.N_reads' HO_5.out).2.2 | (with_reducible refine Kd.C_alloc ?_ _) | (with_reducible refine Kd.C_drewN ?_ _) | (with_reducible refine Kd.C_drew ?_)));(case side2 => exact (Kd.N_reads' HO_5.out).2.1);rintro e w51 ⟨v126,rfl,ho0,hb⟩;refine ⟨_,rfl,?_⟩;have n0_ := qq.mk (Kd.N_elder' (by (with_reducible repeat (first | apply Kd.vq | apply Kd.kx | apply Kd.vz));exact HO_5.out) (Kd.R_base ho0) hb);have n1_ := qq.mk (Kd.N_elder' (by (with_reducible repeat (first | apply Kd.vq | apply Kd.kx | apply Kd.vz));exact HO_6.out) (Kd.R_base ho0) hb);have n2_ := qq.mk (Kd.N_elder' (by (with_reducible repeat (first | apply Kd.vq | apply Kd.kx | apply Kd.vz));exact HO_21.out) (Kd.R_base ho0) hb);have n3_ := qq.mk (Kd.R_lower ho0 (zw (by repeat (first | (with_reducible first | exact HB.out | apply qj | apply qz | apply qk) | exact HB.out))));have n4_ := qq.mk (zv (by repeat (first | (with_reducible first | exact HB.out | apply qj | apply qz | apply qk) | exact HB.out)) hb);clear HO_5;clear HO_6;clear HO_21;clear HB;have HO_5 := n0_;have HO_6 := n1_;have HO_21 := n2_;have HO127 := n3_;have HB := n4_;clear n0_ n1_ n2_ n3_ n4_;(try clear hb);(try clear hb2);(try clear hk);(try clear hi);(try clear ho0)) | ((with_reducible refine kj (f := 34) rfl ?_);refine goesL_ (some 60) rfl rfl Try.func34 (by kernel_rfl) rfl #[.slice Ao7 t101.length co7] rfl (by (try simp only [List.map_toArray,List.map_cons,List.map_nil]);first | done | rfl | (simp only [List.length_drop,List.length_take];rfl)) ?_;(with_reducible refine (qkz.calls k1 _ _ t101 t128 _ ?side1 ?side2 A39.out).mono ?_);(case side1 => repeat (first | exact (Kd.N_reads' HO_5.out).2.2 | (with_reducible refine Kd.C_alloc ?_ _) | (with_reducible refine Kd.C_drewN ?_ _) | (with_reducible refine Kd.C_drew ?_)));(case side2 => exact (Kd.N_reads' HO_5.out).2.1);rintro e w52 ⟨v129,rfl,ho0,hb⟩;refine ⟨_,rfl,?_⟩;have n0_ := qq.mk (Kd.N_below (by (with_reducible repeat (first | apply Kd.vq | apply Kd.kx | apply Kd.vz));exact HO_5.out) hb);have n1_ := qq.mk (Kd.N_below (by (with_reducible repeat (first | apply Kd.vq | apply Kd.kx | apply Kd.vz));exact HO_6.out) hb);have n2_ := qq.mk (Kd.N_below (by (with_reducible repeat (first | apply Kd.vq | apply Kd.kx | apply Kd.vz));exact HO_21.out) hb);have n3_ := qq.mk (Kd.R_below (by (with_reducible repeat (first | apply Kd.jq | apply Kd.zx | apply Kd.jz));exact HO127.out) hb);have n4_ := qq.mk (Kd.V_lower (Kd.V_mono (ok' := fun k_ => some k_ ≠ (.slice Ao7 t101.length co7 : Value).ownBlock ∧ some k_ ≠ (u6 : Value).ownBlock ∧ some k_ ≠ (.slice Ao7 t101.length co7 : Value).ownBlock ∧ some k_ ≠ (v126 : Value).ownBlock) ho0 (fun k_ hk_ => ⟨(Kd.fresh' (Kd.N_lt (by (with_reducible repeat (first | apply Kd.vq | apply Kd.kx | apply Kd.vz));exact HO_5.out)) k_ hk_),(Kd.fresh' (Kd.N_lt (by (with_reducible repeat (first | apply Kd.vq | apply Kd.kx | apply Kd.vz));exact HO_6.out)) k_ hk_),(Kd.fresh' (Kd.N_lt (by (with_reducible repeat (first | apply Kd.vq | apply Kd.kx | apply Kd.vz));exact HO_21.out)) k_ hk_),(Kd.fresh' (Kd.R_lt (by (with_reducible repeat (first | apply Kd.jq | apply Kd.zx | apply Kd.jz));exact HO127.out)) k_ hk_)⟩)) (zw (by repeat (first | (with_reducible first | exact HB.out | apply qj | apply qz | apply qk) | exact HB.out))));have n5_ := qq.mk (zv (by repeat (first | (with_reducible first | exact HB.out | apply qj | apply qz | apply qk) | exact HB.out)) hb);clear HO_5;clear HO_6;clear HO_21;clear HO127;clear HB;have HO_5 := n0_;have HO_6 := n1_;have HO_21 := n2_;have HO127 := n3_;have HO130 := n4_;have HB := n5_;clear n0_ n1_ n2_ n3_ n4_ n5_;(try clear hb);(try clear hb2);(try clear hk);(try clear hi);(try clear ho0);obtain ⟨Ao53,co53,eo53⟩ := Kd.R_slice HO127.out;subst eo53;obtain ⟨Ao54,co54,eo54⟩ := Kd.V_slice HO130.out;subst eo54) | ((with_reducible refine kj (f := 63) rfl ?_);refine goesL_ (some 61) rfl rfl Try.func63 (by kernel_rfl) rfl #[.slice Ao53 t125.length co53,.slice Ao54 t128.length co54] rfl (by (try simp only [List.map_toArray,List.map_cons,List.map_nil]);first | done | rfl | (simp only [List.length_drop,List.length_take];rfl)) ?_;(with_reducible refine (qjj.calls _ _ t125 _ _ t128 true _ ?side1 ?side2 ?side3 ?side4 A40.out).mono ?_);(case side1 => repeat (first | exact (Kd.R_reads' HO127.out).2.2 | (with_reducible refine Kd.C_alloc ?_ _) | (with_reducible refine Kd.C_drewN ?_ _) | (with_reducible refine Kd.C_drew ?_)));(case side2 => exact (Kd.R_reads' HO127.out).2.1);(case side3 => repeat (first | exact (Kd.V_reads' HO130.out).2.2 | (with_reducible refine Kd.C_alloc ?_ _) | (with_reducible refine Kd.C_drewN ?_ _) | (with_reducible refine Kd.C_drew ?_)));(case side4 => exact (Kd.V_reads' HO130.out).2.1);rintro e w' ⟨rfl,⟨nd,rfl⟩⟩;refine ⟨_,rfl,?_⟩;obtain ⟨Ao55,co55,eo55⟩ := Kd.N_slice HO_6.out;subst eo55) | ((with_reducible refine kj (f := 36) rfl ?_);refine goesL_ (some 67) rfl rfl Try.func36 (by kernel_rfl) rfl #[.slice Ao55 x6_1.length co55] rfl (by (try simp only [List.map_toArray,List.map_cons,List.map_nil]);first | done | rfl | (simp only [List.length_drop,List.length_take];rfl)) ?_;(with_reducible refine (qqx.calls k1 _ _ x6_1 t132 _ ?side1 ?side2 A47.out).mono ?_);(case side1 => repeat (first | exact (Kd.N_reads' HO_6.out).2.2 | (with_reducible refine Kd.C_alloc ?_ _) | (with_reducible refine Kd.C_drewN ?_ _) | (with_reducible refine Kd.C_drew ?_)));(case side2 => exact (Kd.N_reads' HO_6.out).2.1);rintro e w56 ⟨v133,rfl,ho0,hb⟩;refine ⟨_,rfl,?_⟩;have n0_ := qq.mk (Kd.N_elder' (by (with_reducible repeat (first | apply Kd.vq | apply Kd.kx | apply Kd.vz));exact HO_5.out) (Kd.R_base ho0) hb);have n1_ := qq.mk (Kd.N_elder' (by (with_reducible repeat (first | apply Kd.vq | apply Kd.kx | apply Kd.vz));exact HO_6.out) (Kd.R_base ho0) hb);have n2_ := qq.mk (Kd.N_elder' (by (with_reducible repeat (first | apply Kd.vq | apply Kd.kx | apply Kd.vz));exact HO_21.out) (Kd.R_base ho0) hb);have n3_ := qq.mk (Kd.R_elder' (by (with_reducible repeat (first | apply Kd.jq | apply Kd.zx | apply Kd.jz));exact HO127.out) (Kd.R_base ho0) hb);have n4_ := qq.mk (Kd.V_elder' (by (with_reducible repeat (first | apply Kd.wq | apply Kd.vx | apply Kd.wz));exact HO130.out) (Kd.R_base ho0) hb);have n5_ := qq.mk (Kd.R_lower (Kd.R_new' ho0 (Kd.R_lt (by (with_reducible repeat (first | apply Kd.jq | apply Kd.zx | apply Kd.jz));exact HO127.out))) (zw (by repeat (first | (with_reducible first | exact HB.out | apply qj | apply qz | apply qk) | exact HB.out))));have n6_ := qq.mk (zv (by repeat (first | (with_reducible first | exact HB.out | apply qj | apply qz | apply qk) | exact HB.out)) hb);clear HO_5;clear HO_6;clear HO_21;clear HO127;clear HO130;clear HB;have HO_5 := n0_;have HO_6 := n1_;have HO_21 := n2_;have HO127 := n3_;have HO130 := n4_;have HO134 := n5_;have HB := n6_;clear n0_ n1_ n2_ n3_ n4_ n5_ n6_;(try clear hb);(try clear hb2);(try clear hk);(try clear hi);(try clear ho0);obtain ⟨Ao57,co57,eo57⟩ := Kd.R_slice HO134.out;subst eo57) | ((with_reducible refine kj (f := 63) rfl ?_);refine goesL_ (some 69) rfl rfl Try.func63 (by kernel_rfl) rfl #[.slice Ao57 t132.length co57,.slice Ao53 t125.length co53] rfl (by (try simp only [List.map_toArray,List.map_cons,List.map_nil]);first | done | rfl | (simp only [List.length_drop,List.length_take];rfl)) ?_;(with_reducible refine (qjj.calls _ _ t132 _ _ t125 true _ ?side1 ?side2 ?side3 ?side4 A48.out).mono ?_);(case side1 => repeat (first | exact (Kd.R_reads' HO134.out).2.2 | (with_reducible refine Kd.C_alloc ?_ _) | (with_reducible refine Kd.C_drewN ?_ _) | (with_reducible refine Kd.C_drew ?_)));(case side2 => exact (Kd.R_reads' HO134.out).2.1);(case side3 => repeat (first | exact (Kd.R_reads' HO127.out).2.2 | (with_reducible refine Kd.C_alloc ?_ _) | (with_reducible refine Kd.C_drewN ?_ _) | (with_reducible refine Kd.C_drew ?_)));(case side4 => exact (Kd.R_reads' HO127.out).2.1);rintro e w' ⟨rfl,⟨nd,rfl⟩⟩;refine ⟨_,rfl,?_⟩))
          go_ret
          exact ⟨by first | rfl | (simp [*,kz,jx] <;> rfl),by repeat (first | (with_reducible first | exact HB.out | apply qj | apply qz | apply qk) | exact HB.out)⟩
         ·rw [if_neg c50] at H
          have c50b0 : ((t101.length : Int) == 0) = false := beq_eq_false_iff_ne.mpr c50
          have c50b1 : ((t101.length : Int) != 0) = true := bne_iff_ne.mpr c50
          have c50b2 : ¬ (t101 = []) := fun h_ => c50 (by rw [h_];rfl)
          obtain ⟨ji58,hji58⟩ : ∃ j_ : Int,((l1.length : Int) % (t101.length : Int)) = j_ := ⟨_,rfl⟩
          replace H : (if 0 ≤ (ji58) then (if (ji58) < (x6_1.length : Int) then ((qqj.f k1 ((wx x6_1 (ji58)).f0) ((wx x6_1 (ji58)).f1) ((wx x6_1 (ji58)).f2) ((wx x6_1 (ji58)).f3) ((wx x6_1 (ji58)).f4)).bind fun t137 => ((qqv.f k1 t101 (ji58)).bind fun t140 => ((xw.f t137 (ji58) (t101.length : Int) t140 t125).bind fun t143 => (some t143)))) else (none)) else (none)) = some r := by first | (rw [hji58] at H;exact H) | (simp only [hji58] at H ⊢;exact H)
          (try rw [hji58] at A38)
          (try rw [hji58] at A39)
          (try rw [hji58] at A40)
          (try rw [hji58] at A47)
          (try rw [hji58] at A48)
          by_cases c59 : 0 ≤ (ji58)
          ·rw [if_pos c59] at H
           have c59b0 : decide (0 ≤ (ji58)) = true := decide_eq_true c59
           clear c59
           by_cases c60 : (ji58) < (x6_1.length : Int)
           ·rw [if_pos c60] at H
            have c60b0 : decide ((ji58) < (x6_1.length : Int)) = true := decide_eq_true c60
            clear c60
            replace H := Option.bind_eq_some_iff.mp H
            obtain ⟨t137,A610,H⟩ := H
            replace H : ((qqv.f k1 t101 (ji58)).bind fun t140 => ((xw.f t137 (ji58) (t101.length : Int) t140 t125).bind fun t143 => (some t143))) = some r := H
            have A61 := qq.mk A610
            clear A610
            replace H := Option.bind_eq_some_iff.mp H
            obtain ⟨t140,A620,H⟩ := H
            replace H : ((xw.f t137 (ji58) (t101.length : Int) t140 t125).bind fun t143 => (some t143)) = some r := H
            have A62 := qq.mk A620
            clear A620
            replace H := Option.bind_eq_some_iff.mp H
            obtain ⟨t143,A630,H⟩ := H
            replace H : (some t143) = some r := H
            have A63 := qq.mk A630
            clear A630
            obtain rfl := Option.some.inj H
            go_wp2_with (first | ((with_reducible refine kj (f := 36) rfl ?_);refine goesL_ (some 57) rfl rfl Try.func36 (by kernel_rfl) rfl #[.slice Ao7 t101.length co7] rfl (by (try simp only [List.map_toArray,List.map_cons,List.map_nil]);first | done | rfl | (simp only [List.length_drop,List.length_take];rfl)) ?_;(with_reducible refine (qqx.calls k1 _ _ t101 t125 _ ?side1 ?side2 A38.out).mono ?_);(case side1 => repeat (first | exact (Kd.N_reads' HO_5.out).2.2 | (with_reducible refine Kd.C_alloc ?_ _) | (with_reducible refine Kd.C_drewN ?_ _) | (with_reducible refine Kd.C_drew ?_)));(case side2 => exact (Kd.N_reads' HO_5.out).2.1);rintro e w64 ⟨v126,rfl,ho0,hb⟩;refine ⟨_,rfl,?_⟩;have n0_ := qq.mk (Kd.N_elder' (by (with_reducible repeat (first | apply Kd.vq | apply Kd.kx | apply Kd.vz));exact HO_5.out) (Kd.R_base ho0) hb);have n1_ := qq.mk (Kd.N_elder' (by (with_reducible repeat (first | apply Kd.vq | apply Kd.kx | apply Kd.vz));exact HO_6.out) (Kd.R_base ho0) hb);have n2_ := qq.mk (Kd.N_elder' (by (with_reducible repeat (first | apply Kd.vq | apply Kd.kx | apply Kd.vz));exact HO_21.out) (Kd.R_base ho0) hb);have n3_ := qq.mk (Kd.R_lower ho0 (zw (by repeat (first | (with_reducible first | exact HB.out | apply qj | apply qz | apply qk) | exact HB.out))));have n4_ := qq.mk (zv (by repeat (first | (with_reducible first | exact HB.out | apply qj | apply qz | apply qk) | exact HB.out)) hb);clear HO_5;clear HO_6;clear HO_21;clear HB;have HO_5 := n0_;have HO_6 := n1_;have HO_21 := n2_;have HO127 := n3_;have HB := n4_;clear n0_ n1_ n2_ n3_ n4_;(try clear hb);(try clear hb2);(try clear hk);(try clear hi);(try clear ho0)) | ((with_reducible refine kj (f := 34) rfl ?_);refine goesL_ (some 60) rfl rfl Try.func34 (by kernel_rfl) rfl #[.slice Ao7 t101.length co7] rfl (by (try simp only [List.map_toArray,List.map_cons,List.map_nil]);first | done | rfl | (simp only [List.length_drop,List.length_take];rfl)) ?_;(with_reducible refine (qkz.calls k1 _ _ t101 t128 _ ?side1 ?side2 A39.out).mono ?_);(case side1 => repeat (first | exact (Kd.N_reads' HO_5.out).2.2 | (with_reducible refine Kd.C_alloc ?_ _) | (with_reducible refine Kd.C_drewN ?_ _) | (with_reducible refine Kd.C_drew ?_)));(case side2 => exact (Kd.N_reads' HO_5.out).2.1);rintro e w65 ⟨v129,rfl,ho0,hb⟩;refine ⟨_,rfl,?_⟩;have n0_ := qq.mk (Kd.N_below (by (with_reducible repeat (first | apply Kd.vq | apply Kd.kx | apply Kd.vz));exact HO_5.out) hb);have n1_ := qq.mk (Kd.N_below (by (with_reducible repeat (first | apply Kd.vq | apply Kd.kx | apply Kd.vz));exact HO_6.out) hb);have n2_ := qq.mk (Kd.N_below (by (with_reducible repeat (first | apply Kd.vq | apply Kd.kx | apply Kd.vz));exact HO_21.out) hb);have n3_ := qq.mk (Kd.R_below (by (with_reducible repeat (first | apply Kd.jq | apply Kd.zx | apply Kd.jz));exact HO127.out) hb);have n4_ := qq.mk (Kd.V_lower (Kd.V_mono (ok' := fun k_ => some k_ ≠ (.slice Ao7 t101.length co7 : Value).ownBlock ∧ some k_ ≠ (u6 : Value).ownBlock ∧ some k_ ≠ (.slice Ao7 t101.length co7 : Value).ownBlock ∧ some k_ ≠ (v126 : Value).ownBlock) ho0 (fun k_ hk_ => ⟨(Kd.fresh' (Kd.N_lt (by (with_reducible repeat (first | apply Kd.vq | apply Kd.kx | apply Kd.vz));exact HO_5.out)) k_ hk_),(Kd.fresh' (Kd.N_lt (by (with_reducible repeat (first | apply Kd.vq | apply Kd.kx | apply Kd.vz));exact HO_6.out)) k_ hk_),(Kd.fresh' (Kd.N_lt (by (with_reducible repeat (first | apply Kd.vq | apply Kd.kx | apply Kd.vz));exact HO_21.out)) k_ hk_),(Kd.fresh' (Kd.R_lt (by (with_reducible repeat (first | apply Kd.jq | apply Kd.zx | apply Kd.jz));exact HO127.out)) k_ hk_)⟩)) (zw (by repeat (first | (with_reducible first | exact HB.out | apply qj | apply qz | apply qk) | exact HB.out))));have n5_ := qq.mk (zv (by repeat (first | (with_reducible first | exact HB.out | apply qj | apply qz | apply qk) | exact HB.out)) hb);clear HO_5;clear HO_6;clear HO_21;clear HO127;clear HB;have HO_5 := n0_;have HO_6 := n1_;have HO_21 := n2_;have HO127 := n3_;have HO130 := n4_;have HB := n5_;clear n0_ n1_ n2_ n3_ n4_ n5_;(try clear hb);(try clear hb2);(try clear hk);(try clear hi);(try clear ho0);obtain ⟨Ao66,co66,eo66⟩ := Kd.R_slice HO127.out;subst eo66;obtain ⟨Ao67,co67,eo67⟩ := Kd.V_slice HO130.out;subst eo67) | ((with_reducible refine kj (f := 63) rfl ?_);refine goesL_ (some 61) rfl rfl Try.func63 (by kernel_rfl) rfl #[.slice Ao66 t125.length co66,.slice Ao67 t128.length co67] rfl (by (try simp only [List.map_toArray,List.map_cons,List.map_nil]);first | done | rfl | (simp only [List.length_drop,List.length_take];rfl)) ?_;(with_reducible refine (qjj.calls _ _ t125 _ _ t128 true _ ?side1 ?side2 ?side3 ?side4 A40.out).mono ?_);(case side1 => repeat (first | exact (Kd.R_reads' HO127.out).2.2 | (with_reducible refine Kd.C_alloc ?_ _) | (with_reducible refine Kd.C_drewN ?_ _) | (with_reducible refine Kd.C_drew ?_)));(case side2 => exact (Kd.R_reads' HO127.out).2.1);(case side3 => repeat (first | exact (Kd.V_reads' HO130.out).2.2 | (with_reducible refine Kd.C_alloc ?_ _) | (with_reducible refine Kd.C_drewN ?_ _) | (with_reducible refine Kd.C_drew ?_)));(case side4 => exact (Kd.V_reads' HO130.out).2.1);rintro e w' ⟨rfl,⟨nd,rfl⟩⟩;refine ⟨_,rfl,?_⟩;obtain ⟨Ao68,co68,eo68⟩ := Kd.N_slice HO_6.out;subst eo68) | ((with_reducible refine kj (f := 36) rfl ?_);refine goesL_ (some 67) rfl rfl Try.func36 (by kernel_rfl) rfl #[.slice Ao68 x6_1.length co68] rfl (by (try simp only [List.map_toArray,List.map_cons,List.map_nil]);first | done | rfl | (simp only [List.length_drop,List.length_take];rfl)) ?_;(with_reducible refine (qqx.calls k1 _ _ x6_1 t132 _ ?side1 ?side2 A47.out).mono ?_);(case side1 => repeat (first | exact (Kd.N_reads' HO_6.out).2.2 | (with_reducible refine Kd.C_alloc ?_ _) | (with_reducible refine Kd.C_drewN ?_ _) | (with_reducible refine Kd.C_drew ?_)));(case side2 => exact (Kd.N_reads' HO_6.out).2.1);rintro e w69 ⟨v133,rfl,ho0,hb⟩;refine ⟨_,rfl,?_⟩;have n0_ := qq.mk (Kd.N_elder' (by (with_reducible repeat (first | apply Kd.vq | apply Kd.kx | apply Kd.vz));exact HO_5.out) (Kd.R_base ho0) hb);have n1_ := qq.mk (Kd.N_elder' (by (with_reducible repeat (first | apply Kd.vq | apply Kd.kx | apply Kd.vz));exact HO_6.out) (Kd.R_base ho0) hb);have n2_ := qq.mk (Kd.N_elder' (by (with_reducible repeat (first | apply Kd.vq | apply Kd.kx | apply Kd.vz));exact HO_21.out) (Kd.R_base ho0) hb);have n3_ := qq.mk (Kd.R_elder' (by (with_reducible repeat (first | apply Kd.jq | apply Kd.zx | apply Kd.jz));exact HO127.out) (Kd.R_base ho0) hb);have n4_ := qq.mk (Kd.V_elder' (by (with_reducible repeat (first | apply Kd.wq | apply Kd.vx | apply Kd.wz));exact HO130.out) (Kd.R_base ho0) hb);have n5_ := qq.mk (Kd.R_lower (Kd.R_new' ho0 (Kd.R_lt (by (with_reducible repeat (first | apply Kd.jq | apply Kd.zx | apply Kd.jz));exact HO127.out))) (zw (by repeat (first | (with_reducible first | exact HB.out | apply qj | apply qz | apply qk) | exact HB.out))));have n6_ := qq.mk (zv (by repeat (first | (with_reducible first | exact HB.out | apply qj | apply qz | apply qk) | exact HB.out)) hb);clear HO_5;clear HO_6;clear HO_21;clear HO127;clear HO130;clear HB;have HO_5 := n0_;have HO_6 := n1_;have HO_21 := n2_;have HO127 := n3_;have HO130 := n4_;have HO134 := n5_;have HB := n6_;clear n0_ n1_ n2_ n3_ n4_ n5_ n6_;(try clear hb);(try clear hb2);(try clear hk);(try clear hi);(try clear ho0);obtain ⟨Ao70,co70,eo70⟩ := Kd.R_slice HO134.out;subst eo70) | ((with_reducible refine kj (f := 63) rfl ?_);refine goesL_ (some 69) rfl rfl Try.func63 (by kernel_rfl) rfl #[.slice Ao70 t132.length co70,.slice Ao66 t125.length co66] rfl (by (try simp only [List.map_toArray,List.map_cons,List.map_nil]);first | done | rfl | (simp only [List.length_drop,List.length_take];rfl)) ?_;(with_reducible refine (qjj.calls _ _ t132 _ _ t125 true _ ?side1 ?side2 ?side3 ?side4 A48.out).mono ?_);(case side1 => repeat (first | exact (Kd.R_reads' HO134.out).2.2 | (with_reducible refine Kd.C_alloc ?_ _) | (with_reducible refine Kd.C_drewN ?_ _) | (with_reducible refine Kd.C_drew ?_)));(case side2 => exact (Kd.R_reads' HO134.out).2.1);(case side3 => repeat (first | exact (Kd.R_reads' HO127.out).2.2 | (with_reducible refine Kd.C_alloc ?_ _) | (with_reducible refine Kd.C_drewN ?_ _) | (with_reducible refine Kd.C_drew ?_)));(case side4 => exact (Kd.R_reads' HO127.out).2.1);rintro e w' ⟨rfl,⟨nd,rfl⟩⟩;refine ⟨_,rfl,?_⟩;have p136 : 0 ≤ ((ji58) : Int) := of_decide_eq_true (by assumption);have q136 : (ji58) < (x6_1.length : Int) := of_decide_eq_true (by assumption);obtain ⟨ad136,A136_3,c136_3,A136_4,c136_4,e136,hx136_0,hx136_1,hx136_2,hx136_3,hx136_4,hl136_3,hi136_3,hl136_4,hi136_4⟩ := at_T27 (Kd.N_reads' HO_6.out).2.2 (ji58) p136 q136;cases e136;obtain ⟨ce136,hce136,hMe136,hcc136⟩ := Kd.N_get HO_6.out z27 (ji58) p136 (by first | exact q136 | exact of_decide_eq_true (by assumption) | (have e_ := (Kd.N_reads' HO_6.out).1;omega));obtain ⟨ua136_3,uc136_3,ua136_4,uc136_4,rfl,ul136_3,ge136_3,ul136_4,ge136_4⟩ := k27_openF hMe136;have hv136_3 := hcc136 3 _ rfl;rw [add_field _ _ 3 (by omega)] at hv136_3;replace hv136_3 := Option.some.inj (hv136_3.symm.trans hx136_3);injection hv136_3 with hva_ hvn_ hvc_;rw [hva_] at ge136_3;rw [hvc_] at ul136_3;have HL136_3 := qq.mk (show Kd.V (Kd.int .u8) 5 _ w.heap.size _ _ ((wx x6_1 (ji58)).f3) from Kd.V_mk ul136_3 ge136_3);clear hva_ hvn_ hvc_ ge136_3 ul136_3;have hv136_4 := hcc136 4 _ rfl;rw [add_field _ _ 4 (by omega)] at hv136_4;replace hv136_4 := Option.some.inj (hv136_4.symm.trans hx136_4);injection hv136_4 with hva_ hvn_ hvc_;rw [hva_] at ge136_4;rw [hvc_] at ul136_4;have HL136_4 := qq.mk (show Kd.V (Kd.int .u8) 5 _ w.heap.size _ _ ((wx x6_1 (ji58)).f4) from Kd.V_mk ul136_4 ge136_4);clear hva_ hvn_ hvc_ ge136_4 ul136_4;clear hcc136 hce136;have HR136_3 := qq.mk hi136_3;have HC136_3 := qq.mk hl136_3;clear hi136_3 hl136_3;have HR136_4 := qq.mk hi136_4;have HC136_4 := qq.mk hl136_4;clear hi136_4 hl136_4;replace p136 := eq_true p136;replace q136 := eq_true q136) | ((with_reducible refine kj (f := 29) rfl ?_);refine goesL_ (some 83) rfl rfl Try.func29 (by kernel_rfl) rfl #[.agg #[.int .i64 ((wx x6_1 (ji58)).f0),.string ((wx x6_1 (ji58)).f1),.string ((wx x6_1 (ji58)).f2),.slice A136_3 ((wx x6_1 (ji58)).f3).length c136_3,.slice A136_4 ((wx x6_1 (ji58)).f4).length c136_4]] rfl (by (try simp only [List.map_toArray,List.map_cons,List.map_nil]);first | done | (simp only [hji58];rfl) | rfl | (simp only [List.length_drop,List.length_take];rfl)) ?_;(with_reducible refine (qqj.calls k1 ((wx x6_1 (ji58)).f0) ((wx x6_1 (ji58)).f1) ((wx x6_1 (ji58)).f2) _ _ ((wx x6_1 (ji58)).f3) _ _ ((wx x6_1 (ji58)).f4) t137 _ ?side1 ?side2 ?side3 ?side4 A61.out).mono ?_);(case side1 => repeat (first | exact (by repeat (first | (with_reducible exact HR136_3.out) | (with_reducible refine Kd.C_alloc ?_ _) | (with_reducible refine Kd.C_drewN ?_ _) | (with_reducible refine Kd.C_drew ?_) | exact HR136_3.out)) | (with_reducible refine Kd.C_alloc ?_ _) | (with_reducible refine Kd.C_drewN ?_ _) | (with_reducible refine Kd.C_drew ?_)));(case side2 => exact HC136_3.out);(case side3 => repeat (first | exact (by repeat (first | (with_reducible exact HR136_4.out) | (with_reducible refine Kd.C_alloc ?_ _) | (with_reducible refine Kd.C_drewN ?_ _) | (with_reducible refine Kd.C_drew ?_) | exact HR136_4.out)) | (with_reducible refine Kd.C_alloc ?_ _) | (with_reducible refine Kd.C_drewN ?_ _) | (with_reducible refine Kd.C_drew ?_)));(case side4 => exact HC136_4.out);rintro e w71 ⟨v138,rfl,ho0,hb⟩;refine ⟨_,rfl,?_⟩;have n0_ := qq.mk (Kd.N_elder' (by (with_reducible repeat (first | apply Kd.vq | apply Kd.kx | apply Kd.vz));exact HO_5.out) (Kd.R_base ho0) hb);have n1_ := qq.mk (Kd.N_elder' (by (with_reducible repeat (first | apply Kd.vq | apply Kd.kx | apply Kd.vz));exact HO_6.out) (Kd.R_base ho0) hb);have n2_ := qq.mk (Kd.N_elder' (by (with_reducible repeat (first | apply Kd.vq | apply Kd.kx | apply Kd.vz));exact HO_21.out) (Kd.R_base ho0) hb);have n3_ := qq.mk (Kd.R_elder' (by (with_reducible repeat (first | apply Kd.jq | apply Kd.zx | apply Kd.jz));exact HO127.out) (Kd.R_base ho0) hb);have n4_ := qq.mk (Kd.V_elder' (by (with_reducible repeat (first | apply Kd.wq | apply Kd.vx | apply Kd.wz));exact HO130.out) (Kd.R_base ho0) hb);have n5_ := qq.mk (Kd.R_elder' (by (with_reducible repeat (first | apply Kd.jq | apply Kd.zx | apply Kd.jz));exact HO134.out) (Kd.R_base ho0) hb);have n6_ := qq.mk (Kd.V_elder' (by (with_reducible repeat (first | apply Kd.wq | apply Kd.vx | apply Kd.wz));exact HL136_3.out) (Kd.R_base ho0) hb);have n7_ := qq.mk (Kd.V_elder' (by (with_reducible repeat (first | apply Kd.wq | apply Kd.vx | apply Kd.wz));exact HL136_4.out) (Kd.R_base ho0) hb);have n8_ := qq.mk (Kd.R_lower (Kd.R_new' (Kd.R_new' ho0 (Kd.R_lt (by (with_reducible repeat (first | apply Kd.jq | apply Kd.zx | apply Kd.jz));exact HO127.out))) (Kd.R_lt (by (with_reducible repeat (first | apply Kd.jq | apply Kd.zx | apply Kd.jz));exact HO134.out))) (zw (by repeat (first | (with_reducible first | exact HB.out | apply qj | apply qz | apply qk) | exact HB.out))));have n9_ := qq.mk (Kd.C_below (by repeat (first | (with_reducible exact HR136_3.out) | (with_reducible refine Kd.C_alloc ?_ _) | (with_reducible refine Kd.C_drewN ?_ _) | (with_reducible refine Kd.C_drew ?_) | exact HR136_3.out)) hb);have n10_ := qq.mk (Kd.C_below (by repeat (first | (with_reducible exact HR136_4.out) | (with_reducible refine Kd.C_alloc ?_ _) | (with_reducible refine Kd.C_drewN ?_ _) | (with_reducible refine Kd.C_drew ?_) | exact HR136_4.out)) hb);have n11_ := qq.mk (zv (by repeat (first | (with_reducible first | exact HB.out | apply qj | apply qz | apply qk) | exact HB.out)) hb);clear HO_5;clear HO_6;clear HO_21;clear HO127;clear HO130;clear HO134;clear HL136_3;clear HL136_4;clear HR136_3;clear HR136_4;clear HB;have HO_5 := n0_;have HO_6 := n1_;have HO_21 := n2_;have HO127 := n3_;have HO130 := n4_;have HO134 := n5_;have HL136_3 := n6_;have HL136_4 := n7_;have HO139 := n8_;have HR136_3 := n9_;have HR136_4 := n10_;have HB := n11_;clear n0_ n1_ n2_ n3_ n4_ n5_ n6_ n7_ n8_ n9_ n10_ n11_;(try clear hb);(try clear hb2);(try clear hk);(try clear hi);(try clear ho0)) | ((with_reducible refine kj (f := 40) rfl ?_);refine goesL_ (some 89) rfl rfl Try.func40 (by kernel_rfl) rfl #[.slice Ao7 t101.length co7,.int .i64 ji58] rfl (by (try simp only [List.map_toArray,List.map_cons,List.map_nil]);first | done | (simp only [hji58];rfl) | rfl | (simp only [List.length_drop,List.length_take];rfl)) ?_;(with_reducible refine (qqv.calls k1 _ _ t101 ji58 t140 _ ?side1 ?side2 A62.out).mono ?_);(case side1 => repeat (first | exact (Kd.N_reads' HO_5.out).2.2 | (with_reducible refine Kd.C_alloc ?_ _) | (with_reducible refine Kd.C_drewN ?_ _) | (with_reducible refine Kd.C_drew ?_)));(case side2 => exact (Kd.N_reads' HO_5.out).2.1);rintro e w72 ⟨v141,rfl,ho0,hb⟩;refine ⟨_,rfl,?_⟩;have n0_ := qq.mk (Kd.N_elder' (by (with_reducible repeat (first | apply Kd.vq | apply Kd.kx | apply Kd.vz));exact HO_5.out) (by first | exact Kd.N_base ho0 | exact Kd.S_base ho0 | exact Kd.R_base ho0) hb);have n1_ := qq.mk (Kd.N_elder' (by (with_reducible repeat (first | apply Kd.vq | apply Kd.kx | apply Kd.vz));exact HO_6.out) (by first | exact Kd.N_base ho0 | exact Kd.S_base ho0 | exact Kd.R_base ho0) hb);have n2_ := qq.mk (Kd.N_elder' (by (with_reducible repeat (first | apply Kd.vq | apply Kd.kx | apply Kd.vz));exact HO_21.out) (by first | exact Kd.N_base ho0 | exact Kd.S_base ho0 | exact Kd.R_base ho0) hb);have n3_ := qq.mk (Kd.R_below (by (with_reducible repeat (first | apply Kd.jq | apply Kd.zx | apply Kd.jz));exact HO127.out) hb);have n4_ := qq.mk (Kd.V_elder' (by (with_reducible repeat (first | apply Kd.wq | apply Kd.vx | apply Kd.wz));exact HO130.out) (by first | exact Kd.N_base ho0 | exact Kd.S_base ho0 | exact Kd.R_base ho0) hb);have n5_ := qq.mk (Kd.R_below (by (with_reducible repeat (first | apply Kd.jq | apply Kd.zx | apply Kd.jz));exact HO134.out) hb);have n6_ := qq.mk (Kd.V_elder' (by (with_reducible repeat (first | apply Kd.wq | apply Kd.vx | apply Kd.wz));exact HL136_3.out) (by first | exact Kd.N_base ho0 | exact Kd.S_base ho0 | exact Kd.R_base ho0) hb);have n7_ := qq.mk (Kd.V_elder' (by (with_reducible repeat (first | apply Kd.wq | apply Kd.vx | apply Kd.wz));exact HL136_4.out) (by first | exact Kd.N_base ho0 | exact Kd.S_base ho0 | exact Kd.R_base ho0) hb);have n8_ := qq.mk (Kd.R_below (by (with_reducible repeat (first | apply Kd.jq | apply Kd.zx | apply Kd.jz));exact HO139.out) hb);have n9_ := qq.mk (Kd.N_lower (Kd.N_mono (ok' := fun k_ => some k_ ≠ (.slice Ao7 t101.length co7 : Value).ownBlock ∧ some k_ ≠ (.slice (some ad136) x6_1.length co68 : Value).ownBlock ∧ some k_ ≠ (.slice Ao7 t101.length co7 : Value).ownBlock ∧ some k_ ≠ (.slice Ao66 t125.length co66 : Value).ownBlock ∧ some k_ ≠ (.slice Ao70 t132.length co70 : Value).ownBlock ∧ some k_ ≠ (v138 : Value).ownBlock) (Kd.S_N (Kd.S_bound ho0)) (fun k_ hk_ => ⟨(Kd.fresh' (Kd.N_lt (by (with_reducible repeat (first | apply Kd.vq | apply Kd.kx | apply Kd.vz));exact HO_5.out)) k_ hk_.2.1),(Kd.fresh' (Kd.N_lt (by (with_reducible repeat (first | apply Kd.vq | apply Kd.kx | apply Kd.vz));exact HO_6.out)) k_ hk_.2.1),(Kd.fresh' (Kd.N_lt (by (with_reducible repeat (first | apply Kd.vq | apply Kd.kx | apply Kd.vz));exact HO_21.out)) k_ hk_.2.1),(Kd.fresh' (Kd.R_lt (by (with_reducible repeat (first | apply Kd.jq | apply Kd.zx | apply Kd.jz));exact HO127.out)) k_ hk_.2.1),(Kd.fresh' (Kd.R_lt (by (with_reducible repeat (first | apply Kd.jq | apply Kd.zx | apply Kd.jz));exact HO134.out)) k_ hk_.2.1),(Kd.fresh' (Kd.R_lt (by (with_reducible repeat (first | apply Kd.jq | apply Kd.zx | apply Kd.jz));exact HO139.out)) k_ hk_.2.1)⟩)) (zw (by repeat (first | (with_reducible first | exact HB.out | apply qj | apply qz | apply qk) | exact HB.out))));have n10_ := qq.mk (Kd.C_below (by repeat (first | (with_reducible exact HR136_3.out) | (with_reducible refine Kd.C_alloc ?_ _) | (with_reducible refine Kd.C_drewN ?_ _) | (with_reducible refine Kd.C_drew ?_) | exact HR136_3.out)) hb);have n11_ := qq.mk (Kd.C_below (by repeat (first | (with_reducible exact HR136_4.out) | (with_reducible refine Kd.C_alloc ?_ _) | (with_reducible refine Kd.C_drewN ?_ _) | (with_reducible refine Kd.C_drew ?_) | exact HR136_4.out)) hb);have n12_ := qq.mk (zv (by repeat (first | (with_reducible first | exact HB.out | apply qj | apply qz | apply qk) | exact HB.out)) hb);clear HO_5;clear HO_6;clear HO_21;clear HO127;clear HO130;clear HO134;clear HL136_3;clear HL136_4;clear HO139;clear HR136_3;clear HR136_4;clear HB;have HO_5 := n0_;have HO_6 := n1_;have HO_21 := n2_;have HO127 := n3_;have HO130 := n4_;have HO134 := n5_;have HL136_3 := n6_;have HL136_4 := n7_;have HO139 := n8_;have HO142 := n9_;have HR136_3 := n10_;have HR136_4 := n11_;have HB := n12_;clear n0_ n1_ n2_ n3_ n4_ n5_ n6_ n7_ n8_ n9_ n10_ n11_ n12_;(try clear hb);(try clear hb2);(try clear hk);(try clear hi);(try clear ho0);obtain ⟨Ao73,co73,eo73⟩ := Kd.R_slice HO139.out;subst eo73;obtain ⟨Ao74,co74,eo74⟩ := Kd.N_slice HO142.out;subst eo74) | ((with_reducible refine kj (f := 50) rfl ?_);refine goesL_ (some 91) rfl rfl Try.func50 (by kernel_rfl) rfl #[.slice Ao73 t137.length co73,.int .i64 ji58,.int .i64 (t101.length : Int),.slice Ao74 t140.length co74,.slice Ao66 t125.length co66] rfl (by (try simp only [List.map_toArray,List.map_cons,List.map_nil]);first | done | (simp only [hji58];rfl) | rfl | (simp only [List.length_drop,List.length_take];rfl)) ?_;(with_reducible refine (xw.calls _ _ t137 ji58 (t101.length : Int) _ _ t140 _ _ t125 t143 _ ?side1 ?side2 ?side3 ?side4 ?side5 ?side6 A63.out).mono ?_);(case side1 => repeat (first | exact (Kd.R_reads' HO139.out).2.2 | (with_reducible refine Kd.C_alloc ?_ _) | (with_reducible refine Kd.C_drewN ?_ _) | (with_reducible refine Kd.C_drew ?_)));(case side2 => exact (Kd.R_reads' HO139.out).2.1);(case side3 => repeat (first | exact (Kd.N_reads' HO142.out).2.2 | (with_reducible refine Kd.C_alloc ?_ _) | (with_reducible refine Kd.C_drewN ?_ _) | (with_reducible refine Kd.C_drew ?_)));(case side4 => exact (Kd.N_reads' HO142.out).2.1);(case side5 => repeat (first | exact (Kd.R_reads' HO127.out).2.2 | (with_reducible refine Kd.C_alloc ?_ _) | (with_reducible refine Kd.C_drewN ?_ _) | (with_reducible refine Kd.C_drew ?_)));(case side6 => exact (Kd.R_reads' HO127.out).2.1);rintro e w75 ⟨rfl,hb⟩;refine ⟨_,rfl,?_⟩;have n0_ := qq.mk (Kd.N_below (by (with_reducible repeat (first | apply Kd.vq | apply Kd.kx | apply Kd.vz));exact HO_5.out) hb);have n1_ := qq.mk (Kd.N_below (by (with_reducible repeat (first | apply Kd.vq | apply Kd.kx | apply Kd.vz));exact HO_6.out) hb);have n2_ := qq.mk (Kd.N_below (by (with_reducible repeat (first | apply Kd.vq | apply Kd.kx | apply Kd.vz));exact HO_21.out) hb);have n3_ := qq.mk (Kd.R_below (by (with_reducible repeat (first | apply Kd.jq | apply Kd.zx | apply Kd.jz));exact HO127.out) hb);have n4_ := qq.mk (Kd.V_below (by (with_reducible repeat (first | apply Kd.wq | apply Kd.vx | apply Kd.wz));exact HO130.out) hb);have n5_ := qq.mk (Kd.R_below (by (with_reducible repeat (first | apply Kd.jq | apply Kd.zx | apply Kd.jz));exact HO134.out) hb);have n6_ := qq.mk (Kd.V_below (by (with_reducible repeat (first | apply Kd.wq | apply Kd.vx | apply Kd.wz));exact HL136_3.out) hb);have n7_ := qq.mk (Kd.V_below (by (with_reducible repeat (first | apply Kd.wq | apply Kd.vx | apply Kd.wz));exact HL136_4.out) hb);have n8_ := qq.mk (Kd.R_below (by (with_reducible repeat (first | apply Kd.jq | apply Kd.zx | apply Kd.jz));exact HO139.out) hb);have n9_ := qq.mk (Kd.N_below (by (with_reducible repeat (first | apply Kd.vq | apply Kd.kx | apply Kd.vz));exact HO142.out) hb);have n10_ := qq.mk (Kd.C_below (by repeat (first | (with_reducible exact HR136_3.out) | (with_reducible refine Kd.C_alloc ?_ _) | (with_reducible refine Kd.C_drewN ?_ _) | (with_reducible refine Kd.C_drew ?_) | exact HR136_3.out)) hb);have n11_ := qq.mk (Kd.C_below (by repeat (first | (with_reducible exact HR136_4.out) | (with_reducible refine Kd.C_alloc ?_ _) | (with_reducible refine Kd.C_drewN ?_ _) | (with_reducible refine Kd.C_drew ?_) | exact HR136_4.out)) hb);have n12_ := qq.mk (zv (by repeat (first | (with_reducible first | exact HB.out | apply qj | apply qz | apply qk) | exact HB.out)) hb);clear HO_5;clear HO_6;clear HO_21;clear HO127;clear HO130;clear HO134;clear HL136_3;clear HL136_4;clear HO139;clear HO142;clear HR136_3;clear HR136_4;clear HB;have HO_5 := n0_;have HO_6 := n1_;have HO_21 := n2_;have HO127 := n3_;have HO130 := n4_;have HO134 := n5_;have HL136_3 := n6_;have HL136_4 := n7_;have HO139 := n8_;have HO142 := n9_;have HR136_3 := n10_;have HR136_4 := n11_;have HB := n12_;clear n0_ n1_ n2_ n3_ n4_ n5_ n6_ n7_ n8_ n9_ n10_ n11_ n12_;(try clear hb);(try clear hb2);(try clear hk);(try clear hi)))
            go_ret
            exact ⟨by first | rfl | (simp [kz,jx] <;> rfl) | (simp only [← hji58];first | rfl | (simp [kz,jx] <;> rfl)) | (simp [*,kz,jx] <;> rfl),by repeat (first | (with_reducible first | exact HB.out | apply qj | apply qz | apply qk) | exact HB.out)⟩
           ·rw [if_neg c60] at H
            exact absurd H (by simp)
          ·rw [if_neg c59] at H
           exact absurd H (by simp)
        ·replace c49 := Bool.eq_false_iff.mpr c49
         subst c49
         have H1 : (none) = some r := by rw [if_neg (show ¬ (false = true) by decide)] at H;exact H
         clear H
         have H := H1
         clear H1
         exact absurd H (by simp)
      ·replace c41 := Bool.eq_false_iff.mpr c41
       subst c41
       have H1 : (none) = some r := by rw [if_neg (show ¬ (false = true) by decide)] at H;exact H
       clear H
       have H := H1
       clear H1
       exact absurd H (by simp)
open Go.RowKit Go.Proofs.Ytipdkendfcopiaa.Read Go.Proofs.YtipdkendfcopiaaW.PrintWords
def qjz.Pure : Prop := ∀ (l0 : (List Int)) (l1 : (List Int)),(okL okB) l0 → (okL okB) l1 → ∃ k,qjz.f k l0 l1 = some true
def prtN (s : ByteArray) : Nat → Bool
 | 0 => true
 | d + 1 => if bt s ((s.size - (d + 1) : Nat) : Int) < 32 then false else if bt s ((s.size - (d + 1) : Nat) : Int) > 126 then false else prtN s d
def prt (s : ByteArray) : Bool := prtN s s.size
theorem l1Printed_l0 (s : ByteArray) (hs : s.size ≤ 9223372036854775807) (d : Nat) : ∀ (k i : Nat),s.size - i = d → i ≤ s.size → d < k → qvv.l0 k s i = some (prtN s d) := by
 induction d with
 | zero =>
  intro k i hd hi hk
  obtain ⟨k,rfl⟩ : ∃ m,k = m + 1 := ⟨k - 1,by omega⟩
  simp only [qvv.l0]
  rw [if_neg (by omega)];rfl
 | succ d ih =>
  intro k i hd hi hk
  obtain ⟨k,rfl⟩ : ∃ m,k = m + 1 := ⟨k - 1,by omega⟩
  have e0 : s.size - (d + 1) = i := by omega
  simp only [qvv.l0,prtN,e0]
  rw [if_pos (by omega),if_pos (by omega),w64 (by omega) (by omega),show ((i : Int) + 1) = ((i + 1 : Nat) : Int) from rfl,ih k (i + 1) (by omega) (by omega) (by omega)]
  split
  ·rfl
  ·split <;> rfl
theorem l1Printed_eq (s : ByteArray) (hs : s.size ≤ 9223372036854775807) (k : Nat) (hk : s.size < k) : qvv.f k s = some (prt s) :=
 l1Printed_l0 s hs s.size k 0 (by omega) (by omega) hk
theorem yprinted_l0 (s : ByteArray) (hs : s.size ≤ 9223372036854775807) (d : Nat) : ∀ (k i : Nat),s.size - i = d → i ≤ s.size → d < k → qzw.l0 k s (s.size : Int) i = some (prtN s d) := by
 induction d with
 | zero =>
  intro k i hd hi hk
  obtain ⟨k,rfl⟩ : ∃ m,k = m + 1 := ⟨k - 1,by omega⟩
  simp only [qzw.l0]
  rw [if_neg (by omega)];rfl
 | succ d ih =>
  intro k i hd hi hk
  obtain ⟨k,rfl⟩ : ∃ m,k = m + 1 := ⟨k - 1,by omega⟩
  have e0 : s.size - (d + 1) = i := by omega
  simp only [qzw.l0,prtN,e0]
  rw [if_pos (by omega),if_pos (by omega),if_pos (by omega),w64 (by omega) (by omega),show ((i : Int) + 1) = ((i + 1 : Nat) : Int) from rfl,ih k (i + 1) (by omega) (by omega) (by omega)]
  split
  ·rfl
  ·split <;> rfl
theorem yprinted_eq (s : ByteArray) (lo hi : Int) (hs : s.size ≤ 9223372036854775807) (k : Nat) (hk : s.size + 1 < k) : qzw.f k s lo hi = some (decide (lo ≤ s.size) && decide ((s.size : Int) ≤ hi) && prt s) := by
 obtain ⟨k,rfl⟩ : ∃ m,k = m + 1 := ⟨k - 1,by omega⟩
 unfold qzw.f
 have e := yprinted_l0 s hs s.size k 0 (by omega) (by omega) (by omega)
 by_cases h1 : (s.size : Int) < lo
 ·rw [if_pos h1]
  simp only [qzw.j0,if_true]
  simp;omega
 ·rw [if_neg h1]
  have h1' : decide (lo ≤ (s.size : Int)) = true := decide_eq_true (by omega)
  by_cases h2 : (s.size : Int) ≤ hi
  ·have h2' : decide ((s.size : Int) > hi) = false := decide_eq_false (by omega)
   have h2'' : decide ((s.size : Int) ≤ hi) = true := decide_eq_true h2
   rw [h1',h2',h2'']
   simp only [qzw.j0,Bool.false_eq_true,if_false,Bool.true_and]
   exact e
  ·have h2' : decide ((s.size : Int) > hi) = true := decide_eq_true (by omega)
   have h2'' : decide ((s.size : Int) ≤ hi) = false := decide_eq_false h2
   rw [h1',h2',h2'']
   simp [qzw.j0]
def goodEntry (t : Int) (who what : ByteArray) (salt cover : List Int) : Bool :=
 if t < 0 then false else if t > 100000000000 then false else if (who.size : Int) > 60 then false else if prt who = false then false else
 if cover.length = 0 then (decide ((what.size : Int) ≤ 200) && prt what && decide ((salt.length : Int) ≤ 20))
 else decide (cover.length = 16) && decide (what.toList = ([] : List UInt8)) && decide (salt.length = 0)
theorem specGood_eq (t : Int) (who what : ByteArray) (salt cover : List Int) (h1 : okS who) (h2 : okS what) (k : Nat) (hk : who.size + what.size + 1 < k) : qjx.f k t who what salt cover = some (goodEntry t who what salt cover) := by
 unfold okS at h1 h2
 obtain ⟨k,rfl⟩ : ∃ m,k = m + 1 := ⟨k - 1,by omega⟩
 unfold qjx.f goodEntry
 have bad : qjx.j0 (k + 1) true t who what salt cover = some false := by simp [qjx.j0]
 rw [bad]
 split;· rfl
 split;· rfl
 split;· rfl
 rw [l1Printed_eq who h1 (k + 1) (by omega)]
 simp only [Option.bind_some]
 cases prt who with
 | false => exact bad
 | true =>
  simp only [Bool.not_true,qjx.j0,Bool.false_eq_true,if_false,qwk.f,Option.bind_some,beq_iff_eq,reduceCtorEq]
  by_cases hc : cover.length = 0
  ·rw [if_pos (by omega),if_pos hc]
   by_cases hw : (what.size : Int) ≤ 200
   ·rw [if_pos hw,l1Printed_eq what h2 k (by omega)]
    simp only [Option.bind_some]
    cases prt what <;> simp [hw]
   ·rw [if_neg hw];simp [hw]
  ·rw [if_neg (by omega),if_neg hc]
   by_cases hc2 : cover.length = 16
   ·rw [if_pos (by omega)]
    by_cases hw : what.toList = []
    ·rw [if_pos hw]
     simp only [hc2,hw,decide_true,Bool.true_and,Option.some.injEq]
     rw [Bool.eq_iff_iff];simp
    ·rw [if_neg hw];simp [hw]
   ·rw [if_neg (by omega)];simp [hc2]
theorem implGood_eq (t : Int) (who what : ByteArray) (salt cover : List Int) (h1 : okS who) (h2 : okS what) (k : Nat) (hk : who.size + what.size + 3 < k) : qqz.f k t who what salt cover = some (goodEntry t who what salt cover) := by
 unfold okS at h1 h2
 obtain ⟨k,rfl⟩ : ∃ m,k = m + 1 := ⟨k - 1,by omega⟩
 unfold qqz.f goodEntry
 have bad : qqz.j0 (k + 1) true t who what salt cover = some false := by simp [qqz.j0]
 rw [bad]
 split;· rfl
 split;· rfl
 rw [yprinted_eq who 0 60 h1 (k + 1) (by omega)]
 simp only [Option.bind_some]
 by_cases h60 : (who.size : Int) > 60
 ·rw [if_pos h60]
  have : decide ((who.size : Int) ≤ 60) = false := decide_eq_false (by omega)
  rw [this]
  simpa using bad
 rw [if_neg h60]
 have e60 : decide ((who.size : Int) ≤ 60) = true := decide_eq_true (by omega)
 have e0 : decide ((0 : Int) ≤ (who.size : Int)) = true := decide_eq_true (by omega)
 rw [e60,e0]
 simp only [Bool.true_and]
 cases prt who with
 | false => exact bad
 | true =>
  simp only [Bool.not_true,qqz.j0,Bool.false_eq_true,if_false,reduceCtorEq]
  by_cases hc : cover.length = 0
  ·rw [if_pos (by omega),if_pos hc,yprinted_eq what 0 200 h2 k (by omega)]
   simp only [Option.bind_some]
   have e0 : decide ((0 : Int) ≤ (what.size : Int)) = true := decide_eq_true (by omega)
   rw [e0,Bool.true_and]
   cases hh : (decide ((what.size : Int) ≤ 200) && prt what) <;> simp
  ·rw [if_neg (by omega),if_neg hc]
   by_cases hc2 : cover.length = 16
   ·rw [if_pos (by omega)]
    by_cases hw : what.toList = []
    ·rw [if_pos hw]
     simp only [hc2,hw,decide_true,Bool.true_and,Option.some.injEq]
     rw [Bool.eq_iff_iff];simp
    ·rw [if_neg hw];simp [hw]
   ·rw [if_neg (by omega)];simp [hc2]
theorem specTwo_ev (a b : List Int) (ha : isBytes a) (hb : isBytes b) (la : a.length ≤ 100000000) (lb : b.length ≤ 100000000) : Ev (fun k => qxk.f k a b) (dg (a ++ b)) := by
 simp only [qxk.f,List.length_nil,Nat.zero_add,List.nil_append,if_pos (show a.length < 140737488355328 by omega),Option.bind_some,if_pos (show a.length + b.length < 140737488355328 by omega)]
 exact Ev.bind (specDigest_ev _ (isBytes_append ha hb) (by simp;omega)) (Ev.now _)
theorem specMac_ev (a b : List Int) (ha : isBytes a) (hb : isBytes b) (la : a.length ≤ 100000000) (lb : b.length ≤ 100000000) : Ev (fun k => qxz.f k a b) (macL a b) := by
 simp only [qxz.f]
 refine Ev.bind (specDigest_ev a ha (by omega)) ?_
 refine Ev.bind (specDigest_ev b hb (by omega)) ?_
 exact Ev.bind (specTwo_ev _ _ (dg_bytes a) (dg_bytes b) (by rw [dg_len];omega) (by rw [dg_len];omega)) (Ev.now _)
theorem implMac_ev (a b : List Int) (ha : isBytes a) (hb : isBytes b) (la : a.length ≤ 20000) (lb : b.length ≤ 20000) : Ev (fun k => qqk.f k a b) (macL a b) := by
 refine ⟨1,fun k hk => ?_⟩
 obtain ⟨k,rfl⟩ : ∃ m,k = m + 1 := ⟨k - 1,by omega⟩
 show qqk.f (k + 1) a b = _
 unfold qqk.f
 rw [if_neg (by omega),decide_eq_false (by omega)]
 simp only [qqk.j0,Bool.false_eq_true,if_false]
 rw [implDigest_eq a ha la]
 simp only [Option.bind_some]
 rw [implDigest_eq b hb lb]
 simp only [Option.bind_some]
 rw [if_pos (by rw [dg_len,dg_len];omega),implDigest_eq _ (isBytes_append (dg_bytes a) (dg_bytes b)) (by rw [List.length_append,dg_len,dg_len];omega)]
 rfl
theorem bytesOfS_eq (s : ByteArray) (h : s.size ≤ 9223372036854775807) : bytesOfS.f s = some (bytesOf s) := by unfold bytesOfS.f;rw [if_pos h]
def coverL (what : ByteArray) (salt cover : List Int) : List Int := if cover.length = 0 then macL salt (bytesOf what) else cover
theorem good_open {t : Int} {who what : ByteArray} {salt cover : List Int} (h : goodEntry t who what salt cover = true) (hc : cover.length = 0) : what.size ≤ 200 ∧ salt.length ≤ 20 := by
 unfold goodEntry at h
 split at h;· cases h
 split at h;· cases h
 split at h;· cases h
 split at h;· cases h
 simp only [Bool.and_eq_true,decide_eq_true_eq] at h
 omega
theorem good_who {t : Int} {who what : ByteArray} {salt cover : List Int} (h : goodEntry t who what salt cover = true) : 0 ≤ t ∧ t ≤ 100000000000 ∧ who.size ≤ 60 := by
 unfold goodEntry at h
 split at h;· cases h
 split at h;· cases h
 split at h;· cases h
 omega
theorem good_closed {t : Int} {who what : ByteArray} {salt cover : List Int} (h : goodEntry t who what salt cover = true) (hc : cover.length ≠ 0) : cover.length = 16 := by
 unfold goodEntry at h
 split at h;· cases h
 split at h;· cases h
 split at h;· cases h
 split at h;· cases h
 simp only [Bool.and_eq_true,decide_eq_true_eq] at h
 exact h.1.1
theorem coverL_len {t : Int} {who what : ByteArray} {salt cover : List Int} (h : goodEntry t who what salt cover = true) : (coverL what salt cover).length = 16 := by
 unfold coverL
 split
 ·rw [macL,dg_len]
 ·exact good_closed h (by assumption)
theorem coverL_bytes (what : ByteArray) (salt : List Int) {cover : List Int} (h : isBytes cover) : isBytes (coverL what salt cover) := by
 unfold coverL
 split
 ·exact dg_bytes _
 ·exact h
theorem specCover_ev (t : Int) (who what : ByteArray) (salt cover : List Int) (hg : goodEntry t who what salt cover = true) (hs : isBytes salt) : Ev (fun k => qvw.f k t who what salt cover) (coverL what salt cover) := by
 unfold coverL
 by_cases hc : cover.length = 0
 ·obtain ⟨h1,h2⟩ := good_open hg hc
  simp only [qvw.f,qwk.f,hc,Option.bind_some,bytesOfS_eq what (by omega),if_true,beq_self_eq_true,Int.natCast_zero]
  exact Ev.bind (specMac_ev salt (bytesOf what) hs (bytesOf_isBytes what) (by omega) (by rw [bytesOf_length];omega)) (Ev.now _)
 ·have h16 := good_closed hg hc
  simp only [qvw.f,qwk.f,Option.bind_some,beq_iff_eq,List.length_nil,Nat.zero_add,List.nil_append,if_neg (show ¬ ((cover.length : Int) = 0) by omega),if_pos (show cover.length < 140737488355328 by omega),if_neg hc]
  exact Ev.now _
theorem implCoverOf_ev (t : Int) (who what : ByteArray) (salt cover : List Int) (h1 : okS who) (h2 : okS what) (hs : isBytes salt) :
  Ev (fun k => xx.f k t who what salt cover) (if goodEntry t who what salt cover = true then coverL what salt cover else []) := by
 simp only [xx.f]
 refine Ev.bind ⟨_,fun k hk => implGood_eq t who what salt cover h1 h2 k hk⟩ ?_
 by_cases hg : goodEntry t who what salt cover = true
 ·simp only [if_pos hg]
  unfold coverL
  by_cases hc : cover.length = 0
  ·obtain ⟨h3,h4⟩ := good_open hg hc
   simp only [if_pos hc,if_neg (show ¬ ((cover.length : Int) > 0) by omega),bytesOfS_eq what (by omega),Option.bind_some]
   exact Ev.bind (implMac_ev salt (bytesOf what) hs (bytesOf_isBytes what) (by omega) (by rw [bytesOf_length];omega)) (Ev.now _)
  ·have h16 := good_closed hg hc
   simp only [if_neg hc,if_pos (show (cover.length : Int) > 0 by omega),xq.f,if_pos (show cover.length ≤ 140737488355328 by omega),Option.bind_some]
   exact Ev.now _
 ·simp only [if_neg hg]
  exact Ev.now _
def leafL (t : Int) (who what : ByteArray) (salt cover : List Int) : List Int := dg ([0] ++ yb t ++ yb (t / 4294967296) ++ dg (bytesOf who) ++ coverL what salt cover)
theorem leafL_len (t : Int) (who what : ByteArray) (salt cover : List Int) : (leafL t who what salt cover).length = 16 := dg_len _
theorem leafL_bytes (t : Int) (who what : ByteArray) (salt cover : List Int) : isBytes (leafL t who what salt cover) := dg_bytes _
theorem yb_low (t : Int) (h0 : 0 ≤ t) : yb (Int.tmod t 4294967296) = yb t := by
 rw [Int.tmod_eq_emod_of_nonneg h0]
 simp only [yb,List.cons.injEq,and_true]
 omega
theorem high_eq (t : Int) (h0 : 0 ≤ t) (h1 : t ≤ 100000000000) : wrap64 (Int.tdiv t 4294967296) = t / 4294967296 := by
 rw [Int.tdiv_eq_ediv_of_nonneg h0]
 exact w64 (by omega) (by omega)
theorem zero_bytes : isBytes [0] := by
 intro x hx
 simp at hx
 omega
theorem leaf_parts (t : Int) (who what : ByteArray) {salt cover : List Int} (hc : isBytes cover) : isBytes ([0] ++ yb t ++ yb (t / 4294967296) ++ dg (bytesOf who) ++ coverL what salt cover) :=
 isBytes_append (isBytes_append (isBytes_append (isBytes_append zero_bytes (yb_bytes _)) (yb_bytes _)) (dg_bytes _)) (coverL_bytes what salt hc)
theorem specLeaf_ev (t : Int) (who what : ByteArray) (salt cover : List Int) (hg : goodEntry t who what salt cover = true) (hs : isBytes salt) (hc : isBytes cover) : Ev (fun k => qwq.f k t who what salt cover) (leafL t who what salt cover) := by
 obtain ⟨g0,g1,g2⟩ := good_who hg
 have hl := coverL_len hg
 have hd := dg_len (bytesOf who)
 have hy := fun n => yb_len n
 simp only [qwq.f,Option.bind_some,high_eq t g0 g1]
 have b1 : Ev (fun k => qwx.f k (Int.tmod t 4294967296)) (yb t) := ⟨5,fun k hk => by show qwx.f k (Int.tmod t 4294967296) = _;rw [specBytes_eq _ (by rw [Int.tmod_eq_emod_of_nonneg g0];omega) (by rw [Int.tmod_eq_emod_of_nonneg g0];omega) k hk,yb_low t g0]⟩
 refine Ev.bind b1 ?_
 simp only [if_pos (show ([0] : List Int).length + (yb t).length < 140737488355328 by rw [hy];simp)]
 refine Ev.bind ⟨5,fun k hk => specBytes_eq (t / 4294967296) (by omega) (by omega) k hk⟩ ?_
 simp only [if_pos (show (([0] : List Int) ++ yb t).length + (yb (t / 4294967296)).length < 140737488355328 by rw [List.length_append,hy,hy];simp),bytesOfS_eq who (by omega),Option.bind_some]
 refine Ev.bind (specDigest_ev (bytesOf who) (bytesOf_isBytes who) (by rw [bytesOf_length];omega)) ?_
 simp only [if_pos (show (([0] : List Int) ++ yb t ++ yb (t / 4294967296)).length + (dg (bytesOf who)).length < 140737488355328 by simp only [List.length_append,hy,hd];simp)]
 refine Ev.bind (specCover_ev t who what salt cover hg hs) ?_
 simp only [if_pos (show (([0] : List Int) ++ yb t ++ yb (t / 4294967296) ++ dg (bytesOf who)).length + (coverL what salt cover).length < 140737488355328 by simp only [List.length_append,hy,hd,hl];simp)]
 exact Ev.bind (specDigest_ev _ (leaf_parts t who what hc) (by simp only [List.length_append,hy,hd,hl];simp)) (Ev.now _)
theorem concat_eq (ls : List (List Int)) (h : ls.flatten.length ≤ 140737488355328) : qjk.f ls = some ls.flatten := by
 unfold qjk.f
 rw [if_pos h]
theorem implLeafOf_ev (t : Int) (who what : ByteArray) (salt cover : List Int) (h1 : okS who) (h2 : okS what) (hs : isBytes salt) (hc : isBytes cover) :
  Ev (fun k => qqj.f k t who what salt cover) (if goodEntry t who what salt cover = true then leafL t who what salt cover else []) := by
 simp only [qqj.f]
 refine Ev.bind ⟨_,fun k hk => implGood_eq t who what salt cover h1 h2 k hk⟩ ?_
 by_cases hg : goodEntry t who what salt cover = true
 ·obtain ⟨g0,g1,g2⟩ := good_who hg
  have hl := coverL_len hg
  have hd := dg_len (bytesOf who)
  have hy := fun n => yb_len n
  have y1 : ∀ n,qzz.f n = some (yb n) := fun n => rfl
  have hco := implCoverOf_ev t who what salt cover h1 h2 hs
  rw [if_pos hg] at hco
  have hfl : ([[0],yb t,yb (t / 4294967296),dg (bytesOf who),coverL what salt cover] : List (List Int)).flatten = [0] ++ yb t ++ yb (t / 4294967296) ++ dg (bytesOf who) ++ coverL what salt cover := by simp
  have hcat := concat_eq [[0],yb t,yb (t / 4294967296),dg (bytesOf who),coverL what salt cover] (by rw [hfl];simp only [List.length_append,hy,hd,hl];simp)
  rw [hfl] at hcat
  simp only [if_pos hg,y1,Option.bind_some,bytesOfS_eq who (by omega),implDigest_eq (bytesOf who) (bytesOf_isBytes who) (by rw [bytesOf_length];omega)]
  refine Ev.bind hco ?_
  simp only [hcat,Option.bind_some,implDigest_eq _ (leaf_parts t who what (salt := salt) hc) (by simp only [List.length_append,hy,hd,hl];simp)]
  exact Ev.now _
 ·simp only [if_neg hg]
  exact Ev.now _
theorem Ev.upR {α : Type} {g : Nat → Option α} {r : α} (h : Ev (fun k => g (k + 1)) r) : Ev g r := by
 obtain ⟨n,h⟩ := h
 refine ⟨n + 1,fun k hk => ?_⟩
 obtain ⟨k,rfl⟩ : ∃ m,k = m + 1 := ⟨k - 1,by omega⟩
 exact h k (by omega)
def okR (e : S27) : Prop := okS e.f1 ∧ okS e.f2 ∧ isBytes e.f3 ∧ isBytes e.f4
def goodS (e : S27) : Bool := goodEntry e.f0 e.f1 e.f2 e.f3 e.f4
def leafS (e : S27) : List Int := leafL e.f0 e.f1 e.f2 e.f3 e.f4
def goodLog (l : List S27) : Prop := l.length ≤ 200 ∧ ∀ e ∈ l,goodS e = true
instance (l : List S27) : Decidable (goodLog l) := by unfold goodLog;infer_instance
def leavesL (l : List S27) : List (List Int) × Bool := if goodLog l then (l.map leafS,true) else ([],false)
theorem leafS_len (e : S27) : (leafS e).length = 16 := leafL_len _ _ _ _ _
theorem leafS_bytes (e : S27) : isBytes (leafS e) := leafL_bytes _ _ _ _ _
attribute [irreducible] leafS goodS
theorem implLeafS_ev (e : S27) (h : okR e) : Ev (fun k => qqj.f k e.f0 e.f1 e.f2 e.f3 e.f4) (if goodS e = true then leafS e else []) := by
 unfold goodS leafS
 exact implLeafOf_ev e.f0 e.f1 e.f2 e.f3 e.f4 h.1 h.2.1 h.2.2.1 h.2.2.2
theorem specGoodS_ev (e : S27) (h : okR e) : Ev (fun k => qjx.f k e.f0 e.f1 e.f2 e.f3 e.f4) (goodS e) := by
 unfold goodS
 exact ⟨_,fun k hk => specGood_eq e.f0 e.f1 e.f2 e.f3 e.f4 h.1 h.2.1 k hk⟩
theorem specLeafS_ev (e : S27) (h : okR e) (hg : goodS e = true) : Ev (fun k => qwq.f k e.f0 e.f1 e.f2 e.f3 e.f4) (leafS e) := by
 unfold leafS
 unfold goodS at hg
 exact specLeaf_ev e.f0 e.f1 e.f2 e.f3 e.f4 hg h.2.2.1 h.2.2.2
theorem rdT_nat {l : List S27} {i : Nat} (h : i < l.length) : wx l (i : Int) = l[i] := by simp [wx,List.getD_eq_getElem?_getD,List.getElem?_eq_getElem h]
theorem map_take_succ {l : List S27} {i : Nat} (h : i < l.length) : (l.take i).map leafS ++ [leafS l[i]] = (l.take (i + 1)).map leafS := by
 rw [List.take_succ_eq_append_getElem h,List.map_append,List.map_singleton]
theorem leaves_bad {l : List S27} {i : Nat} (h : i < l.length) (hg : ¬ goodS l[i] = true) : leavesL l = ([],false) := if_neg (fun g => hg (g.2 _ (List.getElem_mem h)))
theorem leaves_all {l : List S27} (hl : l.length ≤ 200) (h : ∀ e ∈ l,goodS e = true) : leavesL l = (l.map leafS,true) := if_pos ⟨hl,h⟩
theorem taken_good {l : List S27} {i : Nat} (h : i < l.length) (hg : ∀ e ∈ l.take i,goodS e = true) (hi : goodS l[i] = true) : ∀ e ∈ l.take (i + 1),goodS e = true := by
 intro e he
 rw [List.take_succ_eq_append_getElem h] at he
 rcases List.mem_append.1 he with he | he
 ·exact hg e he
 ·obtain rfl := List.mem_singleton.1 he
  exact hi
theorem implLeaves_l0 (l : List S27) (hl : l.length ≤ 200) (hok : ∀ e ∈ l,okR e) (d : Nat) : ∀ i,i + d = l.length → (∀ e ∈ l.take i,goodS e = true) → Ev (fun k => qzk.l0 k ((l.take i).map leafS) l (l.length : Int) (i : Int)) (leavesL l) := by
 induction d with
 | zero =>
  intro i hi hg
  obtain rfl : i = l.length := by omega
  rw [List.take_length] at hg ⊢
  refine Ev.upR ?_
  simp only [qzk.l0,if_neg (show ¬ ((l.length : Int) < (l.length : Int)) by omega)]
  rw [leaves_all hl hg]
  exact Ev.now _
 | succ d ih =>
  intro i hi hg
  have hlt : i < l.length := by omega
  refine Ev.upR ?_
  have ew : wrap64 ((i : Int) + 1) = ((i + 1 : Nat) : Int) := by rw [w64 (by omega) (by omega)];rfl
  have hlen : ((l.take i).map leafS).length < 5864062014805 := by rw [List.length_map,List.length_take];omega
  simp only [qzk.l0,if_pos (show (i : Int) < (l.length : Int) by omega),if_pos (Int.natCast_nonneg i),ew,rdT_nat hlt]
  refine Ev.bind (implLeafS_ev l[i] (hok _ (List.getElem_mem hlt))) ?_
  by_cases hgi : goodS l[i] = true
  ·simp only [if_pos hgi,nilS.f,Option.bind_some]
   rw [decide_eq_false (by rw [leafS_len];omega)]
   simp only [Bool.false_eq_true,if_false,if_pos hlen]
   rw [map_take_succ hlt]
   exact ih (i + 1) (by omega) (taken_good hlt hg hgi)
  ·simp only [if_neg hgi,nilS.f,Option.bind_some,List.length_nil,decide_true,if_true]
   rw [leaves_bad hlt hgi]
   exact Ev.now _
theorem implLeaves_ev (l : List S27) (hok : ∀ e ∈ l,okR e) : Ev (fun k => qzk.f k l) (leavesL l) := by
 simp only [qzk.f]
 by_cases h : (l.length : Int) > 200
 ·simp only [if_pos h]
  rw [show leavesL l = ([],false) from if_neg (fun g => by have := g.1;omega)]
  exact Ev.now _
 ·simp only [if_neg h]
  exact implLeaves_l0 l (by omega) hok l.length 0 (by omega) (fun e he => by simp at he)
theorem specLeaves_l0 (l : List S27) (hl : l.length ≤ 200) (hok : ∀ e ∈ l,okR e) (d : Nat) : ∀ i,i + d = l.length → (∀ e ∈ l.take i,goodS e = true) → Ev (fun k => qwz.l0 k ((l.take i).map leafS) l (l.length : Int) (i : Int)) (leavesL l) := by
 induction d with
 | zero =>
  intro i hi hg
  obtain rfl : i = l.length := by omega
  rw [List.take_length] at hg ⊢
  refine Ev.upR ?_
  simp only [qwz.l0,if_neg (show ¬ ((l.length : Int) < (l.length : Int)) by omega)]
  rw [leaves_all hl hg]
  exact Ev.now _
 | succ d ih =>
  intro i hi hg
  have hlt : i < l.length := by omega
  refine Ev.upR ?_
  have ew : wrap64 ((i : Int) + 1) = ((i + 1 : Nat) : Int) := by rw [w64 (by omega) (by omega)];rfl
  have hlen : ((l.take i).map leafS).length < 5864062014805 := by rw [List.length_map,List.length_take];omega
  simp only [qwz.l0,if_pos (show (i : Int) < (l.length : Int) by omega),if_pos (Int.natCast_nonneg i),ew,rdT_nat hlt]
  refine Ev.bind (specGoodS_ev l[i] (hok _ (List.getElem_mem hlt))) ?_
  by_cases hgi : goodS l[i] = true
  ·simp only [hgi,if_true]
   refine Ev.bind (specLeafS_ev l[i] (hok _ (List.getElem_mem hlt)) hgi) ?_
   simp only [if_pos hlen]
   rw [map_take_succ hlt]
   exact ih (i + 1) (by omega) (taken_good hlt hg hgi)
  ·simp only [if_neg hgi]
   rw [leaves_bad hlt hgi]
   exact Ev.now _
theorem specLeaves_ev (l : List S27) (hok : ∀ e ∈ l,okR e) : Ev (fun k => qwz.f k l) (leavesL l) := by
 simp only [qwz.f]
 by_cases h : (l.length : Int) > 200
 ·simp only [if_pos h]
  rw [show leavesL l = ([],false) from if_neg (fun g => by have := g.1;omega)]
  exact Ev.now _
 ·simp only [if_neg h]
  exact specLeaves_l0 l (by omega) hok l.length 0 (by omega) (fun e he => by simp at he)
def cutN (n : Nat) : Nat := (cutL (n : Int)).toNat
theorem cutN_facts {n : Nat} (h0 : 2 ≤ n) (h1 : n ≤ 200) : (cutL (n : Int)) = (cutN n : Int) ∧ 1 ≤ cutN n ∧ cutN n < n := by
 obtain ⟨_,_,h2,h3⟩ := cut_facts (n : Int) (by omega) (by omega)
 unfold cutN
 omega
def rootF : Nat → List (List Int) → List Int
 | 0,_ => []
 | n + 1,l => if l.length = 0 then dg [] else if l.length = 1 then rd_L2 l 0 else nodeL (rootF n (l.take (cutN l.length))) (rootF n (l.drop (cutN l.length)))
theorem rootF_fuel (n : Nat) : ∀ (m : Nat) (l : List (List Int)),l.length ≤ 200 → l.length < n → l.length < m → rootF n l = rootF m l := by
 induction n with
 | zero => intro m l _ h;omega
 | succ n ih =>
  intro m l h200 h1 h2
  obtain ⟨m,rfl⟩ : ∃ k,m = k + 1 := ⟨m - 1,by omega⟩
  simp only [rootF]
  by_cases c0 : l.length = 0
  ·rw [if_pos c0,if_pos c0]
  by_cases c1 : l.length = 1
  ·rw [if_neg c0,if_neg c0,if_pos c1,if_pos c1]
  rw [if_neg c0,if_neg c0,if_neg c1,if_neg c1]
  obtain ⟨_,q1,q2⟩ := cutN_facts (n := l.length) (by omega) h200
  rw [ih m (l.take (cutN l.length)) (by rw [List.length_take];omega) (by rw [List.length_take];omega) (by rw [List.length_take];omega),ih m (l.drop (cutN l.length)) (by rw [List.length_drop];omega) (by rw [List.length_drop];omega) (by rw [List.length_drop];omega)]
def rootL (l : List (List Int)) : List Int := rootF 201 l
theorem rootL_nil {l : List (List Int)} (h : l.length = 0) : rootL l = dg [] := by
 show rootF (200 + 1) l = _
 rw [rootF,if_pos h]
theorem rootL_one {l : List (List Int)} (h : l.length = 1) : rootL l = rd_L2 l 0 := by
 show rootF (200 + 1) l = _
 rw [rootF,if_neg (by omega),if_pos h]
theorem rootL_node {l : List (List Int)} (h : 2 ≤ l.length) (h2 : l.length ≤ 200) : rootL l = nodeL (rootL (l.take (cutN l.length))) (rootL (l.drop (cutN l.length))) := by
 obtain ⟨_,q1,q2⟩ := cutN_facts h h2
 show rootF (200 + 1) l = _
 rw [rootF,if_neg (by omega),if_neg (by omega)]
 unfold rootL
 rw [rootF_fuel 200 201 (l.take (cutN l.length)) (by rw [List.length_take];omega) (by rw [List.length_take];omega) (by rw [List.length_take];omega),rootF_fuel 200 201 (l.drop (cutN l.length)) (by rw [List.length_drop];omega) (by rw [List.length_drop];omega) (by rw [List.length_drop];omega)]
def sixt (l : List (List Int)) : Prop := ∀ b ∈ l,isBytes b ∧ b.length = 16
theorem sixt_take {l : List (List Int)} (h : sixt l) (n : Nat) : sixt (l.take n) := fun b hb => h b (List.mem_of_mem_take hb)
theorem sixt_drop {l : List (List Int)} (h : sixt l) (n : Nat) : sixt (l.drop n) := fun b hb => h b (List.mem_of_mem_drop hb)
theorem sixt_rd {l : List (List Int)} (h : sixt l) {i : Nat} (hi : i < l.length) : isBytes (rd_L2 l (i : Int)) ∧ (rd_L2 l (i : Int)).length = 16 := by
 have : rd_L2 l (i : Int) = l[i] := by simp [rd_L2,List.getD_eq_getElem?_getD,List.getElem?_eq_getElem hi]
 rw [this]
 exact h _ (List.getElem_mem hi)
theorem rootL_six (n : Nat) : ∀ l : List (List Int),l.length ≤ n → l.length ≤ 200 → sixt l → isBytes (rootL l) ∧ (rootL l).length = 16 := by
 induction n with
 | zero =>
  intro l hn _ _
  rw [rootL_nil (by omega)]
  exact ⟨dg_bytes _,dg_len _⟩
 | succ n ih =>
  intro l hn h200 hs
  by_cases c0 : l.length = 0
  ·rw [rootL_nil c0]
   exact ⟨dg_bytes _,dg_len _⟩
  by_cases c1 : l.length = 1
  ·rw [rootL_one c1]
   exact sixt_rd hs (i := 0) (by omega)
  ·rw [rootL_node (by omega) h200]
   exact ⟨(node_six _ _).1,node_len _ _⟩
theorem root_ok {l : List (List Int)} (h200 : l.length ≤ 200) (hs : sixt l) : isBytes (rootL l) ∧ (rootL l).length = 16 := rootL_six l.length l (Nat.le_refl _) h200 hs
theorem root_six {l : List (List Int)} (h200 : l.length ≤ 200) (hs : sixt l) : six (rootL l) := ⟨(root_ok h200 hs).1,by rw [(root_ok h200 hs).2];omega⟩
theorem half_ev {n : Nat} (h0 : 2 ≤ n) (h1 : n ≤ 200) : Ev (fun k => qzj.f k (n : Int)) (cutN n : Int) := by
 obtain ⟨_,h2,_,_⟩ := cut_facts (n : Int) (by omega) (by omega)
 rw [(cutN_facts h0 h1).1] at h2
 exact Ev.of (fun k => qzj.mono _ k) h2
theorem cut_ev {n : Nat} (h0 : 2 ≤ n) (h1 : n ≤ 200) : Ev (fun k => qvx.f k (n : Int)) (cutN n : Int) := by
 obtain ⟨h2,_,_,_⟩ := cut_facts (n : Int) (by omega) (by omega)
 rw [(cutN_facts h0 h1).1] at h2
 exact Ev.of (fun k => qvx.mono _ k) h2
theorem node_ev {a b : List Int} (ha : six a) (hb : six b) : Ev (fun k => qwj.f k a b) (nodeL a b) := Ev.of (fun k => qwj.mono _ _ k) (specNode_eq a b ha hb)
theorem empty_dg : qqq.f [] = some (dg []) := implDigest_eq [] (fun x hx => absurd hx List.not_mem_nil) (by simp)
theorem implRoot_aux (n : Nat) : ∀ l : List (List Int),l.length ≤ n → l.length ≤ 200 → sixt l → Ev (fun k => qzx.f k l) (rootL l) := by
 induction n with
 | zero =>
  intro l hn _ _
  refine Ev.upR ?_
  simp only [qzx.f,if_pos (show (l.length : Int) = 0 by omega),empty_dg,Option.bind_some]
  rw [rootL_nil (by omega)]
  exact Ev.now _
 | succ n ih =>
  intro l hn h200 hs
  refine Ev.upR ?_
  by_cases c0 : l.length = 0
  ·simp only [qzx.f,if_pos (show (l.length : Int) = 0 by omega),empty_dg,Option.bind_some]
   rw [rootL_nil c0]
   exact Ev.now _
  by_cases c1 : l.length = 1
  ·have h16 := (sixt_rd hs (i := 0) (by omega)).2
   simp only [qzx.f,if_neg (show ¬ (l.length : Int) = 0 by omega),if_pos (show (l.length : Int) = 1 by omega),if_pos (show (0 : Int) < (l.length : Int) by omega),xq.f,if_pos (show (rd_L2 l 0).length ≤ 140737488355328 by rw [show ((0 : Int)) = ((0 : Nat) : Int) from rfl,h16];omega),Option.bind_some]
   rw [rootL_one c1]
   exact Ev.now _
  ·obtain ⟨_,q1,q2⟩ := cutN_facts (n := l.length) (by omega) h200
   simp only [qzx.f,if_neg (show ¬ (l.length : Int) = 0 by omega),if_neg (show ¬ (l.length : Int) = 1 by omega)]
   refine Ev.bind (half_ev (n := l.length) (by omega) h200) ?_
   simp only [if_pos (Int.natCast_nonneg (cutN l.length)),if_pos (show ((cutN l.length : Nat) : Int) ≤ (l.length : Int) by omega),Int.toNat_natCast]
   have e1 := ih (l.take (cutN l.length)) (by rw [List.length_take];omega) (by rw [List.length_take];omega) (sixt_take hs _)
   have e2 := ih (l.drop (cutN l.length)) (by rw [List.length_drop];omega) (by rw [List.length_drop];omega) (sixt_drop hs _)
   refine Ev.bind e1 ?_
   refine Ev.bind e2 ?_
   simp only [implNode_eq _ _ (root_six (l := l.take (cutN l.length)) (by rw [List.length_take];omega) (sixt_take hs _)) (root_six (l := l.drop (cutN l.length)) (by rw [List.length_drop];omega) (sixt_drop hs _)),Option.bind_some]
   rw [rootL_node (by omega) h200]
   exact Ev.now _
theorem specRoot_aux (n : Nat) : ∀ l : List (List Int),l.length ≤ n → l.length ≤ 200 → sixt l → Ev (fun k => qwv.f k l) (rootL l) := by
 induction n with
 | zero =>
  intro l hn _ _
  refine Ev.upR ?_
  simp only [qwv.f,if_pos (show (l.length : Int) = 0 by omega)]
  rw [rootL_nil (by omega)]
  exact Ev.bind (specDigest_ev [] (fun x hx => absurd hx List.not_mem_nil) (by simp)) (Ev.now _)
 | succ n ih =>
  intro l hn h200 hs
  refine Ev.upR ?_
  by_cases c0 : l.length = 0
  ·simp only [qwv.f,if_pos (show (l.length : Int) = 0 by omega)]
   rw [rootL_nil c0]
   exact Ev.bind (specDigest_ev [] (fun x hx => absurd hx List.not_mem_nil) (by simp)) (Ev.now _)
  by_cases c1 : l.length = 1
  ·simp only [qwv.f,if_neg (show ¬ (l.length : Int) = 0 by omega),if_pos (show (l.length : Int) = 1 by omega),if_pos (show (0 : Int) < (l.length : Int) by omega)]
   rw [rootL_one c1]
   exact Ev.now _
  ·obtain ⟨_,q1,q2⟩ := cutN_facts (n := l.length) (by omega) h200
   simp only [qwv.f,if_neg (show ¬ (l.length : Int) = 0 by omega),if_neg (show ¬ (l.length : Int) = 1 by omega)]
   refine Ev.bind (cut_ev (n := l.length) (by omega) h200) ?_
   simp only [if_pos (Int.natCast_nonneg (cutN l.length)),if_pos (show ((cutN l.length : Nat) : Int) ≤ (l.length : Int) by omega),Int.toNat_natCast]
   have e1 := ih (l.take (cutN l.length)) (by rw [List.length_take];omega) (by rw [List.length_take];omega) (sixt_take hs _)
   have e2 := ih (l.drop (cutN l.length)) (by rw [List.length_drop];omega) (by rw [List.length_drop];omega) (sixt_drop hs _)
   refine Ev.bind e1 ?_
   refine Ev.bind e2 ?_
   refine Ev.bind (node_ev (root_six (l := l.take (cutN l.length)) (by rw [List.length_take];omega) (sixt_take hs _)) (root_six (l := l.drop (cutN l.length)) (by rw [List.length_drop];omega) (sixt_drop hs _))) ?_
   rw [rootL_node (by omega) h200]
   exact Ev.now _
theorem sixt_leaves (l : List S27) : sixt (l.map leafS) := by
 intro b hb
 obtain ⟨e,he,rfl⟩ := List.mem_map.1 hb
 exact ⟨leafS_bytes e,leafS_len e⟩
def logRoot (l : List S27) : List Int := if goodLog l then rootL (l.map leafS) else []
theorem implRootOf_ev (l : List S27) (hok : ∀ e ∈ l,okR e) : Ev (fun k => qqx.f k l) (logRoot l) := by
 simp only [qqx.f]
 refine Ev.bind (implLeaves_ev l hok) ?_
 unfold leavesL logRoot
 by_cases hg : goodLog l
 ·simp only [if_pos hg,if_true]
  exact Ev.bind (implRoot_aux _ (l.map leafS) (Nat.le_refl _) (by rw [List.length_map];exact hg.1) (sixt_leaves l)) (Ev.now _)
 ·simp only [if_neg hg,Bool.false_eq_true,if_false]
  exact Ev.now _
theorem specRootOf_ev (l : List S27) (hok : ∀ e ∈ l,okR e) : Ev (fun k => qkz.f k l) (logRoot l) := by
 simp only [qkz.f]
 refine Ev.bind (specLeaves_ev l hok) ?_
 unfold leavesL logRoot
 by_cases hg : goodLog l
 ·simp only [if_pos hg,if_true]
  exact Ev.bind (specRoot_aux _ (l.map leafS) (Nat.le_refl _) (by rw [List.length_map];exact hg.1) (sixt_leaves l)) (Ev.now _)
 ·simp only [if_neg hg,Bool.false_eq_true,if_false]
  exact Ev.now _
theorem logRoot_len {l : List S27} (hg : goodLog l) : (logRoot l).length = 16 := by
 unfold logRoot
 rw [if_pos hg]
 exact (root_ok (by rw [List.length_map];exact hg.1) (sixt_leaves l)).2
def pathF : Nat → List (List Int) → Nat → List (List Int)
 | 0,_,_ => []
 | n + 1,l,a => if l.length = 1 then [] else if a < cutN l.length then pathF n (l.take (cutN l.length)) a ++ [rootL (l.drop (cutN l.length))] else pathF n (l.drop (cutN l.length)) (a - cutN l.length) ++ [rootL (l.take (cutN l.length))]
theorem pathF_len (n : Nat) : ∀ (l : List (List Int)) (a : Nat),(pathF n l a).length ≤ n := by
 induction n with
 | zero => intro l a;simp [pathF]
 | succ n ih =>
  intro l a
  simp only [pathF]
  split
  ·simp
  split
  ·rw [List.length_append,List.length_singleton]
   have := ih (l.take (cutN l.length)) a
   omega
  ·rw [List.length_append,List.length_singleton]
   have := ih (l.drop (cutN l.length)) (a - cutN l.length)
   omega
theorem implPath_aux (n : Nat) (hn200 : n ≤ 1000) : ∀ (l : List (List Int)) (a : Nat),l.length ≤ n → l.length ≤ 200 → a < l.length → sixt l → Ev (fun k => qzv.f k l (a : Int)) (pathF n l a) := by
 induction n with
 | zero => intro l a h1 _ h2;omega
 | succ n ih =>
  intro l a hn h200 ha hs
  refine Ev.upR ?_
  simp only [pathF]
  by_cases c1 : l.length = 1
  ·simp only [qzv.f,if_pos (show (l.length : Int) = 1 by omega),if_pos c1]
   exact Ev.now _
  obtain ⟨_,q1,q2⟩ := cutN_facts (n := l.length) (by omega) h200
  simp only [qzv.f,if_neg (show ¬ (l.length : Int) = 1 by omega),if_neg c1]
  refine Ev.bind (half_ev (n := l.length) (by omega) h200) ?_
  have r1 := implRoot_aux _ (l.take (cutN l.length)) (Nat.le_refl _) (by rw [List.length_take];omega) (sixt_take hs _)
  have r2 := implRoot_aux _ (l.drop (cutN l.length)) (Nat.le_refl _) (by rw [List.length_drop];omega) (sixt_drop hs _)
  by_cases c2 : a < cutN l.length
  ·simp only [if_pos (show (a : Int) < ((cutN l.length : Nat) : Int) by omega),if_pos c2,if_pos (Int.natCast_nonneg (cutN l.length)),if_pos (show ((cutN l.length : Nat) : Int) ≤ (l.length : Int) by omega),Int.toNat_natCast]
   refine Ev.bind (ih (by omega) (l.take (cutN l.length)) a (by rw [List.length_take];omega) (by rw [List.length_take];omega) (by rw [List.length_take];omega) (sixt_take hs _)) ?_
   refine Ev.bind r2 ?_
   have := pathF_len n (l.take (cutN l.length)) a
   simp only [if_pos (show (pathF n (l.take (cutN l.length)) a).length < 5864062014805 by omega)]
   exact Ev.now _
  ·have ew : wrap64 ((a : Int) - ((cutN l.length : Nat) : Int)) = ((a - cutN l.length : Nat) : Int) := by rw [w64 (by omega) (by omega)];omega
   simp only [if_neg (show ¬ (a : Int) < ((cutN l.length : Nat) : Int) by omega),if_neg c2,if_pos (Int.natCast_nonneg (cutN l.length)),if_pos (show ((cutN l.length : Nat) : Int) ≤ (l.length : Int) by omega),Int.toNat_natCast,ew]
   refine Ev.bind (ih (by omega) (l.drop (cutN l.length)) (a - cutN l.length) (by rw [List.length_drop];omega) (by rw [List.length_drop];omega) (by rw [List.length_drop];omega) (sixt_drop hs _)) ?_
   refine Ev.bind r1 ?_
   have := pathF_len n (l.drop (cutN l.length)) (a - cutN l.length)
   simp only [if_pos (show (pathF n (l.drop (cutN l.length)) (a - cutN l.length)).length < 5864062014805 by omega)]
   exact Ev.now _
theorem pathF_six (n : Nat) : ∀ (l : List (List Int)) (a : Nat),l.length ≤ n → l.length ≤ 200 → a < l.length → sixt l → sixt (pathF n l a) := by
 induction n with
 | zero => intro l a h1 _ h2;omega
 | succ n ih =>
  intro l a hn h200 ha hs
  simp only [pathF]
  by_cases c1 : l.length = 1
  ·rw [if_pos c1]
   exact fun b hb => absurd hb List.not_mem_nil
  obtain ⟨_,q1,q2⟩ := cutN_facts (n := l.length) (by omega) h200
  rw [if_neg c1]
  have r1 := root_ok (l := l.take (cutN l.length)) (by rw [List.length_take];omega) (sixt_take hs _)
  have r2 := root_ok (l := l.drop (cutN l.length)) (by rw [List.length_drop];omega) (sixt_drop hs _)
  by_cases c2 : a < cutN l.length
  ·rw [if_pos c2]
   intro b hb
   rcases List.mem_append.1 hb with hb | hb
   ·exact ih (l.take (cutN l.length)) a (by rw [List.length_take];omega) (by rw [List.length_take];omega) (by rw [List.length_take];omega) (sixt_take hs _) b hb
   ·obtain rfl := List.mem_singleton.1 hb
    exact r2
  ·rw [if_neg c2]
   intro b hb
   rcases List.mem_append.1 hb with hb | hb
   ·exact ih (l.drop (cutN l.length)) (a - cutN l.length) (by rw [List.length_drop];omega) (by rw [List.length_drop];omega) (by rw [List.length_drop];omega) (sixt_drop hs _) b hb
   ·obtain rfl := List.mem_singleton.1 hb
    exact r1
theorem rd2_app {p q : List (List Int)} {n : Nat} (h : n < p.length) : rd_L2 (p ++ q) (n : Int) = rd_L2 p n := by
 simp [rd_L2,List.getD_eq_getElem?_getD,List.getElem?_append_left h]
theorem rd2_last (p : List (List Int)) (x : List Int) : rd_L2 (p ++ [x]) (p.length : Int) = x := by
 simp [rd_L2,List.getD_eq_getElem?_getD]
theorem up_append (leaf : List Int) (p q : List (List Int)) (n : Nat) : ∀ (a s : Int),n ≤ p.length → upL leaf (p ++ q) n a s = upL leaf p n a s := by
 induction n with
 | zero => intro a s _;rfl
 | succ n ih =>
  intro a s h
  by_cases h1 : s = 1
  ·subst h1
   rw [up_one,up_one]
  by_cases h2 : a < cutL s
  ·rw [up_low _ _ _ _ _ h1 h2,up_low _ _ _ _ _ h1 h2,ih _ _ (by omega),rd2_app (by omega)]
  ·rw [up_high _ _ _ _ _ h1 h2,up_high _ _ _ _ _ h1 h2,ih _ _ (by omega),rd2_app (by omega)]
theorem up_path (n : Nat) : ∀ (l : List (List Int)) (a : Nat),l.length ≤ n → l.length ≤ 200 → a < l.length → upL (rd_L2 l (a : Int)) (pathF n l a) (pathF n l a).length (a : Int) (l.length : Int) = (rootL l,true) := by
 induction n with
 | zero => intro l a h1 _ h2;omega
 | succ n ih =>
  intro l a hn h200 ha
  simp only [pathF]
  by_cases c1 : l.length = 1
  ·rw [if_pos c1]
   obtain rfl : a = 0 := by omega
   rw [rootL_one c1]
   show (if (l.length : Int) = 1 then _ else _) = _
   rw [if_pos (by omega)]
   rfl
  obtain ⟨q0,q1,q2⟩ := cutN_facts (n := l.length) (by omega) h200
  rw [if_neg c1,rootL_node (by omega) h200]
  have hs1 : (l.length : Int) ≠ 1 := by omega
  by_cases c2 : a < cutN l.length
  ·rw [if_pos c2,List.length_append,List.length_singleton,up_low _ _ _ _ _ hs1 (by rw [q0];omega),up_append _ _ _ _ _ _ (Nat.le_refl _),rd2_last]
   have hi := ih (l.take (cutN l.length)) a (by rw [List.length_take];omega) (by rw [List.length_take];omega) (by rw [List.length_take];omega)
   have er : rd_L2 (l.take (cutN l.length)) (a : Int) = rd_L2 l (a : Int) := by simp [rd_L2,List.getD_eq_getElem?_getD,c2]
   have el : ((l.take (cutN l.length)).length : Int) = cutL (l.length : Int) := by rw [q0,List.length_take];omega
   rw [er,el] at hi
   rw [hi]
  ·rw [if_neg c2,List.length_append,List.length_singleton,up_high _ _ _ _ _ hs1 (by rw [q0];omega),up_append _ _ _ _ _ _ (Nat.le_refl _),rd2_last]
   have hi := ih (l.drop (cutN l.length)) (a - cutN l.length) (by rw [List.length_drop];omega) (by rw [List.length_drop];omega) (by rw [List.length_drop];omega)
   have er : rd_L2 (l.drop (cutN l.length)) ((a - cutN l.length : Nat) : Int) = rd_L2 l (a : Int) := by
    simp only [rd_L2,List.getD_eq_getElem?_getD,Int.toNat_natCast,List.getElem?_drop]
    rw [show cutN l.length + (a - cutN l.length) = a by omega]
   have el : ((l.drop (cutN l.length)).length : Int) = (l.length : Int) - cutL (l.length : Int) := by rw [q0,List.length_drop];omega
   have ea : ((a - cutN l.length : Nat) : Int) = (a : Int) - cutL (l.length : Int) := by rw [q0];omega
   rw [er,el,ea] at hi
   rw [hi]
def logPath (l : List S27) (a : Nat) : List (List Int) := pathF 200 (l.map leafS) a
theorem implPathOf_ev (l : List S27) (hok : ∀ e ∈ l,okR e) (hg : goodLog l) (a : Nat) (ha : a < l.length) : Ev (fun k => qqv.f k l (a : Int)) (logPath l a) := by
 simp only [qqv.f]
 refine Ev.bind (implLeaves_ev l hok) ?_
 unfold leavesL logPath
 have h200 := hg.1
 simp only [if_pos hg,if_true,if_neg (show ¬ (a : Int) < 0 by omega),List.length_map,if_neg (show ¬ (a : Int) ≥ (l.length : Int) by omega)]
 exact Ev.bind (implPath_aux 200 (by omega) (l.map leafS) a (by rw [List.length_map];exact h200) (by rw [List.length_map];exact h200) (by rw [List.length_map];exact ha) (sixt_leaves l)) (Ev.now _)
theorem and255 (X : Int) : 0 ≤ Go.bits .and .u64 X 255 ∧ Go.bits .and .u64 X 255 ≤ 255 := by
 have h : ((BitVec.ofInt 64 X) &&& (BitVec.ofInt 64 255)).toNat ≤ 255 := by
  rw [BitVec.toNat_and]
  exact Nat.le_trans Nat.and_le_right (by decide)
 have e : Go.bits .and .u64 X 255 = IntKind.u64.wrap ((((BitVec.ofInt 64 X) &&& (BitVec.ofInt 64 255)).toNat : Nat) : Int) := rfl
 rw [e,IntKind.wrap_u64]
 omega
theorem cur_next (s : List Int) (hs : okL okB s) (p h : Int) (h0 : 0 ≤ p) (h1 : p ≤ 1000000000000) : ∃ v h',qkx.f s p h = some (v,p + 1,h') ∧ 0 ≤ v ∧ v ≤ 255 := by
 have e : wrap64 (p + 1) = p + 1 := w64 (by omega) (by omega)
 unfold qkx.f
 simp only [e]
 by_cases hp : p < (s.length : Int)
 ·rw [if_pos hp,if_pos h0,if_pos (by omega)]
  have hm : rd s p ∈ s := by
   have : p.toNat < s.length := by omega
   simp [rd,List.getD_eq_getElem?_getD,List.getElem?_eq_getElem this]
  have hb : 0 ≤ rd s p ∧ rd s p ≤ 255 := hs.2 _ hm
  exact ⟨_,_,rfl,by rw [w64 (by omega) (by omega)];exact hb.1,by rw [w64 (by omega) (by omega)];exact hb.2⟩
 ·rw [if_neg hp,if_neg (by omega)]
  have hb := and255 ((IntKind.u64.wrap ((IntKind.u64.wrap (IntKind.u64.wrap (h * 6364136223846793005))) + 1442695040888963407)) / 1099511627776)
  exact ⟨_,_,rfl,by rw [w64 (by omega) (by omega)];exact hb.1,by rw [w64 (by omega) (by omega)];exact hb.2⟩
theorem cur_pick (s : List Int) (hs : okL okB s) (p h n : Int) (h0 : 0 ≤ p) (h1 : p ≤ 999999999999) : ∃ v p' h',qvk.f s p h n = some (v,p',h') ∧ 0 ≤ v ∧ (v < n ∨ v = 0) ∧ p ≤ p' ∧ p' ≤ p + 2 := by
 unfold qvk.f
 by_cases hn : n ≤ 1
 ·rw [if_pos hn]
  exact ⟨_,_,_,rfl,by omega,.inr rfl,by omega,by omega⟩
 ·rw [if_neg hn]
  obtain ⟨v,h',e,v0,v1⟩ := cur_next s hs p h h0 (by omega)
  simp only [e,Option.bind_some]
  by_cases h2 : n > 200
  ·rw [if_pos h2]
   obtain ⟨v2,h2',e2,v20,v21⟩ := cur_next s hs (p + 1) h' (by omega) (by omega)
   simp only [e2,Option.bind_some,if_neg (show ¬ n = 0 by omega),w64 (show -9223372036854775808 ≤ v * 256 by omega) (show v * 256 ≤ 9223372036854775807 by omega),w64 (show -9223372036854775808 ≤ v * 256 + v2 by omega) (show v * 256 + v2 ≤ 9223372036854775807 by omega)]
   refine ⟨_,_,_,rfl,?_,.inl ?_,by omega,by omega⟩
   ·rw [Int.tmod_eq_emod_of_nonneg (by omega)];exact Int.emod_nonneg _ (by omega)
   ·rw [Int.tmod_eq_emod_of_nonneg (by omega)];exact Int.emod_lt_of_pos _ (by omega)
  ·rw [if_neg h2,if_neg (show ¬ n = 0 by omega)]
   refine ⟨_,_,_,rfl,?_,.inl ?_,by omega,by omega⟩
   ·rw [Int.tmod_eq_emod_of_nonneg (by omega)];exact Int.emod_nonneg _ (by omega)
   ·rw [Int.tmod_eq_emod_of_nonneg (by omega)];exact Int.emod_lt_of_pos _ (by omega)
theorem cur_one (s : List Int) (hs : okL okB s) (p h n : Int) (h0 : 0 ≤ p) (h1 : p ≤ 999999999999) : ∃ b p' h',qvj.f s p h n = some (b,p',h') ∧ p ≤ p' ∧ p' ≤ p + 2 := by
 obtain ⟨v,p',h',e,_,_,g1,g2⟩ := cur_pick s hs p h n h0 h1
 unfold qvj.f
 simp only [e,Option.bind_some]
 exact ⟨_,_,_,rfl,g1,g2⟩
theorem xk (s : List Int) (hs : okL okB s) (d : Nat) : ∀ (x5 : List Int) (p h : Int),0 ≤ p → p + d ≤ 900000000000 → x5.length + d ≤ 1000000 → ∃ (L : List Int) (p' h' : Int),(∀ k,d < k → qkj.l0 k x5 d s p h = some (x5 ++ L,p',h')) ∧ isBytes L ∧ L.length = d ∧ p ≤ p' ∧ p' ≤ p + d := by
 induction d with
 | zero =>
  intro x5 p h h0 h1 hl
  refine ⟨[],p,h,fun k hk => ?_,(by simp [isBytes]),rfl,by omega,by omega⟩
  obtain ⟨k,rfl⟩ : ∃ m,k = m + 1 := ⟨k - 1,by omega⟩
  simp only [qkj.l0,if_neg (show ¬ (((0 : Nat) : Int) > 0) by omega),List.append_nil]
 | succ d ih =>
  intro x5 p h h0 h1 hl
  obtain ⟨v,h',e,v0,v1⟩ := cur_next s hs p h h0 (by omega)
  obtain ⟨L,p2,h2,hL,hb,hlen,g1,g2⟩ := ih (x5 ++ [v % 256]) (p + 1) h' (by omega) (by omega) (by rw [List.length_append,List.length_singleton];omega)
  refine ⟨v % 256 :: L,p2,h2,fun k hk => ?_,?_,by rw [List.length_cons,hlen],by omega,by omega⟩
  ·obtain ⟨k,rfl⟩ : ∃ m,k = m + 1 := ⟨k - 1,by omega⟩
   have ed : wrap64 (((d + 1 : Nat) : Int) - 1) = (d : Int) := by rw [w64 (by omega) (by omega)];omega
   simp only [qkj.l0,if_pos (show (((d + 1 : Nat) : Int) > 0) by omega),e,Option.bind_some,if_pos (show x5.length < 140737488355328 by omega),ed]
   rw [hL k (by omega),List.append_assoc]
   rfl
  ·intro x hx
   rcases List.mem_cons.1 hx with rfl | hx
   ·omega
   ·exact hb x hx
theorem cur_bytes (s : List Int) (hs : okL okB s) (p h : Int) (n : Nat) (hn : n ≤ 1000) (h0 : 0 ≤ p) (h1 : p ≤ 800000000000) : ∃ (L : List Int) (p' h' : Int),(∀ k,n < k → qkj.f k s p h n = some (L,p',h')) ∧ isBytes L ∧ L.length ≤ n ∧ p ≤ p' ∧ p' ≤ p + 2 + n := by
 obtain ⟨v,p1,h1',e,v0,v1,g1,g2⟩ := cur_pick s hs p h n h0 (by omega)
 obtain ⟨m,rfl⟩ : ∃ m : Nat,v = m := ⟨v.toNat,by omega⟩
 obtain ⟨L,p2,h2,hL,hb,hlen,g3,g4⟩ := xk s hs m [] p1 h1' (by omega) (by omega) (by simp;omega)
 refine ⟨L,p2,h2,fun k hk => ?_,hb,by omega,by omega,by omega⟩
 unfold qkj.f
 simp only [e,Option.bind_some]
 rw [hL k (by omega)]
 rfl
theorem Ev.upG {α : Type} {g : Nat → Option α} {r : α} (h : Ev (fun k => g (k + 1)) r) : Ev g r := by
 obtain ⟨n,h⟩ := h
 refine ⟨n + 1,fun k hk => ?_⟩
 obtain ⟨k,rfl⟩ : ∃ m,k = m + 1 := ⟨k - 1,by omega⟩
 exact h k (by omega)
def okE (e : S27) : Prop := okS e.f1 ∧ okS e.f2 ∧ isBytes e.f3 ∧ isBytes e.f4
theorem nil_bytes : isBytes [] := fun x hx => absurd hx List.not_mem_nil
theorem zeros_bytes (n : Nat) : isBytes (List.replicate n 0) := by
 intro x hx
 obtain rfl := List.eq_of_mem_replicate hx
 omega
theorem of_small (s : List Int) (hs : okL okB s) (p h : Int) (l : List ByteArray) (hl : 1 ≤ l.length) (hl2 : l.length ≤ 100) (hz : ∀ t ∈ l,t.size ≤ 50) (h0 : 0 ≤ p) (h1 : p ≤ 900000000000) : ∃ (t : ByteArray) (p' h' : Int),qvz.f s p h l = some (t,p',h') ∧ t.size ≤ 50 ∧ p ≤ p' ∧ p' ≤ p + 2 := by
 obtain ⟨v,p1,h1',e,v0,v1,g1,g2⟩ := cur_pick s hs p h l.length h0 (by omega)
 obtain ⟨i,rfl⟩ := Int.eq_ofNat_of_zero_le v0
 have hi : i < l.length := by omega
 unfold qvz.f
 simp only [e,Option.bind_some,if_pos v0,if_pos (show (i : Int) < (l.length : Int) by omega)]
 refine ⟨_,_,_,rfl,?_,g1,g2⟩
 have : l.getD (Int.toNat (i : Int)) ByteArray.empty ∈ l := by
  rw [Int.toNat_natCast,List.getD_eq_getElem?_getD,List.getElem?_eq_getElem hi]
  exact List.getElem_mem hi
 exact hz _ this
def redL (t : Int) (who what : ByteArray) (salt cover : List Int) : Int × ByteArray × ByteArray × List Int × List Int := if goodEntry t who what salt cover = true then (t,who,⟨#[]⟩,[],coverL what salt cover) else (0,⟨#[]⟩,⟨#[]⟩,[],[])
theorem specRed_ev (t : Int) (who what : ByteArray) (salt cover : List Int) (h1 : okS who) (h2 : okS what) (h3 : isBytes salt) : Ev (fun k => qkq.f k t who what salt cover) (redL t who what salt cover) := by
 simp only [qkq.f]
 refine Ev.bind ⟨_,fun k hk => specGood_eq t who what salt cover h1 h2 k hk⟩ ?_
 unfold redL
 by_cases hg : goodEntry t who what salt cover = true
 ·simp only [if_pos hg]
  exact Ev.bind (specCover_ev t who what salt cover hg h3) (Ev.now _)
 ·simp only [if_neg hg]
  exact Ev.now _
theorem empty_ok : okS (⟨#[]⟩ : ByteArray) := Nat.zero_le _
theorem logEntry_j0 (s : List Int) (hs : okL okB s) (p h : Int) (h0 : 0 ≤ p) (h1 : p ≤ 800000000000) (t : Int) (who what : ByteArray) (salt : List Int) (hw : okS who) (hx : okS what) (hb : isBytes salt) : ∃ (e : S27) (p' h' : Int),Ev (fun k => qkv.j0 k s p h t who what salt) (e.f0,e.f1,e.f2,e.f3,e.f4,p',h') ∧ okE e ∧ p ≤ p' ∧ p' ≤ p + 2 := by
 obtain ⟨b,p1,h1',e1,g1,g2⟩ := cur_one s hs p h 5 h0 (by omega)
 cases b with
 | true =>
  have hr := specRed_ev t who what salt [] hw hx hb
  refine ⟨⟨(redL t who what salt []).1,(redL t who what salt []).2.1,(redL t who what salt []).2.2.1,(redL t who what salt []).2.2.2.1,(redL t who what salt []).2.2.2.2⟩,p1,h1',?_,?_,g1,g2⟩
  ·refine Ev.upG ?_
   simp only [qkv.j0,e1,Option.bind_some,if_true]
   exact Ev.bind hr (Ev.now _)
  ·by_cases hg : goodEntry t who what salt [] = true
   ·have er : redL t who what salt [] = (t,who,⟨#[]⟩,[],coverL what salt []) := if_pos hg
    have hc : isBytes (coverL what salt []) := coverL_bytes what salt (cover := []) (fun x hx => absurd hx List.not_mem_nil)
    rw [er]
    generalize coverL what salt [] = C at hc
    exact And.intro hw (And.intro empty_ok (And.intro nil_bytes hc))
   ·have er : redL t who what salt [] = (0,⟨#[]⟩,⟨#[]⟩,[],[]) := if_neg hg
    rw [er]
    exact And.intro empty_ok (And.intro empty_ok (And.intro nil_bytes nil_bytes))
 | false =>
  refine ⟨⟨t,who,what,salt,[]⟩,p1,h1',?_,⟨hw,hx,hb,nil_bytes⟩,g1,g2⟩
  refine Ev.upG ?_
  simp only [qkv.j0,e1,Option.bind_some,Bool.false_eq_true,if_false]
  exact Ev.now _
theorem cur_logEntry (s : List Int) (hs : okL okB s) (p h : Int) (h0 : 0 ≤ p) (h1 : p ≤ 700000000000) : ∃ (e : S27) (p' h' : Int),Ev (fun k => qkv.f k s p h) (e.f0,e.f1,e.f2,e.f3,e.f4,p',h') ∧ okE e ∧ p ≤ p' ∧ p' ≤ p + 20 := by
 obtain ⟨v,p1,h1',e1,v0,v1,a1,b1⟩ := cur_pick s hs p h 300 h0 (by omega)
 obtain ⟨w,p2,h2',e2,hw,a2,b2⟩ := of_small s hs p1 h1' [(⟨#[97,110,110]⟩ : ByteArray),(⟨#[98,111,98]⟩ : ByteArray),(⟨#[]⟩ : ByteArray)] (by decide) (by decide) (by decide) (by omega) (by omega)
 obtain ⟨x,p3,h3',e3,hx,a3,b3⟩ := of_small s hs p2 h2' [(⟨#[118,105,101,119,32,100,111,99,49]⟩ : ByteArray),(⟨#[101,100,105,116]⟩ : ByteArray),(⟨#[]⟩ : ByteArray)] (by decide) (by decide) (by decide) (by omega) (by omega)
 obtain ⟨L,p4,h4',e4,hb,hl,a4,b4⟩ := cur_bytes s hs p3 h3' 4 (by omega) (by omega) (by omega)
 simp only [Int.cast_ofNat_Int] at e4
 obtain ⟨b,p5,h5',e5,a5,b5⟩ := cur_one s hs p4 h4' 20 (by omega) (by omega)
 have okw : okS w := show w.size ≤ _ by omega
 have okx : okS x := show x.size ≤ _ by omega
 have key : ∀ T : Int,∃ (e : S27) (p' h' : Int),Ev (fun k => qkv.j0 k s p5 h5' T w x L) (e.f0,e.f1,e.f2,e.f3,e.f4,p',h') ∧ okE e ∧ p5 ≤ p' ∧ p' ≤ p5 + 2 := fun T => logEntry_j0 s hs p5 h5' (by omega) (by omega) T w x L okw okx hb
 have hL : Ev (fun k => qkj.f k s p3 h3' 4) (L,p4,h4') := ⟨5,fun k hk => e4 k (by omega)⟩
 cases b with
 | true =>
  obtain ⟨e,p',h',he,hok,a6,b6⟩ := key 100000000000
  refine ⟨e,p',h',?_,hok,by omega,by omega⟩
  simp only [qkv.f,e1,e2,e3,Option.bind_some]
  refine Ev.bind hL ?_
  simp only [e5,Option.bind_some,if_true]
  exact he
 | false =>
  obtain ⟨e,p',h',he,hok,a6,b6⟩ := key v
  refine ⟨e,p',h',?_,hok,by omega,by omega⟩
  simp only [qkv.f,e1,e2,e3,Option.bind_some]
  refine Ev.bind hL ?_
  simp only [e5,Option.bind_some,Bool.false_eq_true,if_false]
  exact he
theorem strOf_size (L : List Int) : (strOfNums L).size = L.length := by
 unfold strOfNums
 show (List.toArray _).size = _
 rw [List.size_toArray,List.length_map]
theorem longText_l0 (s : List Int) (d : Nat) : ∀ (x : List Int) (p h : Int) (i : Nat),i + d = x.length → x.length ≤ 1000 → ∃ t : ByteArray,(∀ k,d < k → qkw.l0 k x (x.length : Int) (i : Int) s p h = some (t,p,h)) ∧ t.size = x.length := by
 induction d with
 | zero =>
  intro x p h i hi hl
  refine ⟨strOfNums x,fun k hk => ?_,strOf_size x⟩
  obtain ⟨k,rfl⟩ : ∃ m,k = m + 1 := ⟨k - 1,by omega⟩
  rw [qkw.l0,if_neg (by omega)]
 | succ d ih =>
  intro x p h i hi hl
  obtain ⟨t,e,ht⟩ := ih (x.set i 112) p h (i + 1) (by rw [List.length_set];omega) (by rw [List.length_set];omega)
  rw [List.length_set] at e ht
  refine ⟨t,fun k hk => ?_,ht⟩
  obtain ⟨k,rfl⟩ : ∃ m,k = m + 1 := ⟨k - 1,by omega⟩
  have ew : wrap64 ((i : Int) + 1) = ((i + 1 : Nat) : Int) := by rw [w64 (by omega) (by omega)];rfl
  rw [qkw.l0,if_pos (by omega),if_pos (by omega),if_pos (by omega),ew,Int.toNat_natCast]
  exact e k (by omega)
theorem cur_longText (s : List Int) (hs : okL okB s) (p h : Int) (h0 : 0 ≤ p) (h1 : p ≤ 800000000000) : ∃ (t : ByteArray) (p' h' : Int),(∀ k,100 < k → qkw.f k s p h 60 = some (t,p',h')) ∧ t.size ≤ 62 ∧ p ≤ p' ∧ p' ≤ p + 2 := by
 obtain ⟨v,p1,h1',e1,v0,v1,a1,b1⟩ := cur_pick s hs p h 3 h0 (by omega)
 have ew : wrap64 ((wrap64 (60 - 1)) + v) = 59 + v := by rw [w64 (n := 60 - 1) (by omega) (by omega),w64 (by omega) (by omega)];omega
 obtain ⟨t,e,ht⟩ := longText_l0 s (List.replicate (59 + v).toNat (0 : Int)).length (List.replicate (59 + v).toNat 0) p1 h1' 0 (by omega) (by rw [List.length_replicate];omega)
 refine ⟨t,p1,h1',fun k hk => ?_,by rw [ht,List.length_replicate];omega,a1,b1⟩
 simp only [qkw.f,e1,Option.bind_some,ew,if_pos (show 0 ≤ 59 + v by omega),if_pos (show (59 + v).toNat ≤ 281474976710656 by omega)]
 exact e k (by rw [List.length_replicate];omega)
theorem cur_odd (s : List Int) (hs : okL okB s) (p h : Int) (h0 : 0 ≤ p) (h1 : p ≤ 700000000000) (e : S27) (he : okE e) : ∃ (e' : S27) (p' h' : Int),Ev (fun k => qvq.f k s p h e.f0 e.f1 e.f2 e.f3 e.f4) (e'.f0,e'.f1,e'.f2,e'.f3,e'.f4,p',h') ∧ okE e' ∧ p ≤ p' ∧ p' ≤ p + 30 := by
 obtain ⟨k1,k2,k3,k4⟩ := he
 obtain ⟨v,p1,h1',e1,v0,v1,a1,b1⟩ := cur_pick s hs p h 16 h0 (by omega)
 by_cases c0 : v = 0
 ·obtain ⟨w,p2,h2,e2,w0,w1,a2,b2⟩ := cur_pick s hs p1 h1' 3 (by omega) (by omega)
  refine ⟨⟨rd [-1,100000000000,100000000001] w,e.f1,e.f2,e.f3,e.f4⟩,p2,h2,⟨0,fun k _ => ?_⟩,⟨k1,k2,k3,k4⟩,by omega,by omega⟩
  simp only [qvq.f,e1,Option.bind_some,if_pos c0,e2,if_pos w0,List.length_cons,List.length_nil]
  rw [if_pos (by omega)]
 by_cases c1 : v = 1
 ·obtain ⟨t,p2,h2,e2,ht,a2,b2⟩ := cur_longText s hs p1 h1' (by omega) (by omega)
  refine ⟨⟨e.f0,t,e.f2,e.f3,e.f4⟩,p2,h2,⟨101,fun k hk => ?_⟩,⟨show t.size ≤ _ by omega,k2,k3,k4⟩,by omega,by omega⟩
  simp only [qvq.f,e1,Option.bind_some,if_neg c0,if_pos c1,e2 k (by omega)]
 by_cases c2 : v = 2
 ·obtain ⟨L,p2,h2,e2,hb,hl,a2,b2⟩ := cur_bytes s hs p1 h1' 18 (by omega) (by omega) (by omega)
  simp only [Int.cast_ofNat_Int] at e2
  refine ⟨⟨e.f0,e.f1,e.f2,e.f3,L⟩,p2,h2,⟨20,fun k hk => ?_⟩,⟨k1,k2,k3,hb⟩,by omega,by omega⟩
  simp only [qvq.f,e1,Option.bind_some,if_neg c0,if_neg c1,if_pos c2,e2 k (by omega)]
 by_cases c3 : v = 3
 ·obtain ⟨t,p2,h2,e2,ht,a2,b2⟩ := of_small s hs p1 h1' [(⟨#[9]⟩ : ByteArray),(⟨#[120]⟩ : ByteArray)] (by decide) (by decide) (by decide) (by omega) (by omega)
  refine ⟨⟨e.f0,e.f1,t,e.f3,e.f4⟩,p2,h2,⟨0,fun k hk => ?_⟩,⟨k1,show t.size ≤ _ by omega,k3,k4⟩,by omega,by omega⟩
  simp only [qvq.f,e1,Option.bind_some,if_neg c0,if_neg c1,if_neg c2,if_pos c3,e2]
 by_cases c4 : v = 4
 ·obtain ⟨w,p2,h2,e2,w0,w1,a2,b2⟩ := cur_pick s hs p1 h1' 3 (by omega) (by omega)
  have ew : wrap64 (19 + w) = 19 + w := w64 (by omega) (by omega)
  refine ⟨⟨e.f0,e.f1,e.f2,List.replicate (19 + w).toNat 0,e.f4⟩,p2,h2,⟨0,fun k hk => ?_⟩,⟨k1,k2,zeros_bytes _,k4⟩,by omega,by omega⟩
  simp only [qvq.f,e1,Option.bind_some,if_neg c0,if_neg c1,if_neg c2,if_neg c3,if_pos c4,e2,ew,if_pos (show 0 ≤ 19 + w by omega),if_pos (show (19 + w).toNat ≤ 281474976710656 by omega)]
 ·refine ⟨e,p1,h1',⟨0,fun k hk => ?_⟩,⟨k1,k2,k3,k4⟩,by omega,by omega⟩
  simp only [qvq.f,e1,Option.bind_some,if_neg c0,if_neg c1,if_neg c2,if_neg c3,if_neg c4]
theorem log_l1 (s : List Int) (n : Nat) (hn : n ≤ 1000) (d : Nat) : ∀ (x : List S27) (p h : Int),x.length + d = n ∨ (n ≤ x.length ∧ d = 0) → (∀ e ∈ x,okE e) → ∃ l : List S27,(∀ k,d < k → qkk.l1 k x (n : Int) s p h = some (l,p,h)) ∧ (∀ e ∈ l,okE e) ∧ l.length ≤ x.length + d := by
 induction d with
 | zero =>
  intro x p h hd hx
  refine ⟨x,fun k hk => ?_,hx,by omega⟩
  obtain ⟨k,rfl⟩ : ∃ m,k = m + 1 := ⟨k - 1,by omega⟩
  rw [qkk.l1,if_neg (by omega)]
 | succ d ih =>
  intro x p h hd hx
  obtain ⟨l,e,hl,hz⟩ := ih (x ++ [⟨(x.length : Int),⟨#[]⟩,⟨#[]⟩,[],[]⟩]) p h (by rw [List.length_append,List.length_singleton];omega) (by
   intro y hy
   rcases List.mem_append.1 hy with hy | hy
   ·exact hx y hy
   ·obtain rfl := List.mem_singleton.1 hy
    exact ⟨empty_ok,empty_ok,nil_bytes,nil_bytes⟩)
  rw [List.length_append,List.length_singleton] at hz
  refine ⟨l,fun k hk => ?_,hl,by omega⟩
  obtain ⟨k,rfl⟩ : ∃ m,k = m + 1 := ⟨k - 1,by omega⟩
  rw [qkk.l1,if_pos (by omega),if_pos (by omega)]
  exact e k (by omega)
theorem log_j2 (s : List Int) (hs : okL okB s) (x : List S27) (hx : ∀ e ∈ x,okE e) (p h : Int) (h0 : 0 ≤ p) (h1 : p ≤ 700000000000) : ∃ (l : List S27) (p' h' : Int),Ev (fun k => qkk.j2 k x s p h) (l,p',h') ∧ (∀ e ∈ l,okE e) ∧ p ≤ p' ∧ p' ≤ p + 4 ∧ l.length ≤ x.length + 300 := by
 obtain ⟨b,p1,h1',e1,a1,b1⟩ := cur_one s hs p h 60 h0 (by omega)
 cases b with
 | false =>
  refine ⟨x,p1,h1',?_,hx,a1,by omega,by omega⟩
  refine Ev.upG ?_
  simp only [qkk.j2,e1,Option.bind_some,Bool.false_eq_true,if_false]
  exact Ev.now _
 | true =>
  obtain ⟨w,p2,h2,e2,w0,w1,a2,b2⟩ := cur_pick s hs p1 h1' 3 (by omega) (by omega)
  obtain ⟨m,rfl⟩ := Int.eq_ofNat_of_zero_le w0
  have ew : wrap64 (199 + (m : Int)) = ((199 + m : Nat) : Int) := by rw [w64 (by omega) (by omega)];omega
  obtain ⟨l,e,hl,hz⟩ := log_l1 s (199 + m) (by omega) (199 + m - x.length) x p2 h2 (by omega) hx
  refine ⟨l,p2,h2,?_,hl,by omega,by omega,by omega⟩
  refine Ev.upG ?_
  simp only [qkk.j2,e1,Option.bind_some,if_true,e2,ew]
  exact ⟨199 + m - x.length + 1,fun k hk => e k (by omega)⟩
theorem rd27_mem {l : List S27} (h : 0 < l.length) : wx l 0 ∈ l := by
 unfold wx
 rw [show (0 : Int).toNat = 0 from rfl,List.getD_eq_getElem?_getD,List.getElem?_eq_getElem h]
 exact List.getElem_mem h
theorem log_j1 (s : List Int) (hs : okL okB s) (x : List S27) (hx : ∀ e ∈ x,okE e) (b : Bool) (hb : b = true → 0 < x.length) (p h : Int) (h0 : 0 ≤ p) (h1 : p ≤ 600000000000) : ∃ (l : List S27) (p' h' : Int),Ev (fun k => qkk.j1 k x b s p h) (l,p',h') ∧ (∀ e ∈ l,okE e) ∧ p ≤ p' ∧ p' ≤ p + 40 ∧ l.length ≤ x.length + 300 := by
 cases b with
 | false =>
  obtain ⟨l,p',h',e,hl,a,c,hz⟩ := log_j2 s hs x hx p h h0 (by omega)
  refine ⟨l,p',h',?_,hl,a,by omega,hz⟩
  refine Ev.upG ?_
  simp only [qkk.j1,Bool.false_eq_true,if_false]
  exact e
 | true =>
  have hp := hb rfl
  obtain ⟨e1,p1,h1',he,hok,a1,b1⟩ := cur_odd s hs p h h0 (by omega) (wx x 0) (hx _ (rd27_mem hp))
  obtain ⟨l,p',h',e,hl,a,c,hz⟩ := log_j2 s hs (x.set 0 ⟨e1.f0,e1.f1,e1.f2,e1.f3,e1.f4⟩) (fun y hy => by
   rcases List.mem_or_eq_of_mem_set hy with hy | rfl
   ·exact hx y hy
   ·exact hok) p1 h1' (by omega) (by omega)
  rw [List.length_set] at hz
  refine ⟨l,p',h',?_,hl,by omega,by omega,hz⟩
  refine Ev.upG ?_
  simp only [qkk.j1,if_true,if_pos (show (0 : Int) < (x.length : Int) by omega)]
  exact Ev.bind he e
theorem log_l0 (s : List Int) (hs : okL okB s) (d : Nat) (hd : d ≤ 1000) : ∀ (x : List S27) (p h : Int),x.length + d ≤ 2000 → (∀ e ∈ x,okE e) → 0 ≤ p → p + 20 * d ≤ 500000000000 → ∃ (l : List S27) (p' h' : Int),Ev (fun k => qkk.l0 k x (d : Int) s p h) (l,p',h') ∧ (∀ e ∈ l,okE e) ∧ p ≤ p' ∧ p' ≤ p + 20 * d + 50 ∧ l.length ≤ x.length + d + 300 := by
 induction d with
 | zero =>
  intro x p h hl hx h0 h1
  obtain ⟨b,p1,h1',e1,a1,b1⟩ := cur_one s hs p h 40 h0 (by omega)
  have key := fun (c : Bool) (hc : c = true → 0 < x.length) => log_j1 s hs x hx c hc p1 h1' (by omega) (by omega)
  cases b with
  | true =>
   obtain ⟨l,p',h',e,hl,a,c,hz⟩ := key (decide ((x.length : Int) > 0)) (fun h => by have := of_decide_eq_true h;omega)
   refine ⟨l,p',h',?_,hl,by omega,by omega,by omega⟩
   refine Ev.upG ?_
   simp only [qkk.l0,if_neg (show ¬ (((0 : Nat) : Int) > 0) by omega),e1,Option.bind_some,if_true]
   exact e
  | false =>
   obtain ⟨l,p',h',e,hl,a,c,hz⟩ := key false (fun h => by cases h)
   refine ⟨l,p',h',?_,hl,by omega,by omega,by omega⟩
   refine Ev.upG ?_
   simp only [qkk.l0,if_neg (show ¬ (((0 : Nat) : Int) > 0) by omega),e1,Option.bind_some,Bool.false_eq_true,if_false]
   exact e
 | succ d ih =>
  intro x p h hl hx h0 h1
  obtain ⟨e1,p1,h1',he,hok,a1,b1⟩ := cur_logEntry s hs p h h0 (by omega)
  obtain ⟨l,p',h',e,hl2,a,c,hz⟩ := ih (by omega) (x ++ [⟨e1.f0,e1.f1,e1.f2,e1.f3,e1.f4⟩]) p1 h1' (by rw [List.length_append,List.length_singleton];omega) (by
   intro y hy
   rcases List.mem_append.1 hy with hy | hy
   ·exact hx y hy
   ·obtain rfl := List.mem_singleton.1 hy
    exact hok) (by omega) (by omega)
  rw [List.length_append,List.length_singleton] at hz
  refine ⟨l,p',h',?_,hl2,by omega,by omega,by omega⟩
  refine Ev.upG ?_
  have ew : wrap64 (((d + 1 : Nat) : Int) - 1) = (d : Int) := by rw [w64 (by omega) (by omega)];omega
  simp only [qkk.l0,if_pos (show (((d + 1 : Nat) : Int) > 0) by omega),ew]
  refine Ev.bind he ?_
  simp only [if_pos (show x.length < 1599289640401 by omega)]
  exact e
theorem cur_log (s : List Int) (hs : okL okB s) (n : Nat) (hn : n ≤ 100) (p h : Int) (h0 : 0 ≤ p) (h1 : p ≤ 400000000000) : ∃ (l : List S27) (p' h' : Int),Ev (fun k => qkk.f k s p h (n : Int)) (l,p',h') ∧ (∀ e ∈ l,okE e) ∧ p ≤ p' ∧ p' ≤ p + 20 * n + 60 ∧ l.length ≤ n + 300 := by
 obtain ⟨v,p1,h1',e1,v0,v1,a1,b1⟩ := cur_pick s hs p h n h0 (by omega)
 obtain ⟨m,rfl⟩ := Int.eq_ofNat_of_zero_le v0
 obtain ⟨l,p',h',e,hl,a,c,hz⟩ := log_l0 s hs m (by omega) [] p1 h1' (by simp;omega) (fun e he => absurd he List.not_mem_nil) (by omega) (by omega)
 rw [List.length_nil] at hz
 refine ⟨l,p',h',?_,hl,by omega,by omega,by omega⟩
 simp only [qkk.f,e1,Option.bind_some]
 exact e
end Go.Proofs.Ytipdkendfcopiaa.Pr
namespace Go.Proofs.Ytipdkendfcopiaa.Pure
open Go.RowKit Go.Proofs.Ytipdkendfcopiaa.Read Go.Proofs.YtipdkendfcopiaaW.PrintWords Go.Proofs.Ytipdkendfcopiaa.Pr
set_option linter.unusedVariables false
theorem empty_list : (⟨#[]⟩ : ByteArray).toList = ([] : List UInt8) := by rw [ByteArray.toList_eq]
theorem drawRoot_ev (s : List Int) (hs : okL okB s) : ∃ l : List S27,(∀ e ∈ l,okR e) ∧ l.length ≤ 400 ∧ Ev (fun k => qjw.f k s) l := by
 obtain ⟨l,p,h,e,hl,_,_,hz⟩ := cur_log s hs 20 (by omega) 0 0 (by omega) (by omega)
 simp only [Int.cast_ofNat_Int] at e
 refine ⟨l,hl,by omega,?_⟩
 simp only [qjw.f,newCur.f,Option.bind_some]
 exact Ev.bind e (Ev.now _)
theorem implRed_ev (t : Int) (who what : ByteArray) (salt cover : List Int) (h1 : okS who) (h2 : okS what) (h3 : isBytes salt) : Ev (fun k => qqw.f k t who what salt cover) (redL t who what salt cover) := by
 simp only [qqw.f]
 refine Ev.bind ⟨_,fun k hk => implGood_eq t who what salt cover h1 h2 k hk⟩ ?_
 have hc := implCoverOf_ev t who what salt cover h1 h2 h3
 unfold redL
 by_cases hg : goodEntry t who what salt cover = true
 ·rw [if_pos hg] at hc
  simp only [if_pos hg]
  exact Ev.bind hc (Ev.now _)
 ·simp only [if_neg hg]
  exact Ev.now _
def redS (e : S27) : S27 := ⟨(redL e.f0 e.f1 e.f2 e.f3 e.f4).1,(redL e.f0 e.f1 e.f2 e.f3 e.f4).2.1,(redL e.f0 e.f1 e.f2 e.f3 e.f4).2.2.1,(redL e.f0 e.f1 e.f2 e.f3 e.f4).2.2.2.1,(redL e.f0 e.f1 e.f2 e.f3 e.f4).2.2.2.2⟩
theorem redL_good {t : Int} {who what : ByteArray} {salt cover : List Int} (h : goodEntry t who what salt cover = true) : redL t who what salt cover = (t,who,⟨#[]⟩,[],coverL what salt cover) := if_pos h
theorem redL_bad {t : Int} {who what : ByteArray} {salt cover : List Int} (h : ¬ goodEntry t who what salt cover = true) : redL t who what salt cover = (0,⟨#[]⟩,⟨#[]⟩,[],[]) := if_neg h
theorem red_texts (t : Int) (who what : ByteArray) (salt cover : List Int) : (redL t who what salt cover).2.2.1 = ⟨#[]⟩ ∧ (redL t who what salt cover).2.2.2.1 = [] := by
 by_cases h : goodEntry t who what salt cover = true
 ·rw [redL_good h];exact ⟨rfl,rfl⟩
 ·rw [redL_bad h];exact ⟨rfl,rfl⟩
theorem red_ok {e : S27} (h : okR e) : okR (redS e) := by
 obtain ⟨h1,h2,h3,h4⟩ := h
 unfold redS
 by_cases hg : goodEntry e.f0 e.f1 e.f2 e.f3 e.f4 = true
 ·rw [redL_good hg]
  have hc : isBytes (coverL e.f2 e.f3 e.f4) := coverL_bytes e.f2 e.f3 h4
  generalize coverL e.f2 e.f3 e.f4 = C at hc
  exact And.intro h1 (And.intro empty_ok (And.intro nil_bytes hc))
 ·rw [redL_bad hg]
  exact And.intro empty_ok (And.intro empty_ok (And.intro nil_bytes nil_bytes))
theorem red_same {e : S27} (hg : goodS e = true) : goodS (redS e) = true ∧ leafS (redS e) = leafS e := by
 unfold goodS at hg ⊢
 unfold leafS redS
 rw [redL_good hg]
 have hl := coverL_len hg
 have hC : coverL (⟨#[]⟩ : ByteArray) [] (coverL e.f2 e.f3 e.f4) = coverL e.f2 e.f3 e.f4 := if_neg (by rw [hl];omega)
 refine ⟨?_,?_⟩
 ·show goodEntry e.f0 e.f1 ⟨#[]⟩ [] (coverL e.f2 e.f3 e.f4) = true
  obtain ⟨g0,g1,g2⟩ := good_who hg
  have hp : prt e.f1 = true := by
   unfold goodEntry at hg
   by_cases hp : prt e.f1 = false
   ·rw [if_neg (by omega),if_neg (by omega),if_neg (by omega),if_pos hp] at hg;cases hg
   ·exact eq_true_of_ne_false hp
  unfold goodEntry
  rw [if_neg (by omega),if_neg (by omega),if_neg (by omega),if_neg (by rw [hp];exact Bool.noConfusion),if_neg (by rw [hl];omega),hl,empty_list]
  rfl
 ·show leafL e.f0 e.f1 ⟨#[]⟩ [] (coverL e.f2 e.f3 e.f4) = leafL e.f0 e.f1 e.f2 e.f3 e.f4
  unfold leafL
  rw [hC]
def isRed (more : List Int) (i : Nat) : Prop := i < more.length ∧ rd more (i : Int) % 2 = 0
instance (more : List Int) (i : Nat) : Decidable (isRed more i) := by unfold isRed;infer_instance
def lessAt (more : List Int) (i : Nat) (e : S27) : S27 := if isRed more i then redS e else e
def lessL (more : List Int) (l : List S27) : List S27 := l.mapIdx (lessAt more)
theorem less_len (more : List Int) (l : List S27) : (lessL more l).length = l.length := by simp [lessL]
theorem less_get (more : List Int) (l : List S27) {i : Nat} (h : i < l.length) : (lessL more l)[i]'(by rw [less_len];exact h) = lessAt more i l[i] := by simp [lessL]
theorem less_ok {more : List Int} {l : List S27} (h : ∀ e ∈ l,okR e) : ∀ e ∈ lessL more l,okR e := by
 intro e he
 obtain ⟨i,hi,rfl⟩ := List.getElem_of_mem he
 rw [less_len] at hi
 rw [less_get more l hi]
 unfold lessAt
 split
 ·exact red_ok (h _ (List.getElem_mem hi))
 ·exact h _ (List.getElem_mem hi)
theorem lessAt_same {more : List Int} {i : Nat} {e : S27} (hg : goodS e = true) : goodS (lessAt more i e) = true ∧ leafS (lessAt more i e) = leafS e := by
 unfold lessAt
 split
 ·exact red_same hg
 ·exact ⟨hg,rfl⟩
theorem less_good {more : List Int} {l : List S27} (h : goodLog l) : goodLog (lessL more l) ∧ (lessL more l).map leafS = l.map leafS := by
 refine ⟨⟨by rw [less_len];exact h.1,fun e he => ?_⟩,?_⟩
 ·obtain ⟨i,hi,rfl⟩ := List.getElem_of_mem he
  rw [less_len] at hi
  rw [less_get more l hi]
  exact (lessAt_same (h.2 _ (List.getElem_mem hi))).1
 ·refine List.ext_getElem (by simp [less_len]) (fun i h1 h2 => ?_)
  rw [List.getElem_map,List.getElem_map]
  have hi : i < l.length := by simpa using h2
  rw [less_get more l hi]
  exact (lessAt_same (h.2 _ (List.getElem_mem hi))).2
theorem less_take {more : List Int} {l : List S27} {i : Nat} (h : i < l.length) : (lessL more l).take i ++ [lessAt more i l[i]] = (lessL more l).take (i + 1) := by
 rw [List.take_succ_eq_append_getElem (by rw [less_len];exact h),less_get more l h]
theorem zBytes_same (l : List Int) : qjj.f l l = some true := by simp [qjj.f]
theorem redacted_end (more : List Int) (l : List S27) (hok : ∀ e ∈ l,okR e) : Ev (fun k => qjz.l0 k more l ((lessL more l).take l.length) l (l.length : Int) (l.length : Int)) true := by
 rw [show (lessL more l).take l.length = lessL more l by rw [← less_len more l,List.take_length]]
 refine Ev.upR ?_
 simp only [qjz.l0,if_neg (show ¬ ((l.length : Int) < (l.length : Int)) by omega)]
 refine Ev.bind (implRootOf_ev l hok) ?_
 refine Ev.bind (specRootOf_ev l hok) ?_
 simp only [zBytes_same,Option.bind_some,if_true]
 by_cases hg : goodLog l
 case neg =>
  rw [show logRoot l = [] from if_neg hg]
  simp only [List.length_nil]
  exact Ev.now _
 have hlen := logRoot_len hg
 obtain ⟨hg2,hsame⟩ := less_good (more := more) hg
 have hr : logRoot (lessL more l) = logRoot l := by
  unfold logRoot
  rw [if_pos hg,if_pos hg2,hsame]
 simp only [if_neg (show ¬ ((logRoot l).length : Int) = 0 by omega)]
 refine Ev.bind (implRootOf_ev (lessL more l) (less_ok hok)) ?_
 rw [hr]
 simp only [zBytes_same,Option.bind_some,if_true]
 by_cases h0 : l.length = 0
 ·simp only [if_pos (show (l.length : Int) = 0 by omega)]
  exact Ev.now _
 obtain ⟨i,hi⟩ : ∃ i : Nat,i = more.length % l.length := ⟨_,rfl⟩
 have hlt : i < l.length := by rw [hi];exact Nat.mod_lt _ (by omega)
 have ei : ((more.length : Int) % (l.length : Int)) = (i : Int) := by rw [hi];rfl
 simp only [if_neg (show ¬ (l.length : Int) = 0 by omega),ei,if_pos (Int.natCast_nonneg i),less_len,if_pos (show (i : Int) < (l.length : Int) by omega),rdT_nat (l := lessL more l) (by rw [less_len];exact hlt)]
 have h200 := hg.1
 have hgi := hg.2 _ (List.getElem_mem hlt)
 have hleaf := implLeafS_ev ((lessL more l)[i]'(by rw [less_len];exact hlt)) (less_ok hok _ (List.getElem_mem _))
 rw [less_get more l hlt] at hleaf ⊢
 rw [if_pos (lessAt_same hgi).1,(lessAt_same hgi).2] at hleaf
 refine Ev.bind hleaf ?_
 refine Ev.bind (implPathOf_ev l hok hg i hlt) ?_
 have hs := sixt_leaves l
 have hp := pathF_six 200 (l.map leafS) i (by rw [List.length_map];exact h200) (by rw [List.length_map];exact h200) (by rw [List.length_map];exact hlt) hs
 have hu := up_path 200 (l.map leafS) i (by rw [List.length_map];exact h200) (by rw [List.length_map];exact h200) (by rw [List.length_map];exact hlt)
 have erd : rd_L2 (l.map leafS) (i : Int) = leafS l[i] := by simp [rd_L2,List.getD_eq_getElem?_getD,List.getElem?_eq_getElem hlt]
 rw [erd,List.length_map] at hu
 have hb : pathBytes (leafS l[i]) (logPath l i) := ⟨leafS_bytes _,fun b hb => (hp b hb).1⟩
 have hbad : bad16 (logPath l i) = false := by
  unfold bad16
  rw [List.any_eq_false]
  intro b hb
  rw [(hp b hb).2]
  decide
 have hpo : pathOk (leafS l[i]) (i : Int) (l.length : Int) (logPath l i) := ⟨by omega,by omega,by omega,by omega,leafS_len _,hbad⟩
 have hcp : xw.f (leafS l[i]) (i : Int) (l.length : Int) (logPath l i) (logRoot l) = some true := by
  unfold xw.f
  rw [if_pos hb]
  unfold pathL
  rw [if_pos hpo]
  unfold logPath
  rw [hu]
  unfold logRoot
  rw [if_pos hg]
  simp
 simp only [hcp,Option.bind_some]
 exact Ev.now _
theorem redacted_l0 (more : List Int) (hm : okL okB more) (l : List S27) (hl : l.length ≤ 100000) (hok : ∀ e ∈ l,okR e) (d : Nat) : ∀ i,i + d = l.length → Ev (fun k => qjz.l0 k more l ((lessL more l).take i) l (l.length : Int) (i : Int)) true := by
 induction d with
 | zero =>
  intro i hi
  obtain rfl : i = l.length := by omega
  exact redacted_end more l hok
 | succ d ih =>
  intro i hi
  have hlt : i < l.length := by omega
  refine Ev.upR ?_
  have ew : wrap64 ((i : Int) + 1) = ((i + 1 : Nat) : Int) := by rw [w64 (by omega) (by omega)];rfl
  have hlen : ((lessL more l).take i).length < 1599289640401 := by rw [List.length_take,less_len];omega
  have hnext := ih (i + 1) (by omega)
  rw [← less_take hlt] at hnext
  have hke := hok _ (List.getElem_mem hlt)
  simp only [qjz.l0,if_pos (show (i : Int) < (l.length : Int) by omega),if_pos (Int.natCast_nonneg i),ew,rdT_nat hlt,if_pos hlen]
  by_cases h1 : i < more.length
  case neg =>
   simp only [if_neg (show ¬ (i : Int) < (more.length : Int) by omega)]
   rw [show lessAt more i l[i] = l[i] from if_neg (fun h => h1 h.1)] at hnext
   exact hnext
  have hb : 0 ≤ rd more (i : Int) := by
   rw [rd_nat h1]
   exact (hm.2 _ (List.getElem_mem h1)).1
  have et : Int.tmod (rd more (i : Int)) 2 = rd more (i : Int) % 2 := Int.tmod_eq_emod_of_nonneg hb
  simp only [if_pos (show (i : Int) < (more.length : Int) by omega),et]
  by_cases h2 : rd more (i : Int) % 2 = 0
  case neg =>
   simp only [if_neg h2]
   rw [show lessAt more i l[i] = l[i] from if_neg (fun h => h2 h.2)] at hnext
   exact hnext
  simp only [if_pos h2]
  refine Ev.bind (implRed_ev l[i].f0 l[i].f1 l[i].f2 l[i].f3 l[i].f4 hke.1 hke.2.1 hke.2.2.1) ?_
  obtain ⟨q1,q2⟩ := red_texts l[i].f0 l[i].f1 l[i].f2 l[i].f3 l[i].f4
  rw [show lessAt more i l[i] = redS l[i] from if_pos ⟨h1,h2⟩] at hnext
  unfold redS at hnext
  rw [q1,q2] at hnext ⊢
  simp only [if_pos empty_list,List.length_nil,if_neg (show ¬ (((0 : Nat) : Int) > 0) by omega)]
  exact hnext
theorem FnRedacted : qjz.Pure := by
 intro code more hc hm
 by_cases hbig : (code.length : Int) > 1048576
 ·exact ⟨0,by simp only [qjz.f,if_pos hbig]⟩
 by_cases hbig2 : (more.length : Int) > 1048576
 ·exact ⟨0,by simp only [qjz.f,if_neg hbig,if_pos hbig2]⟩
 obtain ⟨l,hok,hz,hdraw⟩ := drawRoot_ev code hc
 apply Ev.rounds
 simp only [qjz.f,if_neg hbig,if_neg hbig2]
 refine Ev.bind hdraw ?_
 exact redacted_l0 more hm l (by omega) hok l.length 0 (by omega)
end Go.Proofs.Ytipdkendfcopiaa.Pure
namespace Go.Proofs.Ytipdkendfcopiaa.fnRedacted
open Go.ChangeShapes Go.WideShapes Go.ChangeAt Go.RowKit Go.Proofs.Ytipdkendfcopiaa.Read Go.Proofs.YtipdkendfcopiaaW.PrintWords Go.Proofs.Ytipdkendfcopiaa.Pr
open Go.ChangeMaps (open_string shut_string)
set_option linter.unusedVariables false
theorem own : ownKnob Try.prog.godebug = none := by kernel_rfl
theorem laidOut : laidOutB Try.prog = true := by kernel_rfl
set_option maxRecDepth 100000 in
theorem lifted (os : Os) (started : os.Started) (H : Type) (enc : TypeId × Value → H) :
  ReturnsInHanded {} Try.checked os 14 .any (Rows.fnRedactedSpec.pre6 enc Try.prog Try.f14 Rows.fnRedactedRow.domain false) (Rows.fnRedactedSpec.post enc Try.prog Try.f14 false true false false) := by
 refine returnsInHanded_of_change (C := Try.checked) own started (by kernel_rfl) Try.func14
  (ChangeSpec.witness6 (enc := enc) (C := Try.checked) false ⟨#[],#[.slice none 0 0,.slice none 0 0],[]⟩ 8 (by kernel_rfl) (by kernel_rfl) (by kernel_rfl) (by kernel_rfl)) ?_
 intro W base args ds gs before hval0 hW hcnd _
 have hval : ∀ (j : Nat) t v,Try.f14.params[j]? = some t → args[j]? = some v → Value.okWide Try.prog W .any base t v := hval0
 have hW' := hW
 obtain ⟨p,q,hA0,hV,rfl,hfz,hnd⟩ := hW
 have hA : DataW.TrodAll enc Try.prog W 0 (fun _ => true) true Try.f14.params.toList args.toList ds p := hA0
 rw [Try.params14] at hA hval
 obtain ⟨v0,vs0,d0,ds0,p0,q0,hargs,rfl,rfl,h0,r0⟩ := trodAll_cons hA
 obtain ⟨v1,vs1,d1,ds1,p1,q1,rfl,rfl,rfl,h1,r1⟩ := trodAll_cons r0
 obtain ⟨rfl,rfl,rfl⟩ := trodAll_nil r1
 obtain rfl : args = #[v0,v1] := by cases args;simp_all
 obtain ⟨rfl,rfl⟩ := trodVars_none hV
 have lt0 : ∀ x ∈ p0,x.block < W.heap.size := by obtain ⟨m,hm⟩ := h0;exact DataW.trod_lt m _ _ _ hm
 have bk0 := fun {W' : World} (bel : Below W.heap.size W W') => Below.trod laidOut (by kernel_rfl) (of_decide_eq_true (by kernel_rfl)) h0 bel lt0
 obtain ⟨A0,c0,l0,rfl,hl0,hC0,o0⟩ := arg_slice Try.underlying22 (tellsL Try.underlying22 (by kernel_rfl) (tellsB Try.underlying5 (by kernel_rfl))) (hval 0 22 v0 rfl rfl) h0
 have lt1 : ∀ x ∈ p1,x.block < W.heap.size := by obtain ⟨m,hm⟩ := h1;exact DataW.trod_lt m _ _ _ hm
 have bk1 := fun {W' : World} (bel : Below W.heap.size W W') => Below.trod laidOut (by kernel_rfl) (of_decide_eq_true (by kernel_rfl)) h1 bel lt1
 obtain ⟨A1,c1,l1,rfl,hl1,hC1,o1⟩ := arg_slice Try.underlying22 (tellsL Try.underlying22 (by kernel_rfl) (tellsB Try.underlying5 (by kernel_rfl))) (hval 1 22 v1 rfl rfl) h1
 obtain ⟨k,hk⟩ := Pure.FnRedacted l0 l1 o0 o1
 refine (qjz.calls k _ _ l0 _ _ l1 true W hC0 hl0 hC1 hl1 hk).mono fun e W' hpost => ?_
 obtain ⟨he,hb⟩ := hpost
 have bel : Below W.heap.size W W' := hb
 subst he
 exact ⟨_,rfl,_,_,_,[],_,[],hW',trodAll_mk1 (shut_bool Try.underlying4 _),(trodAll_cons_mk (bk0 bel) (trodAll_cons_mk (bk1 bel) trodAll_mk0)),rfl,bel.frame _,fun h => by cases h⟩
theorem over : Rows.fnRedactedRow.holds Try.pinned (OpenSpec.ofChange Rows.fnRedactedSpec) :=
 OpenClaim.holds_of_wide 14 Try.f14 rfl rfl rfl rfl rfl rfl rfl ⟨rfl,rfl,rfl,rfl,rfl⟩ rfl rfl rfl rfl rfl (by kernel_rfl) Try.func14 (by kernel_rfl)
  (of_decide_eq_true (by kernel_rfl)) (by unfold Func.isWrapper;first | (rw [if_pos (by decide +kernel)];kernel_rfl) | (rw [if_neg (by decide +kernel)];exact ⟨rfl,rfl⟩))
  (fun os started H enc _ => lifted os started H enc)
theorem proved : Rows.FnRedactedSaid := over
#print axioms proved
end Go.Proofs.Ytipdkendfcopiaa.fnRedacted
namespace Go.Proofs.Ytipdkendfcopiaa
theorem fnRedacted_holds : Rows.FnRedactedSaid := fnRedacted.proved
end Go.Proofs.Ytipdkendfcopiaa
