/- Printed texts, walks and plain facts that the law FnExactBridgeOf leans on, joined. -/
import Derived.Test.YtipdkendfcopiaaFullFnExactBridgeOfC
namespace Go.Proofs.Ytipdkendfcopiaa.Pr
open Go.RowKit Go.Proofs.YtipdkendfcopiaaW.PrintWords Go.Proofs.YtipdkendfcopiaaW.PrintLast Go.Proofs.YtipdkendfcopiaaW.PrintMore
attribute [local go_sem] max2_int min2_int max_two min_two max_three min_three max_four min_four
set_option linter.unusedVariables false
set_option linter.unusedSimpArgs false
def qqj.l0 : Nat → List (List Int) → List (S27) → Int → Int → Option ((List (List Int)) × Bool)
 | 0,_,_,_,_ => none
 | k + 1,x4,x11,x12,x13 => if x13 < x12 then (if 0 ≤ x13 then (if x13 < (x11.length : Int) then ((xk.f k ((wj x11 x13).f0) ((wj x11 x13).f1) ((wj x11 x13).f2) ((wj x11 x13).f3) ((wj x11 x13).f4)).bind fun t103 => ((nilS.f t103).bind fun t106 => (if t106 = true then (some (([] : List (List Int)),false)) else (if x4.length < 5864062014805 then (qqj.l0 k (x4 ++ [t103]) x11 x12 (wrap64 (x13 + 1))) else (none))))) else (none)) else (none)) else (some (x4,true))
def qqj.f (k : Nat) (l0 : List (S27)) : Option ((List (List Int)) × Bool) := if (l0.length : Int) > 200 then (some (([] : List (List Int)),false)) else (qqj.l0 k ([] : List (List Int)) l0 (l0.length : Int) 0)
set_option maxHeartbeats 8000000 in
set_option maxRecDepth 100000 in
theorem qqj.calls (k : Nat) (A0 : Option Addr) (c0 : Nat) (l0 : List (S27)) (r1 : List (List Int)) (r2 : Bool) (w : World) (hr0 : Kd.C k27 w A0 l0.length l0) (hc0 : l0.length ≤ c0) (h : qqj.f k l0 = some (r1,r2)) :
  Calls Try.prog 82 #[.slice A0 l0.length c0] w fun e w' => ∃ v0_ : Value,e = .returned (.tuple #[v0_,.bool r2]) ∧ Kd.S (Kd.slice 5 (Kd.int .u8)) 22 w' w.heap.size (fun _ => True) v0_ r1 ∧ Below w.heap.size w w' := by
 have hu27 := Try.underlying27
 have HR0 := qq.mk hr0
 have HC0 := qq.mk hc0
 clear hr0 hc0
 have HB := qq.mk (Below.refl w.heap.size w)
 have H : (if (l0.length : Int) > 200 then (some (([] : List (List Int)),false)) else (qqj.l0 k ([] : List (List Int)) l0 (l0.length : Int) 0)) = some (r1,r2) := h
 clear h
 by_cases c2 : (l0.length : Int) > 200
 ·rw [if_pos c2] at H
  have c2b0 : decide (200 < (l0.length : Int)) = true := decide_eq_true c2
  have c2b1 : decide (200 < l0.length) = true := decide_eq_true (by omega)
  clear c2
  simp only [Option.some.injEq,Prod.mk.injEq] at H
  obtain ⟨rfl,rfl⟩ := H
  have heqnil_ := eqlnil
  go_enter Try.func82,Try.ntmps82
  go_wp2
  go_ret2
  exact ⟨_,by first | rfl | (simp [*,jk,jj] <;> rfl),by first | exact Kd.S_nil _ _ _ _ _ | exact Kd.N_nil _ _ _ _ _ | exact Kd.V_nil _ _ _ _ _ | exact Kd.Q_nil _ _ _ _ _ | exact Kd.R_nil _ _ _ _ _,by repeat (first | (with_reducible first | exact HB.out | apply qj | apply qz | apply qk) | exact HB.out)⟩
 ·rw [if_neg c2] at H
  have c2b0 : decide (200 < (l0.length : Int)) = false := decide_eq_false c2
  have c2b1 : decide (200 < l0.length) = false := decide_eq_false (by omega)
  clear c2
  have H' := qq.mk H
  clear H
  have heqnil_ := eqlnil
  go_enter Try.func82,Try.ntmps82
  go_wp2
  go_loopg [4,13] k (fun kq v4 v13 w' => ∃ (x4_1 : List (List Int)) (x13_1 : Int),v13 = .int .i64 x13_1 ∧ qq (qqj.l0 kq x4_1 l0 (l0.length : Int) x13_1 = some (r1,r2)) ∧ qq (kq ≤ k) ∧ qq (Kd.S (Kd.slice 5 (Kd.int .u8)) 22 w' w.heap.size (fun _ => True) v4 x4_1) ∧ qq (Below w.heap.size w w'))
  case atStart => exact ⟨(([] : List (List Int))),(0),(by first | rfl | (simp;done) | (simp [*];done)),H',⟨Nat.le_refl _⟩,⟨by first | exact Kd.S_nil _ _ _ _ _ | exact Kd.N_nil _ _ _ _ _ | exact Kd.V_nil _ _ _ _ _ | exact Kd.Q_nil _ _ _ _ _ | exact Kd.R_nil _ _ _ _ _⟩,⟨by repeat (first | (with_reducible first | exact HB.out | apply qj | apply qz | apply qk) | exact HB.out)⟩⟩
  case round =>
   clear H'
   try clear c2
   try clear c2b0
   try clear c2b1
   try clear p2
   obtain ⟨x4_1,x13_1,rfl,HA,HK1,HO_4,HB⟩ := hrel
   cases gk with
   | zero => exact absurd HA.out (by simp [qqj.l0])
   | succ k1 =>
    have H := HA.out
    clear HA
    simp only [qqj.l0] at H
    by_cases c3 : x13_1 < (l0.length : Int)
    ·rw [if_pos c3] at H
     have c3b0 : decide (x13_1 < (l0.length : Int)) = true := decide_eq_true c3
     clear c3
     by_cases c4 : 0 ≤ x13_1
     ·rw [if_pos c4] at H
      have c4b0 : decide (0 ≤ x13_1) = true := decide_eq_true c4
      clear c4
      by_cases c5 : x13_1 < (l0.length : Int)
      ·rw [if_pos c5] at H
       have c5b0 : decide (x13_1 < (l0.length : Int)) = true := decide_eq_true c5
       clear c5
       replace H := Option.bind_eq_some_iff.mp H
       obtain ⟨t103,A60,H⟩ := H
       replace H : ((nilS.f t103).bind fun t106 => (if t106 = true then (some (([] : List (List Int)),false)) else (if x4_1.length < 5864062014805 then (qqj.l0 k1 (x4_1 ++ [t103]) l0 (l0.length : Int) (wrap64 (x13_1 + 1))) else (none)))) = some (r1,r2) := H
       have A6 := qq.mk A60
       clear A60
       replace H := Option.bind_eq_some_iff.mp H
       obtain ⟨t106,A70,H⟩ := H
       replace H : (if t106 = true then (some (([] : List (List Int)),false)) else (if x4_1.length < 5864062014805 then (qqj.l0 k1 (x4_1 ++ [t103]) l0 (l0.length : Int) (wrap64 (x13_1 + 1))) else (none))) = some (r1,r2) := H
       have A7 := qq.mk A70
       clear A70
       by_cases c8 : t106 = true
       ·subst c8
        have H1 : (some (([] : List (List Int)),false)) = some (r1,r2) := by rw [if_pos rfl] at H;exact H
        clear H
        have H := H1
        clear H1
        simp only [Option.some.injEq,Prod.mk.injEq] at H
        obtain ⟨rfl,rfl⟩ := H
        have p101 : 0 ≤ (x13_1 : Int) := of_decide_eq_true (by assumption)
        have q101 : x13_1 < (l0.length : Int) := of_decide_eq_true (by assumption)
        obtain ⟨ad101,A101_3,c101_3,A101_4,c101_4,e101,hx101_0,hx101_1,hx101_2,hx101_3,hx101_4,hl101_3,hi101_3,hl101_4,hi101_4⟩ := at_T27 HR0.out x13_1 p101 q101
        cases e101
        replace hx101_0 := (HB.out.cell (World.block_lt_of_cell? w _ hx101_0)).trans hx101_0
        replace hx101_1 := (HB.out.cell (World.block_lt_of_cell? w _ hx101_1)).trans hx101_1
        replace hx101_2 := (HB.out.cell (World.block_lt_of_cell? w _ hx101_2)).trans hx101_2
        replace hx101_3 := (HB.out.cell (World.block_lt_of_cell? w _ hx101_3)).trans hx101_3
        replace hx101_4 := (HB.out.cell (World.block_lt_of_cell? w _ hx101_4)).trans hx101_4
        have HR101_3 := qq.mk hi101_3
        have HC101_3 := qq.mk hl101_3
        clear hi101_3 hl101_3
        have HR101_4 := qq.mk hi101_4
        have HC101_4 := qq.mk hl101_4
        clear hi101_4 hl101_4
        replace p101 := eq_true p101
        replace q101 := eq_true q101
        go_wp2_with (first | ((with_reducible refine gate_dst (N := 6) rfl ?_);refine box_event ?hg (N := 6) ?hd (cs := #[.int .i64 0,.string (⟨#[]⟩ : ByteArray),.string (⟨#[]⟩ : ByteArray),.slice none 0 0,.slice none 0 0]) (t := 27) ?hr ?_;(case hd => rfl);(case hg => rfl);(case hr => first | (go_simp;done) | (go_simp;rfl));intro gb102 hg w9 hbox hb;have n0_ := qq.mk (Kd.S_below (by (with_reducible repeat (first | apply Kd.kx | apply Kd.kw | apply Kd.vq));exact HO_4.out) hb);have n1_ := qq.mk (zv (by repeat (first | (with_reducible first | exact HB.out | apply qj | apply qz | apply qk) | exact HB.out)) hb);have n2_ := qq.mk (hbox);have n3_ := qq.mk ((by rw [hg];exact (zw (by repeat (first | (with_reducible first | exact HB.out | apply qj | apply qz | apply qk) | exact HB.out))) : w.heap.size ≤ gb102));have n4_ := qq.mk ((by rw [hg];exact (zw (by repeat (first | (with_reducible first | exact HB.out | apply qj | apply qz | apply qk) | exact HB.out))) : w.heap.size ≤ gb102));clear HO_4;clear HB;have HO_4 := n0_;have HB := n1_;have BK102 := n2_;have GW102 := n3_;have GE102 := n4_;clear n0_ n1_ n2_ n3_ n4_;clear hb hbox hg;have hcz10_0 : w9.cell? ⟨gb102,0,none⟩ = some (.int .i64 0) := (qw BK102.out 0).trans rfl;have hcz10_1 : w9.cell? ⟨gb102,1,none⟩ = some (.string (⟨#[]⟩ : ByteArray)) := (qw BK102.out 1).trans rfl;have hcz10_2 : w9.cell? ⟨gb102,2,none⟩ = some (.string (⟨#[]⟩ : ByteArray)) := (qw BK102.out 2).trans rfl;have hcz10_3 : w9.cell? ⟨gb102,3,none⟩ = some (.slice none 0 0) := (qw BK102.out 3).trans rfl;have hcz10_4 : w9.cell? ⟨gb102,4,none⟩ = some (.slice none 0 0) := (qw BK102.out 4).trans rfl;have hfz10_0 := qv BK102.out 0;have hfz10_1 := qv BK102.out 1;have hfz10_2 := qv BK102.out 2;have hfz10_3 := qv BK102.out 3;have hfz10_4 := qv BK102.out 4) | ((with_reducible refine jv (f := 29) rfl ?_);refine goesL_ (some 18) rfl rfl Try.func29 (by kernel_rfl) rfl #[.agg #[.int .i64 ((wj l0 x13_1).f0),.string ((wj l0 x13_1).f1),.string ((wj l0 x13_1).f2),.slice A101_3 ((wj l0 x13_1).f3).length c101_3,.slice A101_4 ((wj l0 x13_1).f4).length c101_4]] rfl (by (try simp only [List.map_toArray,List.map_cons,List.map_nil]);first | done | rfl | (simp only [List.length_drop,List.length_take];rfl)) ?_;(with_reducible refine (xk.callsN k1 ((wj l0 x13_1).f0) ((wj l0 x13_1).f1) ((wj l0 x13_1).f2) _ _ ((wj l0 x13_1).f3) _ _ ((wj l0 x13_1).f4) t103 _ ?side1 ?side2 ?side3 ?side4 A6.out).mono ?_);(case side1 => exact Kd.C_below HR101_3.out (by repeat (first | (with_reducible first | exact HB.out | apply qj | apply qz | apply qk | refine qx ?_ GE102.out) | exact HB.out)));(case side2 => exact HC101_3.out);(case side3 => exact Kd.C_below HR101_4.out (by repeat (first | (with_reducible first | exact HB.out | apply qj | apply qz | apply qk | refine qx ?_ GE102.out) | exact HB.out)));(case side4 => exact HC101_4.out);rintro e w11 ⟨v104,rfl,hn0,ho0,hb⟩;refine ⟨_,rfl,?_⟩;have n0_ := qq.mk (Kd.S_elder' (by (with_reducible repeat (first | apply Kd.kx | apply Kd.kw | apply Kd.vq));exact (Kd.S_mono (Kd.S_far (p := ⟨gb102,4,none⟩) (Kd.S_far (p := ⟨gb102,3,none⟩) (Kd.S_far (p := ⟨gb102,2,none⟩) (Kd.S_far (p := ⟨gb102,1,none⟩) (Kd.S_far (p := ⟨gb102,0,none⟩) (Kd.S_types HO_4.out BK102.out (by decide)) (fun _ hk => hk.2) (.int .i64 ((wj l0 x13_1).f0))) (fun _ hk => hk.2) (.string ((wj l0 x13_1).f1))) (fun _ hk => hk.2) (.string ((wj l0 x13_1).f2))) (fun _ hk => hk.2) (.slice A101_3 ((wj l0 x13_1).f3).length c101_3)) (fun _ hk => hk.2) (.slice A101_4 ((wj l0 x13_1).f4).length c101_4)) (fun _ h_ => h_.1))) (Kd.R_base ho0) hb);have n1_ := qq.mk (Kd.R_lower ho0 (zw (by repeat (first | (with_reducible first | exact HB.out | apply qj | apply qz | apply qk | refine qx ?_ GE102.out) | exact HB.out))));have n2_ := qq.mk (vw (g := gb102) (o := .cells #[.int .i64 ((wj l0 x13_1).f0),.string ((wj l0 x13_1).f1),.string ((wj l0 x13_1).f2),.slice A101_3 ((wj l0 x13_1).f3).length c101_3,.slice A101_4 ((wj l0 x13_1).f4).length c101_4] 27 (0,0)) (by (with_reducible repeat (first | refine zz ?_ _ | refine zj ?_ | refine zq ?_ _));refine blk_put (cs := #[.int .i64 ((wj l0 x13_1).f0),.string ((wj l0 x13_1).f1),.string ((wj l0 x13_1).f2),.slice A101_3 ((wj l0 x13_1).f3).length c101_3,.slice none 0 0]) ?_ 4 _ rfl;(with_reducible repeat (first | refine zz ?_ _ | refine zj ?_ | refine zq ?_ _));refine blk_put (cs := #[.int .i64 ((wj l0 x13_1).f0),.string ((wj l0 x13_1).f1),.string ((wj l0 x13_1).f2),.slice none 0 0,.slice none 0 0]) ?_ 3 _ rfl;(with_reducible repeat (first | refine zz ?_ _ | refine zj ?_ | refine zq ?_ _));refine blk_put (cs := #[.int .i64 ((wj l0 x13_1).f0),.string ((wj l0 x13_1).f1),.string (⟨#[]⟩ : ByteArray),.slice none 0 0,.slice none 0 0]) ?_ 2 _ rfl;(with_reducible repeat (first | refine zz ?_ _ | refine zj ?_ | refine zq ?_ _));refine blk_put (cs := #[.int .i64 ((wj l0 x13_1).f0),.string (⟨#[]⟩ : ByteArray),.string (⟨#[]⟩ : ByteArray),.slice none 0 0,.slice none 0 0]) ?_ 1 _ rfl;(with_reducible repeat (first | refine zz ?_ _ | refine zj ?_ | refine zq ?_ _));refine blk_put (cs := #[.int .i64 0,.string (⟨#[]⟩ : ByteArray),.string (⟨#[]⟩ : ByteArray),.slice none 0 0,.slice none 0 0]) ?_ 0 _ rfl;(with_reducible repeat (first | refine zz ?_ _ | refine zj ?_ | refine zq ?_ _));exact BK102.out) hb);have n3_ := qq.mk (zv (by repeat (first | (with_reducible first | exact HB.out | apply qj | apply qz | apply qk | refine qx ?_ GE102.out) | exact HB.out)) hb);clear HO_4;clear BK102;clear HB;have HO_4 := n0_;have HO105 := n1_;have BK102 := n2_;have HB := n3_;clear n0_ n1_ n2_ n3_;(try clear hb);(try clear hb2);(try clear hk);(try clear hi);(try clear ho0);obtain ⟨Ao12,co12,eo12⟩ := Kd.R_slice HO105.out;subst eo12;have hAAo12 := nil_is hn0 A7.out;clear hn0) | ((with_reducible refine jv (f := 158) rfl ?_);refine goesL_ (some 20) rfl rfl Try.func158 (by kernel_rfl) rfl #[.slice Ao12 t103.length co12] rfl (by (try simp only [List.map_toArray,List.map_cons,List.map_nil]);first | done | rfl | (simp only [List.length_drop,List.length_take];rfl)) ?_;(with_reducible refine (nilS.calls _ _ t103 true _ ?side1 ?side2 A7.out).mono ?_);(case side1 => repeat (first | exact (Kd.R_reads' HO105.out).2.2 | (with_reducible refine Kd.C_alloc ?_ _) | (with_reducible refine Kd.C_drewN ?_ _) | (with_reducible refine Kd.C_drew ?_)));(case side2 => exact (Kd.R_reads' HO105.out).2.1);rintro e w' ⟨rfl,⟨nd,rfl⟩⟩;refine ⟨_,rfl,?_⟩))
        go_ret2
        exact ⟨_,by first | rfl | (simp [*,jk,jj] <;> rfl),by first | exact Kd.S_nil _ _ _ _ _ | exact Kd.N_nil _ _ _ _ _ | exact Kd.V_nil _ _ _ _ _ | exact Kd.Q_nil _ _ _ _ _ | exact Kd.R_nil _ _ _ _ _,by repeat (first | (with_reducible first | exact HB.out | apply qj | apply qz | apply qk | refine qx ?_ GE102.out) | exact HB.out)⟩
       ·replace c8 := Bool.eq_false_iff.mpr c8
        subst c8
        have H1 : (if x4_1.length < 5864062014805 then (qqj.l0 k1 (x4_1 ++ [t103]) l0 (l0.length : Int) (wrap64 (x13_1 + 1))) else (none)) = some (r1,r2) := by rw [if_neg (show ¬ (false = true) by decide)] at H;exact H
        clear H
        have H := H1
        clear H1
        by_cases c13 : x4_1.length < 5864062014805
        ·rw [if_pos c13] at H
         have LMc13 := qq.mk c13
         clear c13
         obtain ⟨y107,hy107⟩ : ∃ y_ : List (List Int),y_ = (x4_1 ++ [t103]) := ⟨_,rfl⟩
         replace H : (qqj.l0 k1 y107 l0 (l0.length : Int) (wrap64 (x13_1 + 1))) = some (r1,r2) := by first | (rw [hy107];with_reducible exact H) | (have H2_ := (Option.bind_some _ _).symm.trans H;rw [hy107];with_reducible exact H2_) | (have H2_ := (Option.bind_some _ _).symm.trans H;with_reducible exact H2_) | with_reducible exact H | (rw [hy107];exact H) | exact H
         have Ny107 := qq.mk hy107
         clear hy107
         have H' := qq.mk H
         clear H
         have p101 : 0 ≤ (x13_1 : Int) := of_decide_eq_true (by assumption)
         have q101 : x13_1 < (l0.length : Int) := of_decide_eq_true (by assumption)
         obtain ⟨ad101,A101_3,c101_3,A101_4,c101_4,e101,hx101_0,hx101_1,hx101_2,hx101_3,hx101_4,hl101_3,hi101_3,hl101_4,hi101_4⟩ := at_T27 HR0.out x13_1 p101 q101
         cases e101
         replace hx101_0 := (HB.out.cell (World.block_lt_of_cell? w _ hx101_0)).trans hx101_0
         replace hx101_1 := (HB.out.cell (World.block_lt_of_cell? w _ hx101_1)).trans hx101_1
         replace hx101_2 := (HB.out.cell (World.block_lt_of_cell? w _ hx101_2)).trans hx101_2
         replace hx101_3 := (HB.out.cell (World.block_lt_of_cell? w _ hx101_3)).trans hx101_3
         replace hx101_4 := (HB.out.cell (World.block_lt_of_cell? w _ hx101_4)).trans hx101_4
         have HR101_3 := qq.mk hi101_3
         have HC101_3 := qq.mk hl101_3
         clear hi101_3 hl101_3
         have HR101_4 := qq.mk hi101_4
         have HC101_4 := qq.mk hl101_4
         clear hi101_4 hl101_4
         replace p101 := eq_true p101
         replace q101 := eq_true q101
         go_wp2_with (first | ((with_reducible refine gate_dst (N := 6) rfl ?_);refine box_event ?hg (N := 6) ?hd (cs := #[.int .i64 0,.string (⟨#[]⟩ : ByteArray),.string (⟨#[]⟩ : ByteArray),.slice none 0 0,.slice none 0 0]) (t := 27) ?hr ?_;(case hd => rfl);(case hg => rfl);(case hr => first | (go_simp;done) | (go_simp;rfl));intro gb102 hg w14 hbox hb;have n0_ := qq.mk (Kd.S_below (by (with_reducible repeat (first | apply Kd.kx | apply Kd.kw | apply Kd.vq));exact HO_4.out) hb);have n1_ := qq.mk (zv (by repeat (first | (with_reducible first | exact HB.out | apply qj | apply qz | apply qk) | exact HB.out)) hb);have n2_ := qq.mk (hbox);have n3_ := qq.mk ((by rw [hg];exact (zw (by repeat (first | (with_reducible first | exact HB.out | apply qj | apply qz | apply qk) | exact HB.out))) : w.heap.size ≤ gb102));have n4_ := qq.mk ((by rw [hg];exact (zw (by repeat (first | (with_reducible first | exact HB.out | apply qj | apply qz | apply qk) | exact HB.out))) : w.heap.size ≤ gb102));clear HO_4;clear HB;have HO_4 := n0_;have HB := n1_;have BK102 := n2_;have GW102 := n3_;have GE102 := n4_;clear n0_ n1_ n2_ n3_ n4_;clear hb hbox hg;have hcz15_0 : w14.cell? ⟨gb102,0,none⟩ = some (.int .i64 0) := (qw BK102.out 0).trans rfl;have hcz15_1 : w14.cell? ⟨gb102,1,none⟩ = some (.string (⟨#[]⟩ : ByteArray)) := (qw BK102.out 1).trans rfl;have hcz15_2 : w14.cell? ⟨gb102,2,none⟩ = some (.string (⟨#[]⟩ : ByteArray)) := (qw BK102.out 2).trans rfl;have hcz15_3 : w14.cell? ⟨gb102,3,none⟩ = some (.slice none 0 0) := (qw BK102.out 3).trans rfl;have hcz15_4 : w14.cell? ⟨gb102,4,none⟩ = some (.slice none 0 0) := (qw BK102.out 4).trans rfl;have hfz15_0 := qv BK102.out 0;have hfz15_1 := qv BK102.out 1;have hfz15_2 := qv BK102.out 2;have hfz15_3 := qv BK102.out 3;have hfz15_4 := qv BK102.out 4) | ((with_reducible refine jv (f := 29) rfl ?_);refine goesL_ (some 18) rfl rfl Try.func29 (by kernel_rfl) rfl #[.agg #[.int .i64 ((wj l0 x13_1).f0),.string ((wj l0 x13_1).f1),.string ((wj l0 x13_1).f2),.slice A101_3 ((wj l0 x13_1).f3).length c101_3,.slice A101_4 ((wj l0 x13_1).f4).length c101_4]] rfl (by (try simp only [List.map_toArray,List.map_cons,List.map_nil]);first | done | rfl | (simp only [List.length_drop,List.length_take];rfl)) ?_;(with_reducible refine (xk.callsN k1 ((wj l0 x13_1).f0) ((wj l0 x13_1).f1) ((wj l0 x13_1).f2) _ _ ((wj l0 x13_1).f3) _ _ ((wj l0 x13_1).f4) t103 _ ?side1 ?side2 ?side3 ?side4 A6.out).mono ?_);(case side1 => exact Kd.C_below HR101_3.out (by repeat (first | (with_reducible first | exact HB.out | apply qj | apply qz | apply qk | refine qx ?_ GE102.out) | exact HB.out)));(case side2 => exact HC101_3.out);(case side3 => exact Kd.C_below HR101_4.out (by repeat (first | (with_reducible first | exact HB.out | apply qj | apply qz | apply qk | refine qx ?_ GE102.out) | exact HB.out)));(case side4 => exact HC101_4.out);rintro e w16 ⟨v104,rfl,hn0,ho0,hb⟩;refine ⟨_,rfl,?_⟩;have n0_ := qq.mk (Kd.S_elder' (by (with_reducible repeat (first | apply Kd.kx | apply Kd.kw | apply Kd.vq));exact (Kd.S_mono (Kd.S_far (p := ⟨gb102,4,none⟩) (Kd.S_far (p := ⟨gb102,3,none⟩) (Kd.S_far (p := ⟨gb102,2,none⟩) (Kd.S_far (p := ⟨gb102,1,none⟩) (Kd.S_far (p := ⟨gb102,0,none⟩) (Kd.S_types HO_4.out BK102.out (by decide)) (fun _ hk => hk.2) (.int .i64 ((wj l0 x13_1).f0))) (fun _ hk => hk.2) (.string ((wj l0 x13_1).f1))) (fun _ hk => hk.2) (.string ((wj l0 x13_1).f2))) (fun _ hk => hk.2) (.slice A101_3 ((wj l0 x13_1).f3).length c101_3)) (fun _ hk => hk.2) (.slice A101_4 ((wj l0 x13_1).f4).length c101_4)) (fun _ h_ => h_.1))) (Kd.R_base ho0) hb);have n1_ := qq.mk (Kd.R_lower ho0 (zw (by repeat (first | (with_reducible first | exact HB.out | apply qj | apply qz | apply qk | refine qx ?_ GE102.out) | exact HB.out))));have n2_ := qq.mk (vw (g := gb102) (o := .cells #[.int .i64 ((wj l0 x13_1).f0),.string ((wj l0 x13_1).f1),.string ((wj l0 x13_1).f2),.slice A101_3 ((wj l0 x13_1).f3).length c101_3,.slice A101_4 ((wj l0 x13_1).f4).length c101_4] 27 (0,0)) (by (with_reducible repeat (first | refine zz ?_ _ | refine zj ?_ | refine zq ?_ _));refine blk_put (cs := #[.int .i64 ((wj l0 x13_1).f0),.string ((wj l0 x13_1).f1),.string ((wj l0 x13_1).f2),.slice A101_3 ((wj l0 x13_1).f3).length c101_3,.slice none 0 0]) ?_ 4 _ rfl;(with_reducible repeat (first | refine zz ?_ _ | refine zj ?_ | refine zq ?_ _));refine blk_put (cs := #[.int .i64 ((wj l0 x13_1).f0),.string ((wj l0 x13_1).f1),.string ((wj l0 x13_1).f2),.slice none 0 0,.slice none 0 0]) ?_ 3 _ rfl;(with_reducible repeat (first | refine zz ?_ _ | refine zj ?_ | refine zq ?_ _));refine blk_put (cs := #[.int .i64 ((wj l0 x13_1).f0),.string ((wj l0 x13_1).f1),.string (⟨#[]⟩ : ByteArray),.slice none 0 0,.slice none 0 0]) ?_ 2 _ rfl;(with_reducible repeat (first | refine zz ?_ _ | refine zj ?_ | refine zq ?_ _));refine blk_put (cs := #[.int .i64 ((wj l0 x13_1).f0),.string (⟨#[]⟩ : ByteArray),.string (⟨#[]⟩ : ByteArray),.slice none 0 0,.slice none 0 0]) ?_ 1 _ rfl;(with_reducible repeat (first | refine zz ?_ _ | refine zj ?_ | refine zq ?_ _));refine blk_put (cs := #[.int .i64 0,.string (⟨#[]⟩ : ByteArray),.string (⟨#[]⟩ : ByteArray),.slice none 0 0,.slice none 0 0]) ?_ 0 _ rfl;(with_reducible repeat (first | refine zz ?_ _ | refine zj ?_ | refine zq ?_ _));exact BK102.out) hb);have n3_ := qq.mk (zv (by repeat (first | (with_reducible first | exact HB.out | apply qj | apply qz | apply qk | refine qx ?_ GE102.out) | exact HB.out)) hb);clear HO_4;clear BK102;clear HB;have HO_4 := n0_;have HO105 := n1_;have BK102 := n2_;have HB := n3_;clear n0_ n1_ n2_ n3_;(try clear hb);(try clear hb2);(try clear hk);(try clear hi);(try clear ho0);obtain ⟨Ao17,co17,eo17⟩ := Kd.R_slice HO105.out;subst eo17;have hAAo17 := nil_isnt HO105.out A7.out;clear hn0) | ((with_reducible refine jv (f := 158) rfl ?_);refine goesL_ (some 20) rfl rfl Try.func158 (by kernel_rfl) rfl #[.slice Ao17 t103.length co17] rfl (by (try simp only [List.map_toArray,List.map_cons,List.map_nil]);first | done | rfl | (simp only [List.length_drop,List.length_take];rfl)) ?_;(with_reducible refine (nilS.calls _ _ t103 false _ ?side1 ?side2 A7.out).mono ?_);(case side1 => repeat (first | exact (Kd.R_reads' HO105.out).2.2 | (with_reducible refine Kd.C_alloc ?_ _) | (with_reducible refine Kd.C_drewN ?_ _) | (with_reducible refine Kd.C_drew ?_)));(case side2 => exact (Kd.R_reads' HO105.out).2.1);rintro e w' ⟨rfl,⟨nd,rfl⟩⟩;refine ⟨_,rfl,?_⟩) | ((with_reducible refine gate_builtin (b := .append) (xs := #[.tmp 21,.tmp 23]) rfl ?_);at_builtin;refine Kd.S_append (Kd.slice 5 (Kd.int .u8)) (w0 := w) w.heap.size rfl (.tmp 21) (.tmp 23) 44 22 (.slice none 0 0) 24 rfl Try.underlying44 info22 rfl (by decide) (by omega) u4 x4_1 t103 [.slice Ao17 t103.length co17] (fun _ => True) (fun k_ => some k_ = (.slice Ao17 t103.length co17 : Value).ownBlock) rfl rfl ?aP (fun k_ hk_ => ((Kd.R_mono (ok' := fun k_ => ((fun _ => True)) k_ ∧ some k_ ≠ (u4 : Value).ownBlock) (Kd.R_apart' (HO105.out) (Kd.S_typed HO_4.out) (by decide)) (fun k_ hk => ⟨trivial,hk.2⟩))).1 k_ hk_.symm) ?aF ?aO ?aB ?aS ?aL ?_;(case aP => exact Kd.M_row (Kd.R_mono (Kd.R_tight rfl (Kd.R_mono (ok' := fun k_ => ((fun _ => True)) k_ ∧ some k_ ≠ (u4 : Value).ownBlock) (Kd.R_apart' (HO105.out) (Kd.S_typed HO_4.out) (by decide)) (fun k_ hk => ⟨trivial,hk.2⟩))) (fun _ h_ => h_)));(case aB => exact (by repeat (first | (with_reducible first | exact HB.out | apply qj | apply qz | apply qk | refine qx ?_ GE102.out) | exact HB.out)));(case aF => exact (fun _ _ => trivial));(case aO => exact (by (with_reducible repeat (first | apply Kd.kx | apply Kd.kw | apply Kd.vq));exact Kd.S_mono HO_4.out (fun k_ hk => ⟨trivial,fun e_ => hk.2 e_⟩)));(case aS => exact (zw (by repeat (first | (with_reducible first | exact HB.out | apply qj | apply qz | apply qk | refine qx ?_ GE102.out) | exact HB.out))));(case aL => have := LMc13.out;omega);intro v108 w18 ho hb hg hat;rw [← Ny107.out] at ho;have n0_ := qq.mk (blk_grown (g := gb102) (o := .cells #[.int .i64 ((wj l0 x13_1).f0),.string ((wj l0 x13_1).f1),.string ((wj l0 x13_1).f2),.slice A101_3 ((wj l0 x13_1).f3).length c101_3,.slice A101_4 ((wj l0 x13_1).f4).length c101_4] 27 (0,0)) (by (with_reducible repeat (first | refine zz ?_ _ | refine zj ?_ | refine zq ?_ _));exact BK102.out) hg (Kd.S_ne HO_4.out BK102.out (by decide)));have n1_ := qq.mk (hb);have n2_ := qq.mk (ho);clear BK102;clear HB;clear HO_4;clear HO105;have BK102 := n0_;have HB := n1_;have HO109 := n2_;clear n0_ n1_ n2_;clear ho hb hg hat))
         go_roundg k1
         case measure => have := HK1.out;omega
         case rel => exact ⟨(y107),(wrap64 (x13_1 + 1)),(by first | rfl | (simp;done) | (simp [*];done)),H',⟨by have := HK1.out;omega⟩,⟨by (with_reducible repeat (first | apply Kd.kx | apply Kd.kw | apply Kd.vq));exact HO109.out⟩,⟨by repeat (first | (with_reducible first | exact HB.out | apply qj | apply qz | apply qk | refine qx ?_ GE102.out) | exact HB.out)⟩⟩
        ·rw [if_neg c13] at H
         exact absurd H (by simp)
      ·rw [if_neg c5] at H
       exact absurd H (by simp)
     ·rw [if_neg c4] at H
      exact absurd H (by simp)
    ·rw [if_neg c3] at H
     have c3b0 : decide (x13_1 < (l0.length : Int)) = false := decide_eq_false c3
     clear c3
     simp only [Option.some.injEq,Prod.mk.injEq] at H
     obtain ⟨rfl,rfl⟩ := H
     go_wp2
     go_ret2
     exact ⟨_,by first | rfl | (simp [*,jk,jj] <;> rfl),by (with_reducible repeat (first | apply Kd.kx | apply Kd.kw | apply Kd.vq));exact HO_4.out,by repeat (first | (with_reducible first | exact HB.out | apply qj | apply qz | apply qk) | exact HB.out)⟩
def qqz.l0 : Nat → Int → Int → Option (Int)
 | 0,_,_ => none
 | k + 1,x0,x3 => if (wrap64 (x3 * 2)) < x0 then (qqz.l0 k x0 (wrap64 (x3 * 2))) else (some x3)
def qqz.f (k : Nat) (a0 : Int) : Option (Int) := qqz.l0 k a0 1
theorem qqz.mono_l : ∀ k,(∀ y0 y1,LeO (qqz.l0 k y0 y1) (qqz.l0 (k + 1) y0 y1))
 | 0 => fun _ _ r h => by simp [qqz.l0] at h
 | k + 1 => by
  have ih0 := qqz.mono_l k
  ·intro y0 y1
   unfold qqz.l0
   repeat' first
   | (with_reducible exact ih0 _ _)
   | (with_reducible exact LeO.refl _)
   | (with_reducible exact LeO.none _)
   | (with_reducible refine LeO.ite ?_ ?_)
   | (with_reducible refine LeO.bind ?_ (fun _ => ?_))
   | exact ih0 _ _
   | exact LeO.none _
   | refine LeO.ite ?_ ?_
   | refine LeO.bind ?_ (fun _ => ?_)
theorem qqz.mono : ∀ a0 k,LeO (qqz.f k a0) (qqz.f (k + 1) a0) := by
 intro a0 k
 have ih0 := qqz.mono_l k
 unfold qqz.f
 repeat' first
   | (with_reducible exact ih0 _ _)
   | (with_reducible exact LeO.refl _)
   | (with_reducible exact LeO.none _)
   | (with_reducible refine LeO.ite ?_ ?_)
   | (with_reducible refine LeO.bind ?_ (fun _ => ?_))
   | exact ih0 _ _
   | exact LeO.none _
   | refine LeO.ite ?_ ?_
   | refine LeO.bind ?_ (fun _ => ?_)
set_option maxHeartbeats 8000000 in
set_option maxRecDepth 100000 in
theorem qqz.calls (k : Nat) (a0 : Int) (r : Int) (w : World) (h : qqz.f k a0 = some r) :
  Calls Try.prog 121 #[.int .i64 a0] w fun e w' => e = .returned (.int .i64 r) ∧ Drawn0 w w' := by
 have H : (qqz.l0 k a0 1) = some r := h
 clear h
 have H' := qq.mk H
 clear H
 go_enter Try.func121,Try.ntmps121
 go_wp2
 go_loopg [3] k (fun kq v3 w' => ∃ (x3_1 : Int),v3 = .int .i64 x3_1 ∧ qq (qqz.l0 kq a0 x3_1 = some r) ∧ qq (kq ≤ k) ∧ Drawn0 w w')
 case atStart => exact ⟨(1),(by first | rfl | (simp;done) | (simp [*];done)),H',⟨Nat.le_refl _⟩,by repeat (first | exact Drawn0.refl _ | apply Drawn0.step)⟩
 case round =>
  clear H'
  try clear c1
  obtain ⟨x3_1,rfl,HA,HK1,⟨m1,rfl⟩⟩ := hrel
  cases gk with
  | zero => exact absurd HA.out (by simp [qqz.l0])
  | succ k1 =>
   have H := HA.out
   clear HA
   simp only [qqz.l0] at H
   by_cases c2 : (wrap64 (x3_1 * 2)) < a0
   ·rw [if_pos c2] at H
    have c2b0 : decide ((wrap64 (x3_1 * 2)) < a0) = true := decide_eq_true c2
    clear c2
    have H' := qq.mk H
    clear H
    go_wp2
    go_roundg k1
    case measure => have := HK1.out;omega
    case rel => exact ⟨(wrap64 (x3_1 * 2)),(by first | rfl | (simp;done) | (simp [*];done)),H',⟨by have := HK1.out;omega⟩,by repeat (first | exact Drawn0.refl _ | apply Drawn0.step)⟩
   ·rw [if_neg c2] at H
    have c2b0 : decide ((wrap64 (x3_1 * 2)) < a0) = false := decide_eq_false c2
    clear c2
    obtain rfl := Option.some.inj H
    go_wp2
    go_ret
    exact ⟨by first | rfl | (simp;done) | (simp [*];done),by repeat (first | exact Drawn0.refl _ | apply Drawn0.step)⟩
def xw.f (l0 : List Int) (l1 : List Int) : Option (List Int) := (qkq.f (([(([1] : List Int)),l0,l1] : List (List Int)))).bind fun t107 => ((xz.f t107).bind fun t110 => (some t110))
set_option maxHeartbeats 8000000 in
set_option maxRecDepth 100000 in
theorem xw.calls (P0_ : Nat → Prop) (A0 : Option Addr) (c0 : Nat) (l0 : List Int) (P1_ : Nat → Prop) (A1 : Option Addr) (c1 : Nat) (l1 : List Int) (r : List Int) (w : World) (hs0 : Kd.V (Kd.int .u8) 5 w w.heap.size (fun k_ => P0_ k_) (.slice A0 l0.length c0) l0) (hs1 : Kd.V (Kd.int .u8) 5 w w.heap.size (fun k_ => P1_ k_) (.slice A1 l1.length c1) l1) (h : xw.f l0 l1 = some r) :
  Calls Try.prog 122 #[.slice A0 l0.length c0,.slice A1 l1.length c1] w fun e w' => ∃ v0_ : Value,e = .returned (v0_) ∧ Kd.R (Kd.int .u8) 5 w' w.heap.size (fun k_ => (w.heap.size ≤ k_)) v0_ r ∧ Below w.heap.size w w' := by
 have HO0 := qq.mk (show Kd.V (Kd.int .u8) 5 w w.heap.size (fun k_ => ((P0_ k_ ∨ P1_ k_) ∨ w.heap.size ≤ k_)) (.slice A0 l0.length c0) l0 from Kd.V_mono hs0 (fun k_ hk => .inl (.inl hk)))
 have HO1 := qq.mk (show Kd.V (Kd.int .u8) 5 w w.heap.size (fun k_ => ((P0_ k_ ∨ P1_ k_) ∨ w.heap.size ≤ k_)) (.slice A1 l1.length c1) l1 from Kd.V_mono hs1 (fun k_ hk => .inl (.inr hk)))
 have HB := qq.mk (Below.refl w.heap.size w)
 have H : ((qkq.f (([(([1] : List Int)),l0,l1] : List (List Int)))).bind fun t107 => ((xz.f t107).bind fun t110 => (some t110))) = some r := h
 clear h
 obtain ⟨y101,hy101⟩ : ∃ y_ : List Int,y_ = (([1] : List Int)) := ⟨_,rfl⟩
 replace H : ((qkq.f (([y101,l0,l1] : List (List Int)))).bind fun t107 => ((xz.f t107).bind fun t110 => (some t110))) = some r := by first | (rw [hy101];with_reducible exact H) | (have H2_ := (Option.bind_some _ _).symm.trans H;rw [hy101];with_reducible exact H2_) | (have H2_ := (Option.bind_some _ _).symm.trans H;with_reducible exact H2_) | with_reducible exact H | (rw [hy101];exact H) | exact H
 have Ny101 := qq.mk hy101
 clear hy101
 obtain ⟨y104,hy104⟩ : ∃ y_ : List (List Int),y_ = (([y101,l0,l1] : List (List Int))) := ⟨_,rfl⟩
 replace H : ((qkq.f y104).bind fun t107 => ((xz.f t107).bind fun t110 => (some t110))) = some r := by first | (rw [hy104];with_reducible exact H) | (have H2_ := (Option.bind_some _ _).symm.trans H;rw [hy104];with_reducible exact H2_) | (have H2_ := (Option.bind_some _ _).symm.trans H;with_reducible exact H2_) | with_reducible exact H | (rw [hy104];exact H) | exact H
 have Ny104 := qq.mk hy104
 clear hy104
 replace H := Option.bind_eq_some_iff.mp H
 obtain ⟨t107,A30,H⟩ := H
 replace H : ((xz.f t107).bind fun t110 => (some t110)) = some r := H
 have A3 := qq.mk A30
 clear A30
 replace H := Option.bind_eq_some_iff.mp H
 obtain ⟨t110,A40,H⟩ := H
 replace H : (some t110) = some r := H
 have A4 := qq.mk A40
 clear A40
 obtain rfl := Option.some.inj H
 go_enter Try.func122,Try.ntmps122
 go_wp2_with (first | ((with_reducible refine gate_dst (N := 5) rfl ?_);refine Kd.R_lit (Kd.int .u8) _ 5 ?hg (N := 5) ?hd (xs := ([1] : List Int)) (inner := [.int .u8 1]) (ok := fun _ => True) (okp := fun _ => True) ?hr ?hp (fun _ hk => hk) trivial (Below.refl _ _) (Nat.le_refl _) (by simp) ?_;(case hd => rfl);(case hg => rfl);(case hr => first | (go_simp;done) | (go_simp;rfl));(case hp => exact (Reps.one (show Kd.M (Kd.int .u8) _ _ _ 1 [.int .u8 1] from rfl) (Reps.none _ _)));intro v102 w5 ho6 hb hg_ hnew_;clear hg_ hnew_;(first | rw [← Ny101.out] at ho6 | (simp only [Int.reduceToNat] at ho6;rw [← Ny101.out] at ho6));have n0_ := qq.mk (Kd.V_elder' (by (with_reducible repeat (first | apply Kd.vk | apply Kd.vz | apply Kd.vv));exact HO0.out) (Kd.R_base ho6) hb);have n1_ := qq.mk (Kd.V_elder' (by (with_reducible repeat (first | apply Kd.vk | apply Kd.vz | apply Kd.vv));exact HO1.out) (Kd.R_base ho6) hb);have n2_ := qq.mk (Kd.R_lower (Kd.R_newM (M := fun k_ => (w.heap.size ≤ k_)) ho6 (zw (by repeat (first | (with_reducible first | exact HB.out | apply qj | apply qz | apply qk) | exact HB.out))) (fun k_ h_ => h_)) (zw (by repeat (first | (with_reducible first | exact HB.out | apply qj | apply qz | apply qk) | exact HB.out))));have n3_ := qq.mk (zv (by repeat (first | (with_reducible first | exact HB.out | apply qj | apply qz | apply qk) | exact HB.out)) hb);clear HO0;clear HO1;clear HB;have HO0 := n0_;have HO1 := n1_;have HO103 := n2_;have HB := n3_;clear n0_ n1_ n2_ n3_;clear hb ho6;obtain ⟨Ao7,co7,eo7⟩ := Kd.R_slice HO103.out;subst eo7) | ((with_reducible refine gate_dst (N := 8) rfl ?_);refine Kd.N_lit (Kd.slice 5 (Kd.int .u8)) _ 22 ?hg (N' := 8) ?hd (xs := ([y101,l0,l1] : List (List Int))) (inner := [.slice Ao7 y101.length co7,.slice A0 l0.length c0,.slice A1 l1.length c1]) (ok := (fun k_ => ((P0_ k_ ∨ P1_ k_) ∨ w.heap.size ≤ k_))) (okp := (fun k_ => ((P0_ k_ ∨ P1_ k_) ∨ w.heap.size ≤ k_))) ?hr ?hp (fun _ hk => hk) ((show ∀ k_,w5.heap.size ≤ k_ → (fun k_ => ((P0_ k_ ∨ P1_ k_) ∨ w.heap.size ≤ k_)) k_ from fun k_ hk => (.inr (Nat.le_trans (zw (by repeat (first | (with_reducible first | exact HB.out | apply qj | apply qz | apply qk) | exact HB.out))) hk))) _ (Nat.le_refl _)) (Below.refl _ _) (Nat.le_refl _) (by simp) ?_;(case hd => rfl);(case hg => rfl);(case hr => first | (go_simp;done) | (go_simp;rfl));(case hp => exact (Reps.one (show Kd.FK (Kd.slice 5 (Kd.int .u8)) _ _ y101 [.slice Ao7 y101.length co7] from (Kd.FK_slice_mk (Kd.R_reads' (Kd.R_mono (ok' := (fun k_ => ((P0_ k_ ∨ P1_ k_) ∨ w.heap.size ≤ k_))) (HO103.out) (fun k_ hk => (.inr (hk.1))))).2.1 (Kd.R_F (Kd.R_mono (ok' := (fun k_ => ((P0_ k_ ∨ P1_ k_) ∨ w.heap.size ≤ k_))) (HO103.out) (fun k_ hk => (.inr (hk.1))))))) (Reps.one (show Kd.FK (Kd.slice 5 (Kd.int .u8)) _ _ l0 [.slice A0 l0.length c0] from (Kd.FK_slice_mk (Kd.V_reads' (Kd.V_mono (ok' := (fun k_ => ((P0_ k_ ∨ P1_ k_) ∨ w.heap.size ≤ k_))) (HO0.out) (fun k_ hk => hk.1))).2.1 (Kd.V_F (Kd.V_mono (ok' := (fun k_ => ((P0_ k_ ∨ P1_ k_) ∨ w.heap.size ≤ k_))) (HO0.out) (fun k_ hk => hk.1))))) (Reps.one (show Kd.FK (Kd.slice 5 (Kd.int .u8)) _ _ l1 [.slice A1 l1.length c1] from (Kd.FK_slice_mk (Kd.V_reads' (Kd.V_mono (ok' := (fun k_ => ((P0_ k_ ∨ P1_ k_) ∨ w.heap.size ≤ k_))) (HO1.out) (fun k_ hk => hk.1))).2.1 (Kd.V_F (Kd.V_mono (ok' := (fun k_ => ((P0_ k_ ∨ P1_ k_) ∨ w.heap.size ≤ k_))) (HO1.out) (fun k_ hk => hk.1))))) (Reps.none _ _)))));intro v105 w8 ho9 hb hg_ hnew_;clear hg_ hnew_;(first | rw [← Ny104.out] at ho9 | (simp only [Int.reduceToNat] at ho9;rw [← Ny104.out] at ho9));have n0_ := qq.mk (Kd.V_elder' (by (with_reducible repeat (first | apply Kd.vk | apply Kd.vz | apply Kd.vv));exact HO0.out) (Kd.N_base ho9) hb);have n1_ := qq.mk (Kd.V_elder' (by (with_reducible repeat (first | apply Kd.vk | apply Kd.vz | apply Kd.vv));exact HO1.out) (Kd.N_base ho9) hb);have n2_ := qq.mk (Kd.N_lower ho9 (zw (by repeat (first | (with_reducible first | exact HB.out | apply qj | apply qz | apply qk) | exact HB.out))));have n3_ := qq.mk (zv (by repeat (first | (with_reducible first | exact HB.out | apply qj | apply qz | apply qk) | exact HB.out)) hb);clear HO0;clear HO1;clear HB;clear HO103;have HO0 := n0_;have HO1 := n1_;have HO106 := n2_;have HB := n3_;clear n0_ n1_ n2_ n3_;clear hb ho9;obtain ⟨Ao10,co10,eo10⟩ := Kd.N_slice HO106.out;subst eo10) | ((with_reducible refine jv (f := 78) rfl ?_);refine goesL_ (some 9) rfl rfl Try.func78 (by kernel_rfl) rfl #[.slice Ao10 y104.length co10] rfl (by (try simp only [List.map_toArray,List.map_cons,List.map_nil]);first | done | rfl | (simp only [List.length_drop,List.length_take];rfl)) ?_;(with_reducible refine (qkq.calls _ _ y104 t107 _ ?side1 ?side2 A3.out).mono ?_);(case side1 => repeat (first | exact (Kd.N_reads' HO106.out).2.2 | (with_reducible refine Kd.C_alloc ?_ _) | (with_reducible refine Kd.C_drewN ?_ _) | (with_reducible refine Kd.C_drew ?_)));(case side2 => exact (Kd.N_reads' HO106.out).2.1);rintro e w11 ⟨v108,rfl,ho0,hb⟩;refine ⟨_,rfl,?_⟩;have n0_ := qq.mk (Kd.V_elder' (by (with_reducible repeat (first | apply Kd.vk | apply Kd.vz | apply Kd.vv));exact HO0.out) (Kd.R_base ho0) hb);have n1_ := qq.mk (Kd.V_elder' (by (with_reducible repeat (first | apply Kd.vk | apply Kd.vz | apply Kd.vv));exact HO1.out) (Kd.R_base ho0) hb);have n2_ := qq.mk (Kd.N_elder' (by (with_reducible repeat (first | apply Kd.kk | apply Kd.kj | apply Kd.kv));exact HO106.out) (Kd.R_base ho0) hb);have n3_ := qq.mk (Kd.R_lower (Kd.R_newM (M := fun k_ => (w.heap.size ≤ k_)) ho0 (zw (by repeat (first | (with_reducible first | exact HB.out | apply qj | apply qz | apply qk) | exact HB.out))) (fun k_ h_ => h_)) (zw (by repeat (first | (with_reducible first | exact HB.out | apply qj | apply qz | apply qk) | exact HB.out))));have n4_ := qq.mk (zv (by repeat (first | (with_reducible first | exact HB.out | apply qj | apply qz | apply qk) | exact HB.out)) hb);clear HO0;clear HO1;clear HO106;clear HB;have HO0 := n0_;have HO1 := n1_;have HO106 := n2_;have HO109 := n3_;have HB := n4_;clear n0_ n1_ n2_ n3_ n4_;(try clear hb);(try clear hb2);(try clear hk);(try clear hi);(try clear ho0);obtain ⟨Ao12,co12,eo12⟩ := Kd.R_slice HO109.out;subst eo12) | ((with_reducible refine jv (f := 77) rfl ?_);refine goesL_ (some 10) rfl rfl Try.func77 (by kernel_rfl) rfl #[.slice Ao12 t107.length co12] rfl (by (try simp only [List.map_toArray,List.map_cons,List.map_nil]);first | done | rfl | (simp only [List.length_drop,List.length_take];rfl)) ?_;(with_reducible refine (xz.calls _ _ t107 t110 _ ?side1 ?side2 A4.out).mono ?_);(case side1 => repeat (first | exact (Kd.R_reads' HO109.out).2.2 | (with_reducible refine Kd.C_alloc ?_ _) | (with_reducible refine Kd.C_drewN ?_ _) | (with_reducible refine Kd.C_drew ?_)));(case side2 => exact (Kd.R_reads' HO109.out).2.1);rintro e w13 ⟨v111,rfl,ho0,hb⟩;refine ⟨_,rfl,?_⟩;have n0_ := qq.mk (Kd.V_elder' (by (with_reducible repeat (first | apply Kd.vk | apply Kd.vz | apply Kd.vv));exact HO0.out) (Kd.R_base ho0) hb);have n1_ := qq.mk (Kd.V_elder' (by (with_reducible repeat (first | apply Kd.vk | apply Kd.vz | apply Kd.vv));exact HO1.out) (Kd.R_base ho0) hb);have n2_ := qq.mk (Kd.N_elder' (by (with_reducible repeat (first | apply Kd.kk | apply Kd.kj | apply Kd.kv));exact HO106.out) (Kd.R_base ho0) hb);have n3_ := qq.mk (Kd.R_elder' (by (with_reducible repeat (first | apply Kd.jq | apply Kd.zx | apply Kd.jz));exact HO109.out) (Kd.R_base ho0) hb);have n4_ := qq.mk (Kd.R_lower (Kd.R_new' (Kd.R_newM (M := fun k_ => (w.heap.size ≤ k_)) ho0 (zw (by repeat (first | (with_reducible first | exact HB.out | apply qj | apply qz | apply qk) | exact HB.out))) (fun k_ h_ => h_)) (Kd.R_lt (by (with_reducible repeat (first | apply Kd.jq | apply Kd.zx | apply Kd.jz));exact HO109.out))) (zw (by repeat (first | (with_reducible first | exact HB.out | apply qj | apply qz | apply qk) | exact HB.out))));have n5_ := qq.mk (zv (by repeat (first | (with_reducible first | exact HB.out | apply qj | apply qz | apply qk) | exact HB.out)) hb);clear HO0;clear HO1;clear HO106;clear HO109;clear HB;have HO0 := n0_;have HO1 := n1_;have HO106 := n2_;have HO109 := n3_;have HO112 := n4_;have HB := n5_;clear n0_ n1_ n2_ n3_ n4_ n5_;(try clear hb);(try clear hb2);(try clear hk);(try clear hi);(try clear ho0)))
 go_ret
 exact ⟨_,by first | rfl | (simp [*,jk,jj] <;> rfl),by (with_reducible repeat (first | apply Kd.jq | apply Kd.zx | apply Kd.jz));exact Kd.R_mono HO112.out (fun _ hk => hk.1.1),by repeat (first | (with_reducible first | exact HB.out | apply qj | apply qz | apply qk) | exact HB.out)⟩
def qqv.f : Nat → List (List Int) → Option (List Int)
 | 0,_ => none
 | k + 1,l0 => if (l0.length : Int) = 0 then ((xz.f ([] : List Int)).bind fun t101 => (some t101)) else (if (l0.length : Int) = 1 then (if 0 < (l0.length : Int) then ((wk.f (rd_L2 l0 0)).bind fun t105 => (some t105)) else (none)) else ((qqz.f k (l0.length : Int)).bind fun t108 => (if 0 ≤ t108 then (if t108 ≤ (l0.length : Int) then ((qqv.f k (l0.take (t108 : Int).toNat)).bind fun t113 => ((qqv.f k (l0.drop (t108 : Int).toNat)).bind fun t120 => ((xw.f t113 t120).bind fun t123 => (some t123)))) else (none)) else (none))))
def qqv.T7 : Bool × List (List Nat × List Nat) := (true,[([],[]),([],[]),([0,1],[0,1]),([2],[2]),([],[]),([],[]),([4,5],[4,5]),([6,3],[6]),([3,7,7],[3,7]),([8,8,0,1,2,3,4,5,6,7,8],[8])])
def qqv.B7 : List Nat := [0,0,3,7,0,0,48,127,255,511]
theorem qqv.tab7 : rtab .any (opsOf Try.f83 7) = qqv.T7 := by kernel_rfl
theorem qqv.bits7 : waitsOk qqv.T7.2 qqv.B7 = true := by kernel_rfl
set_option maxHeartbeats 8000000 in
set_option maxRecDepth 100000 in
theorem qqv.calls (k : Nat) : ∀ (A0 : Option Addr) (c0 : Nat) (l0 : List (List Int)) (r : List Int) (w : World) (hr0 : Kd.C (Kd.slice 5 (Kd.int .u8)) w A0 l0.length l0) (hc0 : l0.length ≤ c0) (h : qqv.f k l0 = some r),
  Calls Try.prog 83 #[.slice A0 l0.length c0] w fun e w' => ∃ v0_ : Value,e = .returned (v0_) ∧ Kd.R (Kd.int .u8) 5 w' w.heap.size (fun _ => True) v0_ r ∧ Below w.heap.size w w' := by
 induction k using Nat.strongRecOn with
 | _ k ih =>
 intro A0 c0 l0 r w hr0 hc0 h
 cases k with
 | zero => exact absurd h (by simp [qqv.f])
 | succ k =>
 simp only [qqv.f] at h
 have HR0 := qq.mk hr0
 have HC0 := qq.mk hc0
 clear hr0 hc0
 have HB := qq.mk (Below.refl w.heap.size w)
 have H : (if (l0.length : Int) = 0 then ((xz.f ([] : List Int)).bind fun t101 => (some t101)) else (if (l0.length : Int) = 1 then (if 0 < (l0.length : Int) then ((wk.f (rd_L2 l0 0)).bind fun t105 => (some t105)) else (none)) else ((qqz.f k (l0.length : Int)).bind fun t108 => (if 0 ≤ t108 then (if t108 ≤ (l0.length : Int) then ((qqv.f k (l0.take (t108 : Int).toNat)).bind fun t113 => ((qqv.f k (l0.drop (t108 : Int).toNat)).bind fun t120 => ((xw.f t113 t120).bind fun t123 => (some t123)))) else (none)) else (none))))) = some r := h
 clear h
 by_cases c2 : (l0.length : Int) = 0
 ·rw [if_pos c2] at H
  have c2b0 : ((l0.length : Int) == 0) = true := beq_iff_eq.mpr c2
  have c2b1 : ((l0.length : Int) != 0) = false := bne_eq_false_iff_eq.mpr c2
  clear c2
  replace H := Option.bind_eq_some_iff.mp H
  obtain ⟨t101,A30,H⟩ := H
  replace H : (some t101) = some r := H
  have A3 := qq.mk A30
  clear A30
  obtain rfl := Option.some.inj H
  go_enter Try.func83,Try.ntmps83
  go_wp2_with (first | ((with_reducible refine jv (f := 77) rfl ?_);refine goesL_ (some 8) rfl rfl Try.func77 (by kernel_rfl) rfl #[.slice none 0 0] rfl (by (try simp only [List.map_toArray,List.map_cons,List.map_nil]);first | done | rfl | (simp only [List.length_drop,List.length_take];rfl)) ?_;(refine (xz.calls _ _ ([] : List Int) t101 _ ?side1 ?side2 A3.out).mono ?_);(case side1 => exact Kd.C_nil _ _);(case side2 => exact Nat.le_refl _);rintro e w4 ⟨v102,rfl,ho0,hb⟩;refine ⟨_,rfl,?_⟩;have n0_ := qq.mk (Kd.R_lower ho0 (zw (by repeat (first | (with_reducible first | exact HB.out | apply qj | apply qz | apply qk) | exact HB.out))));have n1_ := qq.mk (zv (by repeat (first | (with_reducible first | exact HB.out | apply qj | apply qz | apply qk) | exact HB.out)) hb);clear HB;have HO103 := n0_;have HB := n1_;clear n0_ n1_;(try clear hb);(try clear hb2);(try clear hk);(try clear hi);(try clear ho0)))
  go_ret
  exact ⟨_,by first | rfl | (simp [*,jk,jj] <;> rfl),by (with_reducible repeat (first | apply Kd.jq | apply Kd.zx | apply Kd.jz));exact HO103.out,by repeat (first | (with_reducible first | exact HB.out | apply qj | apply qz | apply qk) | exact HB.out)⟩
 ·rw [if_neg c2] at H
  have c2b0 : ((l0.length : Int) == 0) = false := beq_eq_false_iff_ne.mpr c2
  have c2b1 : ((l0.length : Int) != 0) = true := bne_iff_ne.mpr c2
  have c2b2 : ¬ (l0 = []) := fun h_ => c2 (by rw [h_];rfl)
  by_cases c5 : (l0.length : Int) = 1
  ·rw [if_pos c5] at H
   have c5b0 : ((l0.length : Int) == 1) = true := beq_iff_eq.mpr c5
   have c5b1 : ((l0.length : Int) != 1) = false := bne_eq_false_iff_eq.mpr c5
   clear c5
   by_cases c6 : 0 < (l0.length : Int)
   ·rw [if_pos c6] at H
    have c6b0 : decide (0 < (l0.length : Int)) = true := decide_eq_true c6
    have c6b1 : decide (0 < l0.length) = true := decide_eq_true (by omega)
    clear c6
    replace H := Option.bind_eq_some_iff.mp H
    obtain ⟨t105,A70,H⟩ := H
    replace H : (some t105) = some r := H
    have A7 := qq.mk A70
    clear A70
    obtain rfl := Option.some.inj H
    have p104 : 0 ≤ (0 : Int) := (by omega)
    have q104 : 0 < (l0.length : Int) := of_decide_eq_true (by assumption)
    obtain ⟨ad104,A104_0,c104_0,e104,hx104_0,hl104_0,hi104_0⟩ := at_L2 HR0.out 0 p104 q104
    cases e104
    have qi104 : (0 < l0.length) = True := eq_true (by omega)
    (try rw [show ((0 : Int)).toNat = 0 from rfl] at hx104_0)
    (try rw [Addr.add_zero'] at hx104_0)
    have HR104_0 := qq.mk hi104_0
    have HC104_0 := qq.mk hl104_0
    clear hi104_0 hl104_0
    replace p104 := eq_true p104
    replace q104 := eq_true q104
    go_enter Try.func83,Try.ntmps83
    go_wp2_with (first | ((with_reducible refine jv (f := 74) rfl ?_);refine goesL_ (some 14) rfl rfl Try.func74 (by kernel_rfl) rfl #[.slice A104_0 (rd_L2 l0 0).length c104_0] rfl (by (try simp only [List.map_toArray,List.map_cons,List.map_nil]);first | done | rfl | (simp only [List.length_drop,List.length_take];rfl)) ?_;(with_reducible refine (wk.calls _ _ (rd_L2 l0 0) t105 _ ?side1 ?side2 A7.out).mono ?_);(case side1 => repeat (first | exact HR104_0.out | (with_reducible refine Kd.C_alloc ?_ _) | (with_reducible refine Kd.C_drewN ?_ _) | (with_reducible refine Kd.C_drew ?_)));(case side2 => exact HC104_0.out);rintro e w8 ⟨v106,rfl,ho0,hb⟩;refine ⟨_,rfl,?_⟩;have n0_ := qq.mk (Kd.R_lower ho0 (zw (by repeat (first | (with_reducible first | exact HB.out | apply qj | apply qz | apply qk) | exact HB.out))));have n1_ := qq.mk (zv (by repeat (first | (with_reducible first | exact HB.out | apply qj | apply qz | apply qk) | exact HB.out)) hb);clear HB;have HO107 := n0_;have HB := n1_;clear n0_ n1_;(try clear hb);(try clear hb2);(try clear hk);(try clear hi);(try clear ho0)))
    go_ret
    exact ⟨_,by first | rfl | (simp [*,jk,jj] <;> rfl),by (with_reducible repeat (first | apply Kd.jq | apply Kd.zx | apply Kd.jz));exact HO107.out,by repeat (first | (with_reducible first | exact HB.out | apply qj | apply qz | apply qk) | exact HB.out)⟩
   ·rw [if_neg c6] at H
    exact absurd H (by simp)
  ·rw [if_neg c5] at H
   have c5b0 : ((l0.length : Int) == 1) = false := beq_eq_false_iff_ne.mpr c5
   have c5b1 : ((l0.length : Int) != 1) = true := bne_iff_ne.mpr c5
   replace H := Option.bind_eq_some_iff.mp H
   obtain ⟨t108,A90,H⟩ := H
   replace H : (if 0 ≤ t108 then (if t108 ≤ (l0.length : Int) then ((qqv.f k (l0.take (t108 : Int).toNat)).bind fun t113 => ((qqv.f k (l0.drop (t108 : Int).toNat)).bind fun t120 => ((xw.f t113 t120).bind fun t123 => (some t123)))) else (none)) else (none)) = some r := H
   have A9 := qq.mk A90
   clear A90
   by_cases c10 : 0 ≤ t108
   ·rw [if_pos c10] at H
    have c10b0 := eq_true c10
    have c10b1 : decide (0 ≤ t108) = true := decide_eq_true c10
    clear c10
    by_cases c11 : t108 ≤ (l0.length : Int)
    ·rw [if_pos c11] at H
     have c11b0 := eq_true c11
     have c11b1 : decide (t108 ≤ (l0.length : Int)) = true := decide_eq_true c11
     clear c11
     obtain ⟨y109,hy109⟩ : ∃ y_ : List (List Int),y_ = (l0.take (t108 : Int).toNat) := ⟨_,rfl⟩
     replace H : ((qqv.f k y109).bind fun t113 => ((qqv.f k (l0.drop (t108 : Int).toNat)).bind fun t120 => ((xw.f t113 t120).bind fun t123 => (some t123)))) = some r := by first | (rw [hy109];with_reducible exact H) | (have H2_ := (Option.bind_some _ _).symm.trans H;rw [hy109];with_reducible exact H2_) | (have H2_ := (Option.bind_some _ _).symm.trans H;with_reducible exact H2_) | with_reducible exact H | (rw [hy109];exact H) | exact H
     have Ny109 := qq.mk hy109
     clear hy109
     replace H := Option.bind_eq_some_iff.mp H
     obtain ⟨t113,A120,H⟩ := H
     replace H : ((qqv.f k (l0.drop (t108 : Int).toNat)).bind fun t120 => ((xw.f t113 t120).bind fun t123 => (some t123))) = some r := H
     have A12 := qq.mk A120
     clear A120
     have c13b0 := eq_true (of_decide_eq_true (by assumption) : 0 ≤ t108)
     have c14b0 := eq_true (of_decide_eq_true (by assumption) : t108 ≤ (l0.length : Int))
     obtain ⟨y116,hy116⟩ : ∃ y_ : List (List Int),y_ = (l0.drop (t108 : Int).toNat) := ⟨_,rfl⟩
     replace H : ((qqv.f k y116).bind fun t120 => ((xw.f t113 t120).bind fun t123 => (some t123))) = some r := by first | (rw [hy116];with_reducible exact H) | (have H2_ := (Option.bind_some _ _).symm.trans H;rw [hy116];with_reducible exact H2_) | (have H2_ := (Option.bind_some _ _).symm.trans H;with_reducible exact H2_) | with_reducible exact H | (rw [hy116];exact H) | exact H
     have Ny116 := qq.mk hy116
     clear hy116
     replace H := Option.bind_eq_some_iff.mp H
     obtain ⟨t120,A150,H⟩ := H
     replace H : ((xw.f t113 t120).bind fun t123 => (some t123)) = some r := H
     have A15 := qq.mk A150
     clear A150
     replace H := Option.bind_eq_some_iff.mp H
     obtain ⟨t123,A160,H⟩ := H
     replace H : (some t123) = some r := H
     have A16 := qq.mk A160
     clear A160
     obtain rfl := Option.some.inj H
     go_enter Try.func83,Try.ntmps83
     try go_wp2_with (first | ((with_reducible refine jv (f := 121) rfl ?_);refine goesL_ (some 17) rfl rfl Try.func121 (by kernel_rfl) rfl #[.int .i64 (l0.length : Int)] rfl (by (try simp only [List.map_toArray,List.map_cons,List.map_nil]);first | done | rfl | (simp only [List.length_drop,List.length_take];rfl)) ?_;(with_reducible refine (qqz.calls k (l0.length : Int) t108 _ A9.out).mono ?_);rintro e w' ⟨rfl,⟨nd,rfl⟩⟩;refine ⟨_,rfl,?_⟩))
     have n0_ := qq.mk (qk (qz HB.out nd))
     clear HB
     have HB := n0_
     clear n0_
     have q18 : (t108 : Int) ≤ ((l0.length : Int) : Int) := of_decide_eq_true (by assumption)
     obtain ⟨i018,hi018,_,hsz18,_⟩ := info_parts info22
     have hroom18 : l0.length ≤ c0 := HC0.out
     have hC18 : Kd.C (Kd.slice 5 (Kd.int .u8)) _ A0 l0.length l0 := HR0.out
     have hcut18 := cut_to (P := Try.prog) 44 22 .i64 Try.underlying44 hi018 A0 l0.length c0 t108 (of_decide_eq_true (by assumption)) q18 hroom18
     have hr18 := Kd.C_take (m := (t108 : Int).toNat) hC18 (by omega)
     have hy18 : y109.length = (t108 : Int).toNat := (by rw [Ny109.out,List.length_take];omega)
     rw [← Ny109.out] at hr18
     rw [← hy18] at hcut18
     have HR112 := qq.mk hr18
     have HC112 := qq.mk (show y109.length ≤ c0 from by omega)
     clear hr18 hC18 hroom18 hi018 hsz18
     have KY18 := qq.mk hy18
     clear hy18
     replace q18 := eq_true q18
     have q19 : (t108 : Int) ≤ ((l0.length : Int) : Int) := of_decide_eq_true (by assumption)
     obtain ⟨i019,hi019,_,hsz19,_⟩ := info_parts info22
     have hroom19 : l0.length ≤ c0 := HC0.out
     have hC19 : Kd.C (Kd.slice 5 (Kd.int .u8)) _ A0 l0.length l0 := HR0.out
     have q019 : (0 : Int) ≤ (t108 : Int) := of_decide_eq_true (by assumption)
     have hcut19 := cut_from (P := Try.prog) 44 22 .i64 Try.underlying44 hi019 1 hsz19 A0 l0.length c0 t108 q019 q19
     have hr19 := Kd.C_drop (m := (t108 : Int).toNat) (c := c0) hC19 (by omega) hroom19
     obtain ⟨A19,hA19⟩ : ∃ A1,A1 = (if c0 = (t108 : Int).toNat then A0 else (A0 : Option Addr).map (·.add ((t108 : Int).toNat * 1))) := ⟨_,rfl⟩
     obtain ⟨c19,hc19⟩ : ∃ c1,c1 = c0 - (t108 : Int).toNat := ⟨_,rfl⟩
     have hy19 : y116.length = l0.length - (t108 : Int).toNat := (by rw [Ny116.out,List.length_drop] <;> omega)
     rw [show (l0).drop (t108 : Int).toNat = y116 from Ny116.out.symm] at hr19
     replace hr19 : Kd.C (Kd.slice 5 (Kd.int .u8)) _ A19 y116.length y116 := (by rw [hA19];exact hr19)
     rw [← hy19,← hA19,← hc19] at hcut19
     have HR119 := qq.mk hr19
     have HC119 := qq.mk (show y116.length ≤ c19 from by rw [hy19,hc19];exact Nat.sub_le_sub_right hroom19 _)
     clear hr19 hC19 hroom19 hi019 hsz19 hc19
     have KY19 := qq.mk hy19
     have KA19 := qq.mk hA19
     clear hy19 hA19
     replace q19 := eq_true q19
     refine start_ (n := 10) (S := fun w' => True) (ds := []) #[false,false,false,false,false,false,false,false,false,false] (by kernel_rfl) rfl rfl trivial (fun hHeld => ?_);refine with_tabW qqv.tab7 qqv.bits7 (fun HT_ HW_ => ?_)
     generalize (w.drewN nd).drew = w17 at HB HR112 HR119 hHeld ⊢
     refine pure_ (i := 0) (N := some 18) (v := ?_) (a' := ?_) #[true,false,false,false,false,false,false,false,false,false] rfl rfl (any_of HT_.out (by kernel_rfl)) (fun _ _ _ h => h) (Or.inl ⟨by rfl,?_⟩) ?_ ?_
     rotate_left
     ·intro w'
      go_simp
      with_reducible rfl
     rotate_left
     ·simp only [Act.put,List.setIfInBounds_toArray,List.set_cons_zero,List.set_cons_succ,i64_w,i32_w]
      rfl
     refine pure_ (i := 1) (N := some 19) (v := ?_) (a' := ?_) #[true,true,false,false,false,false,false,false,false,false] rfl rfl (any_of HT_.out (by kernel_rfl)) (fun _ _ _ h => h) (Or.inl ⟨by rfl,?_⟩) ?_ ?_
     rotate_left
     ·intro w'
      go_simp
      with_reducible rfl
     rotate_left
     ·simp only [Act.put,List.setIfInBounds_toArray,List.set_cons_zero,List.set_cons_succ,i64_w,i32_w]
      rfl
     refine pure_ (i := 2) (N := some 20) (v := ?_) (a' := ?_) #[true,true,true,false,false,false,false,false,false,false] rfl rfl (any_of HT_.out (by kernel_rfl)) (fun _ _ _ h => h) (Or.inl ⟨by rfl,?_⟩) ?_ ?_
     rotate_left
     ·intro w'
      go_simp
      with_reducible rfl
     rotate_left
     ·simp only [Act.put,List.setIfInBounds_toArray,List.set_cons_zero,List.set_cons_succ,i64_w,i32_w]
      rfl
     refine pure_ (i := 4) (N := some 22) (v := ?_) (a' := ?_) #[true,true,true,false,true,false,false,false,false,false] rfl rfl (any_of HT_.out (by kernel_rfl)) (fun _ _ _ h => h) (Or.inl ⟨by rfl,?_⟩) ?_ ?_
     rotate_left
     ·intro w'
      go_simp
      with_reducible rfl
     rotate_left
     ·simp only [Act.put,List.setIfInBounds_toArray,List.set_cons_zero,List.set_cons_succ,i64_w,i32_w]
      rfl
     refine pure_ (i := 5) (N := some 23) (v := ?_) (a' := ?_) #[true,true,true,false,true,true,false,false,false,false] rfl rfl (any_of HT_.out (by kernel_rfl)) (fun _ _ _ h => h) (Or.inl ⟨by rfl,?_⟩) ?_ ?_
     rotate_left
     ·intro w'
      go_simp
      with_reducible rfl
     rotate_left
     ·simp only [Act.put,List.setIfInBounds_toArray,List.set_cons_zero,List.set_cons_succ,i64_w,i32_w]
      rfl
     refine pure_ (i := 6) (N := some 24) (v := ?_) (a' := ?_) #[true,true,true,false,true,true,true,false,false,false] rfl rfl (any_of HT_.out (by kernel_rfl)) (fun _ _ _ h => h) (Or.inl ⟨by rfl,?_⟩) ?_ ?_
     rotate_left
     ·intro w'
      go_simp
      with_reducible rfl
     rotate_left
     ·simp only [Act.put,List.setIfInBounds_toArray,List.set_cons_zero,List.set_cons_succ,i64_w,i32_w]
      rfl
     refine one_ (i := 3) (N := some 21) #[true,true,true,true,true,true,true,false,false,false] rfl rfl (one_of HT_.out (by kernel_rfl)) (by decide) (fun K hK => ?_)
     refine goes_ Try.func83 (by kernel_rfl) rfl #[.slice A0 y109.length c0] (by rfl) rfl rfl (by (try simp only [List.map_toArray,List.map_cons,List.map_nil]);first | done | rfl | (simp only [List.length_drop,List.length_take];rfl)) ?_
     with_reducible refine (ih k (by omega) _ _ y109 t113 _ ?side1 ?side2 A12.out).mono ?_
     (case side1 => repeat (first | exact (Kd.C_below HR112.out HB.out) | (with_reducible refine Kd.C_alloc ?_ _) | (with_reducible refine Kd.C_drewN ?_ _) | (with_reducible refine Kd.C_drew ?_)))
     (case side2 => exact HC112.out)
     rintro e w20 ⟨v114,rfl,ho0,hb⟩
     refine ⟨_,rfl,?_⟩
     have n0_ := qq.mk (Kd.R_lower ho0 (zw (by repeat (first | (with_reducible first | exact HB.out | apply qj | apply qz | apply qk) | exact HB.out))))
     have n1_ := qq.mk (zv (by repeat (first | (with_reducible first | exact HB.out | apply qj | apply qz | apply qk) | exact HB.out)) hb)
     clear HB
     have HO115 := n0_
     have HB := n1_
     clear n0_ n1_
     (try clear hb)
     (try clear hb2)
     (try clear hk)
     (try clear hi)
     (try clear ho0)
     refine hK.out _ _ trivial (fun hHeld => ?_)
     clear hK K
     refine norm_ (a' := ?_) ?_ ?_
     rotate_left
     ·show Act.put _ (some 21) _ = _
      simp only [Act.put,List.setIfInBounds_toArray,List.set_cons_zero,List.set_cons_succ,i64_w,i32_w]
      rfl
     refine one_ (i := 7) (N := some 25) #[true,true,true,true,true,true,true,true,false,false] rfl rfl (one_of HT_.out (by kernel_rfl)) (by decide) (fun K hK => ?_)
     refine goes_ Try.func83 (by kernel_rfl) rfl #[.slice A19 y116.length c19] (by rfl) rfl rfl (by (try simp only [List.map_toArray,List.map_cons,List.map_nil]);first | done | rfl | (simp only [List.length_drop,List.length_take];rfl)) ?_
     with_reducible refine (ih k (by omega) _ _ y116 t120 _ ?side1 ?side2 A15.out).mono ?_
     (case side1 => repeat (first | exact (Kd.C_below HR119.out HB.out) | (with_reducible refine Kd.C_alloc ?_ _) | (with_reducible refine Kd.C_drewN ?_ _) | (with_reducible refine Kd.C_drew ?_)))
     (case side2 => exact HC119.out)
     rintro e w21 ⟨v121,rfl,ho0,hb⟩
     refine ⟨_,rfl,?_⟩
     have n0_ := qq.mk (Kd.R_elder' (by (with_reducible repeat (first | apply Kd.jq | apply Kd.zx | apply Kd.jz));exact HO115.out) (Kd.R_base ho0) hb)
     have n1_ := qq.mk (Kd.R_lower (Kd.R_new' ho0 (Kd.R_lt (by (with_reducible repeat (first | apply Kd.jq | apply Kd.zx | apply Kd.jz));exact HO115.out))) (zw (by repeat (first | (with_reducible first | exact HB.out | apply qj | apply qz | apply qk) | exact HB.out))))
     have n2_ := qq.mk (zv (by repeat (first | (with_reducible first | exact HB.out | apply qj | apply qz | apply qk) | exact HB.out)) hb)
     clear HO115
     clear HB
     have HO115 := n0_
     have HO122 := n1_
     have HB := n2_
     clear n0_ n1_ n2_
     (try clear hb)
     (try clear hb2)
     (try clear hk)
     (try clear hi)
     (try clear ho0)
     obtain ⟨Ao22,co22,eo22⟩ := Kd.R_slice HO115.out
     (first | subst eo22 | (injection eo22 with f1_ f2_ f3_;have f4_ := f1_.symm;have f5_ := f3_.symm;clear f1_ f2_ f3_;subst f4_;subst f5_))
     obtain ⟨Ao23,co23,eo23⟩ := Kd.R_slice HO122.out
     (first | subst eo23 | (injection eo23 with f1_ f2_ f3_;have f4_ := f1_.symm;have f5_ := f3_.symm;clear f1_ f2_ f3_;subst f4_;subst f5_))
     refine hK.out _ _ trivial (fun hHeld => ?_)
     clear hK K
     refine norm_ (a' := ?_) ?_ ?_
     rotate_left
     ·show Act.put _ (some 25) _ = _
      simp only [Act.put,List.setIfInBounds_toArray,List.set_cons_zero,List.set_cons_succ,i64_w,i32_w]
      rfl
     refine one_ (i := 8) (N := some 26) #[true,true,true,true,true,true,true,true,true,false] rfl rfl (one_of HT_.out (by kernel_rfl)) (by decide) (fun K hK => ?_)
     refine goes_ Try.func122 (by kernel_rfl) rfl #[.slice Ao22 t113.length co22,.slice Ao23 t120.length co23] (by rfl) rfl rfl (by (try simp only [List.map_toArray,List.map_cons,List.map_nil]);first | done | rfl | (simp only [List.length_drop,List.length_take];rfl)) ?_
     with_reducible refine (xw.calls (fun k_ => some k_ = (.slice Ao22 t113.length co22 : Value).ownBlock) _ _ t113 (fun k_ => some k_ = (.slice Ao23 t120.length co23 : Value).ownBlock) _ _ t120 t123 _ ?side1 ?side2 A16.out).mono ?_
     (case side1 => exact Kd.R_V (Kd.R_tight rfl (HO115.out)))
     (case side2 => exact Kd.R_V (Kd.R_tight rfl (HO122.out)))
     rintro e w24 ⟨v124,rfl,ho0,hb⟩
     refine ⟨_,rfl,?_⟩
     have n0_ := qq.mk (Kd.R_elder' (by (with_reducible repeat (first | apply Kd.jq | apply Kd.zx | apply Kd.jz));exact HO115.out) (Kd.R_base ho0) hb)
     have n1_ := qq.mk (Kd.R_elder' (by (with_reducible repeat (first | apply Kd.jq | apply Kd.zx | apply Kd.jz));exact HO122.out) (Kd.R_base ho0) hb)
     have n2_ := qq.mk (Kd.R_lower (Kd.R_new' (Kd.R_new' (Kd.R_mono (ok' := fun k_ => True) ho0 (fun _ hk_ => trivial)) (Kd.R_lt (by (with_reducible repeat (first | apply Kd.jq | apply Kd.zx | apply Kd.jz));exact HO115.out))) (Kd.R_lt (by (with_reducible repeat (first | apply Kd.jq | apply Kd.zx | apply Kd.jz));exact HO122.out))) (zw (by repeat (first | (with_reducible first | exact HB.out | apply qj | apply qz | apply qk) | exact HB.out))))
     have n3_ := qq.mk (zv (by repeat (first | (with_reducible first | exact HB.out | apply qj | apply qz | apply qk) | exact HB.out)) hb)
     clear HO115
     clear HO122
     clear HB
     have HO115 := n0_
     have HO122 := n1_
     have HO125 := n2_
     have HB := n3_
     clear n0_ n1_ n2_ n3_
     (try clear hb)
     (try clear hb2)
     (try clear hk)
     (try clear hi)
     (try clear ho0)
     refine hK.out _ _ trivial (fun hHeld => ?_)
     clear hK K
     refine norm_ (a' := ?_) ?_ ?_
     rotate_left
     ·show Act.put _ (some 26) _ = _
      simp only [Act.put,List.setIfInBounds_toArray,List.set_cons_zero,List.set_cons_succ,i64_w,i32_w]
      rfl
     refine pure_ (i := 9) (N := some 2) (v := ?_) (a' := ?_) #[true,true,true,true,true,true,true,true,true,true] rfl rfl (any_of HT_.out (by kernel_rfl)) (fun _ _ _ h => h) (Or.inl ⟨by rfl,?_⟩) ?_ ?_
     rotate_left
     ·intro w'
      go_simp
      with_reducible rfl
     rotate_left
     ·simp only [Act.put,List.setIfInBounds_toArray,List.set_cons_zero,List.set_cons_succ,i64_w,i32_w]
      rfl
     refine done_ (done_of HT_.out (by kernel_rfl)) ?_
     try go_wp2
     go_ret
     exact ⟨_,by first | rfl | (simp [*,jk,jj] <;> rfl),by (with_reducible repeat (first | apply Kd.jq | apply Kd.zx | apply Kd.jz));exact Kd.R_mono HO125.out (fun _ hk => trivial),by repeat (first | (with_reducible first | exact HB.out | apply qj | apply qz | apply qk) | exact HB.out)⟩
    ·rw [if_neg c11] at H
     exact absurd H (by simp)
   ·rw [if_neg c10] at H
    exact absurd H (by simp)
theorem litOne {α : Type} {d : Kd α} {W : World} {base : Nat} {okj : Nat → Nat → Prop} {x : α} {cs : List Value} (h : d.M W base (okj 0) x cs) (hl : cs.length = d.sz) : ∀ j y,[x][j]? = some y → d.M W base (okj j) y ((cs.drop (j * d.sz)).take d.sz) := by
 intro j y hj
 cases j with
 | zero =>
  obtain rfl : x = y := by simpa using hj
  simpa [← hl] using h
 | succ j => simp at hj
def xx.f : Nat → List (List Int) → Int → Bool → Option ((List (List Int)))
 | 0,_,_,_ => none
 | k + 1,l0,a1,a2 => if a1 = (l0.length : Int) then (if a2 = true then (some ([] : List (List Int))) else ((qqv.f k l0).bind fun t101 => (some (([t101] : List (List Int)))))) else ((qqz.f k (l0.length : Int)).bind fun t107 => (if a1 ≤ t107 then (if 0 ≤ t107 then (if t107 ≤ (l0.length : Int) then ((xx.f k (l0.take (t107 : Int).toNat) a1 a2).bind fun t112 => ((qqv.f k (l0.drop (t107 : Int).toNat)).bind fun t119 => (if t112.length < 5864062014805 then (some (t112 ++ [t119])) else (none)))) else (none)) else (none)) else (if 0 ≤ t107 then (if t107 ≤ (l0.length : Int) then ((xx.f k (l0.drop (t107 : Int).toNat) (wrap64 (a1 - t107)) false).bind fun t129 => ((qqv.f k (l0.take (t107 : Int).toNat)).bind fun t136 => (if t129.length < 5864062014805 then (some (t129 ++ [t136])) else (none)))) else (none)) else (none))))
def xx.T7 : Bool × List (List Nat × List Nat) := (true,[([],[]),([],[]),([0,1],[0,1]),([],[]),([],[]),([2,3,4],[2,3,4]),([],[]),([],[]),([6,7],[6,7]),([8,5],[8]),([9],[9]),([5,10,9],[5,10]),([11,11,0,1,2,3,4,5,6,7,8,9,10,11],[11])])
def xx.B7 : List Nat := [0,0,3,0,0,31,0,0,192,511,1023,2047,4095]
theorem xx.tab7 : rtab .any (opsOf Try.f89 7) = xx.T7 := by kernel_rfl
theorem xx.bits7 : waitsOk xx.T7.2 xx.B7 = true := by kernel_rfl
def xx.T8 : Bool × List (List Nat × List Nat) := (true,[([],[]),([],[]),([0,1],[0,1]),([],[]),([],[]),([3,4],[3,4]),([2,5],[2,5]),([],[]),([],[]),([7,8],[7,8]),([9,6],[9]),([10],[10]),([6,11,10],[6,11]),([12,12,0,1,2,3,4,5,6,7,8,9,10,11,12],[12])])
def xx.B8 : List Nat := [0,0,3,0,0,24,63,0,0,384,1023,2047,4095,8191]
theorem xx.tab8 : rtab .any (opsOf Try.f89 8) = xx.T8 := by kernel_rfl
theorem xx.bits8 : waitsOk xx.T8.2 xx.B8 = true := by kernel_rfl
set_option maxHeartbeats 8000000 in
set_option maxRecDepth 100000 in
theorem xx.calls (k : Nat) : ∀ (A0 : Option Addr) (c0 : Nat) (l0 : List (List Int)) (a1 : Int) (a2 : Bool) (r : List (List Int)) (w : World) (hr0 : Kd.C (Kd.slice 5 (Kd.int .u8)) w A0 l0.length l0) (hc0 : l0.length ≤ c0) (h : xx.f k l0 a1 a2 = some r),
  Calls Try.prog 89 #[.slice A0 l0.length c0,.int .i64 a1,.bool a2] w fun e w' => ∃ v0_ : Value,e = .returned (v0_) ∧ Kd.S (Kd.slice 5 (Kd.int .u8)) 22 w' w.heap.size (fun _ => True) v0_ r ∧ Below w.heap.size w w' := by
 induction k using Nat.strongRecOn with
 | _ k ih =>
 intro A0 c0 l0 a1 a2 r w hr0 hc0 h
 cases k with
 | zero => exact absurd h (by simp [xx.f])
 | succ k =>
 simp only [xx.f] at h
 have HR0 := qq.mk hr0
 have HC0 := qq.mk hc0
 clear hr0 hc0
 have HB := qq.mk (Below.refl w.heap.size w)
 have H : (if a1 = (l0.length : Int) then (if a2 = true then (some ([] : List (List Int))) else ((qqv.f k l0).bind fun t101 => (some (([t101] : List (List Int)))))) else ((qqz.f k (l0.length : Int)).bind fun t107 => (if a1 ≤ t107 then (if 0 ≤ t107 then (if t107 ≤ (l0.length : Int) then ((xx.f k (l0.take (t107 : Int).toNat) a1 a2).bind fun t112 => ((qqv.f k (l0.drop (t107 : Int).toNat)).bind fun t119 => (if t112.length < 5864062014805 then (some (t112 ++ [t119])) else (none)))) else (none)) else (none)) else (if 0 ≤ t107 then (if t107 ≤ (l0.length : Int) then ((xx.f k (l0.drop (t107 : Int).toNat) (wrap64 (a1 - t107)) false).bind fun t129 => ((qqv.f k (l0.take (t107 : Int).toNat)).bind fun t136 => (if t129.length < 5864062014805 then (some (t129 ++ [t136])) else (none)))) else (none)) else (none))))) = some r := h
 clear h
 by_cases c4 : a1 = (l0.length : Int)
 ·rw [if_pos c4] at H
  have c4b0 : (a1 == (l0.length : Int)) = true := beq_iff_eq.mpr c4
  have c4b1 : (a1 != (l0.length : Int)) = false := bne_eq_false_iff_eq.mpr c4
  clear c4
  by_cases c5 : a2 = true
  ·subst c5
   have H1 : (some ([] : List (List Int))) = some r := by rw [if_pos rfl] at H;exact H
   clear H
   have H := H1
   clear H1
   obtain rfl := Option.some.inj H
   go_enter Try.func89,Try.ntmps89
   go_wp2
   go_ret
   exact ⟨_,by first | rfl | (simp [*,jk,jj] <;> rfl),by first | exact Kd.S_nil _ _ _ _ _ | exact Kd.N_nil _ _ _ _ _ | exact Kd.V_nil _ _ _ _ _ | exact Kd.Q_nil _ _ _ _ _ | exact Kd.R_nil _ _ _ _ _,by repeat (first | (with_reducible first | exact HB.out | apply qj | apply qz | apply qk) | exact HB.out)⟩
  ·replace c5 := Bool.eq_false_iff.mpr c5
   subst c5
   have H1 : ((qqv.f k l0).bind fun t101 => (some (([t101] : List (List Int))))) = some r := by rw [if_neg (show ¬ (false = true) by decide)] at H;exact H
   clear H
   have H := H1
   clear H1
   replace H := Option.bind_eq_some_iff.mp H
   obtain ⟨t101,A60,H⟩ := H
   replace H : (some (([t101] : List (List Int)))) = some r := H
   have A6 := qq.mk A60
   clear A60
   obtain ⟨y104,hy104⟩ : ∃ y_ : List (List Int),y_ = (([t101] : List (List Int))) := ⟨_,rfl⟩
   replace H : (some y104) = some r := by first | (rw [hy104];with_reducible exact H) | (have H2_ := (Option.bind_some _ _).symm.trans H;rw [hy104];with_reducible exact H2_) | (have H2_ := (Option.bind_some _ _).symm.trans H;with_reducible exact H2_) | with_reducible exact H | (rw [hy104];exact H) | exact H
   have Ny104 := qq.mk hy104
   clear hy104
   obtain rfl := Option.some.inj H
   go_enter Try.func89,Try.ntmps89
   go_wp2_with (first | ((with_reducible refine jv (f := 83) rfl ?_);refine goesL_ (some 14) rfl rfl Try.func83 (by kernel_rfl) rfl #[.slice A0 l0.length c0] rfl (by (try simp only [List.map_toArray,List.map_cons,List.map_nil]);first | done | rfl | (simp only [List.length_drop,List.length_take];rfl)) ?_;(with_reducible refine (qqv.calls k _ _ l0 t101 _ ?side1 ?side2 A6.out).mono ?_);(case side1 => repeat (first | exact HR0.out | (with_reducible refine Kd.C_alloc ?_ _) | (with_reducible refine Kd.C_drewN ?_ _) | (with_reducible refine Kd.C_drew ?_)));(case side2 => exact HC0.out);rintro e w7 ⟨v102,rfl,ho0,hb⟩;refine ⟨_,rfl,?_⟩;have n0_ := qq.mk (Kd.R_lower ho0 (zw (by repeat (first | (with_reducible first | exact HB.out | apply qj | apply qz | apply qk) | exact HB.out))));have n1_ := qq.mk (zv (by repeat (first | (with_reducible first | exact HB.out | apply qj | apply qz | apply qk) | exact HB.out)) hb);clear HB;have HO103 := n0_;have HB := n1_;clear n0_ n1_;(try clear hb);(try clear hb2);(try clear hk);(try clear hi);(try clear ho0);obtain ⟨Ao8,co8,eo8⟩ := Kd.R_slice HO103.out;subst eo8) | ((with_reducible refine gate_dst (N := 15) rfl ?_);refine Kd.S_lits (w0 := w) (Kd.slice 5 (Kd.int .u8)) w.heap.size 22 ?hg (N := 15) ?hd (xs := ([t101] : List (List Int))) (inner := [.slice Ao8 t101.length co8]) (ok := fun _ => True) (fun j k_ => j = 0 ∧ some k_ = (.slice Ao8 t101.length co8 : Value).ownBlock) ?hr rfl ?hp (fun i j k_ h1 h2 => h1.1.trans h2.1.symm) (fun _ _ _ => trivial) trivial (by repeat (first | (with_reducible first | exact HB.out | apply qj | apply qz | apply qk) | exact HB.out)) (zw (by repeat (first | (with_reducible first | exact HB.out | apply qj | apply qz | apply qk) | exact HB.out))) (by simp) ?_;(case hd => rfl);(case hg => rfl);(case hr => first | (go_simp;done) | (go_simp;rfl));(case hp => exact litOne (Kd.M_row (Kd.R_mono (Kd.R_tight rfl HO103.out) (fun k_ hk => ⟨rfl,hk⟩))) rfl);intro v105 w9 ho10 hb hg_ hnew_;clear hg_ hnew_;(first | rw [← Ny104.out] at ho10 | (simp only [Int.reduceToNat] at ho10;rw [← Ny104.out] at ho10));have n0_ := qq.mk ho10;have n1_ := qq.mk hb;clear HB;clear HO103;have HO106 := n0_;have HB := n1_;clear n0_ n1_;clear hb ho10))
   go_ret
   exact ⟨_,by first | rfl | (simp [*,jk,jj] <;> rfl),by (with_reducible repeat (first | apply Kd.kx | apply Kd.kw | apply Kd.vq));exact HO106.out,by repeat (first | (with_reducible first | exact HB.out | apply qj | apply qz | apply qk) | exact HB.out)⟩
 ·rw [if_neg c4] at H
  have c4b0 : (a1 == (l0.length : Int)) = false := beq_eq_false_iff_ne.mpr c4
  have c4b1 : (a1 != (l0.length : Int)) = true := bne_iff_ne.mpr c4
  replace H := Option.bind_eq_some_iff.mp H
  obtain ⟨t107,A110,H⟩ := H
  replace H : (if a1 ≤ t107 then (if 0 ≤ t107 then (if t107 ≤ (l0.length : Int) then ((xx.f k (l0.take (t107 : Int).toNat) a1 a2).bind fun t112 => ((qqv.f k (l0.drop (t107 : Int).toNat)).bind fun t119 => (if t112.length < 5864062014805 then (some (t112 ++ [t119])) else (none)))) else (none)) else (none)) else (if 0 ≤ t107 then (if t107 ≤ (l0.length : Int) then ((xx.f k (l0.drop (t107 : Int).toNat) (wrap64 (a1 - t107)) false).bind fun t129 => ((qqv.f k (l0.take (t107 : Int).toNat)).bind fun t136 => (if t129.length < 5864062014805 then (some (t129 ++ [t136])) else (none)))) else (none)) else (none))) = some r := H
  have A11 := qq.mk A110
  clear A110
  by_cases c12 : a1 ≤ t107
  ·rw [if_pos c12] at H
   have c12b0 : decide (a1 ≤ t107) = true := decide_eq_true c12
   clear c12
   by_cases c13 : 0 ≤ t107
   ·rw [if_pos c13] at H
    have c13b0 := eq_true c13
    have c13b1 : decide (0 ≤ t107) = true := decide_eq_true c13
    clear c13
    by_cases c14 : t107 ≤ (l0.length : Int)
    ·rw [if_pos c14] at H
     have c14b0 := eq_true c14
     have c14b1 : decide (t107 ≤ (l0.length : Int)) = true := decide_eq_true c14
     clear c14
     obtain ⟨y108,hy108⟩ : ∃ y_ : List (List Int),y_ = (l0.take (t107 : Int).toNat) := ⟨_,rfl⟩
     replace H : ((xx.f k y108 a1 a2).bind fun t112 => ((qqv.f k (l0.drop (t107 : Int).toNat)).bind fun t119 => (if t112.length < 5864062014805 then (some (t112 ++ [t119])) else (none)))) = some r := by first | (rw [hy108];with_reducible exact H) | (have H2_ := (Option.bind_some _ _).symm.trans H;rw [hy108];with_reducible exact H2_) | (have H2_ := (Option.bind_some _ _).symm.trans H;with_reducible exact H2_) | with_reducible exact H | (rw [hy108];exact H) | exact H
     have Ny108 := qq.mk hy108
     clear hy108
     replace H := Option.bind_eq_some_iff.mp H
     obtain ⟨t112,A150,H⟩ := H
     replace H : ((qqv.f k (l0.drop (t107 : Int).toNat)).bind fun t119 => (if t112.length < 5864062014805 then (some (t112 ++ [t119])) else (none))) = some r := H
     have A15 := qq.mk A150
     clear A150
     have c16b0 := eq_true (of_decide_eq_true (by assumption) : 0 ≤ t107)
     have c17b0 := eq_true (of_decide_eq_true (by assumption) : t107 ≤ (l0.length : Int))
     obtain ⟨y115,hy115⟩ : ∃ y_ : List (List Int),y_ = (l0.drop (t107 : Int).toNat) := ⟨_,rfl⟩
     replace H : ((qqv.f k y115).bind fun t119 => (if t112.length < 5864062014805 then (some (t112 ++ [t119])) else (none))) = some r := by first | (rw [hy115];with_reducible exact H) | (have H2_ := (Option.bind_some _ _).symm.trans H;rw [hy115];with_reducible exact H2_) | (have H2_ := (Option.bind_some _ _).symm.trans H;with_reducible exact H2_) | with_reducible exact H | (rw [hy115];exact H) | exact H
     have Ny115 := qq.mk hy115
     clear hy115
     replace H := Option.bind_eq_some_iff.mp H
     obtain ⟨t119,A180,H⟩ := H
     replace H : (if t112.length < 5864062014805 then (some (t112 ++ [t119])) else (none)) = some r := H
     have A18 := qq.mk A180
     clear A180
     by_cases c19 : t112.length < 5864062014805
     ·rw [if_pos c19] at H
      have LMc19 := qq.mk c19
      clear c19
      obtain ⟨y122,hy122⟩ : ∃ y_ : List (List Int),y_ = (t112 ++ [t119]) := ⟨_,rfl⟩
      replace H : (some y122) = some r := by first | (rw [hy122];with_reducible exact H) | (have H2_ := (Option.bind_some _ _).symm.trans H;rw [hy122];with_reducible exact H2_) | (have H2_ := (Option.bind_some _ _).symm.trans H;with_reducible exact H2_) | with_reducible exact H | (rw [hy122];exact H) | exact H
      have Ny122 := qq.mk hy122
      clear hy122
      obtain rfl := Option.some.inj H
      go_enter Try.func89,Try.ntmps89
      try go_wp2_with (first | ((with_reducible refine jv (f := 121) rfl ?_);refine goesL_ (some 18) rfl rfl Try.func121 (by kernel_rfl) rfl #[.int .i64 (l0.length : Int)] rfl (by (try simp only [List.map_toArray,List.map_cons,List.map_nil]);first | done | rfl | (simp only [List.length_drop,List.length_take];rfl)) ?_;(with_reducible refine (qqz.calls k (l0.length : Int) t107 _ A11.out).mono ?_);rintro e w' ⟨rfl,⟨nd,rfl⟩⟩;refine ⟨_,rfl,?_⟩))
      have n0_ := qq.mk (qk (qz HB.out nd))
      clear HB
      have HB := n0_
      clear n0_
      have q21 : (t107 : Int) ≤ ((l0.length : Int) : Int) := of_decide_eq_true (by assumption)
      obtain ⟨i021,hi021,_,hsz21,_⟩ := info_parts info22
      have hroom21 : l0.length ≤ c0 := HC0.out
      have hC21 : Kd.C (Kd.slice 5 (Kd.int .u8)) _ A0 l0.length l0 := HR0.out
      have hcut21 := cut_to (P := Try.prog) 44 22 .i64 Try.underlying44 hi021 A0 l0.length c0 t107 (of_decide_eq_true (by assumption)) q21 hroom21
      have hr21 := Kd.C_take (m := (t107 : Int).toNat) hC21 (by omega)
      have hy21 : y108.length = (t107 : Int).toNat := (by rw [Ny108.out,List.length_take];omega)
      rw [← Ny108.out] at hr21
      rw [← hy21] at hcut21
      have HR111 := qq.mk hr21
      have HC111 := qq.mk (show y108.length ≤ c0 from by omega)
      clear hr21 hC21 hroom21 hi021 hsz21
      have KY21 := qq.mk hy21
      clear hy21
      replace q21 := eq_true q21
      have q22 : (t107 : Int) ≤ ((l0.length : Int) : Int) := of_decide_eq_true (by assumption)
      obtain ⟨i022,hi022,_,hsz22,_⟩ := info_parts info22
      have hroom22 : l0.length ≤ c0 := HC0.out
      have hC22 : Kd.C (Kd.slice 5 (Kd.int .u8)) _ A0 l0.length l0 := HR0.out
      have q022 : (0 : Int) ≤ (t107 : Int) := of_decide_eq_true (by assumption)
      have hcut22 := cut_from (P := Try.prog) 44 22 .i64 Try.underlying44 hi022 1 hsz22 A0 l0.length c0 t107 q022 q22
      have hr22 := Kd.C_drop (m := (t107 : Int).toNat) (c := c0) hC22 (by omega) hroom22
      obtain ⟨A22,hA22⟩ : ∃ A1,A1 = (if c0 = (t107 : Int).toNat then A0 else (A0 : Option Addr).map (·.add ((t107 : Int).toNat * 1))) := ⟨_,rfl⟩
      obtain ⟨c22,hc22⟩ : ∃ c1,c1 = c0 - (t107 : Int).toNat := ⟨_,rfl⟩
      have hy22 : y115.length = l0.length - (t107 : Int).toNat := (by rw [Ny115.out,List.length_drop] <;> omega)
      rw [show (l0).drop (t107 : Int).toNat = y115 from Ny115.out.symm] at hr22
      replace hr22 : Kd.C (Kd.slice 5 (Kd.int .u8)) _ A22 y115.length y115 := (by rw [hA22];exact hr22)
      rw [← hy22,← hA22,← hc22] at hcut22
      have HR118 := qq.mk hr22
      have HC118 := qq.mk (show y115.length ≤ c22 from by rw [hy22,hc22];exact Nat.sub_le_sub_right hroom22 _)
      clear hr22 hC22 hroom22 hi022 hsz22 hc22
      have KY22 := qq.mk hy22
      have KA22 := qq.mk hA22
      clear hy22 hA22
      replace q22 := eq_true q22
      refine start_ (n := 13) (S := fun w' => True) (ds := []) #[false,false,false,false,false,false,false,false,false,false,false,false,false] (by kernel_rfl) rfl rfl trivial (fun hHeld => ?_);refine with_tabW xx.tab7 xx.bits7 (fun HT_ HW_ => ?_)
      generalize (w.drewN nd).drew = w20 at HB HR111 HR118 hHeld ⊢
      refine pure_ (i := 0) (N := some 22) (v := ?_) (a' := ?_) #[true,false,false,false,false,false,false,false,false,false,false,false,false] rfl rfl (any_of HT_.out (by kernel_rfl)) (fun _ _ _ h => h) (Or.inl ⟨by rfl,?_⟩) ?_ ?_
      rotate_left
      ·intro w'
       go_simp
       with_reducible rfl
      rotate_left
      ·simp only [Act.put,List.setIfInBounds_toArray,List.set_cons_zero,List.set_cons_succ,i64_w,i32_w]
       rfl
      refine pure_ (i := 1) (N := some 23) (v := ?_) (a' := ?_) #[true,true,false,false,false,false,false,false,false,false,false,false,false] rfl rfl (any_of HT_.out (by kernel_rfl)) (fun _ _ _ h => h) (Or.inl ⟨by rfl,?_⟩) ?_ ?_
      rotate_left
      ·intro w'
       go_simp
       with_reducible rfl
      rotate_left
      ·simp only [Act.put,List.setIfInBounds_toArray,List.set_cons_zero,List.set_cons_succ,i64_w,i32_w]
       rfl
      refine pure_ (i := 2) (N := some 24) (v := ?_) (a' := ?_) #[true,true,true,false,false,false,false,false,false,false,false,false,false] rfl rfl (any_of HT_.out (by kernel_rfl)) (fun _ _ _ h => h) (Or.inl ⟨by rfl,?_⟩) ?_ ?_
      rotate_left
      ·intro w'
       go_simp
       with_reducible rfl
      rotate_left
      ·simp only [Act.put,List.setIfInBounds_toArray,List.set_cons_zero,List.set_cons_succ,i64_w,i32_w]
       rfl
      refine pure_ (i := 3) (N := some 25) (v := ?_) (a' := ?_) #[true,true,true,true,false,false,false,false,false,false,false,false,false] rfl rfl (any_of HT_.out (by kernel_rfl)) (fun _ _ _ h => h) (Or.inl ⟨by rfl,?_⟩) ?_ ?_
      rotate_left
      ·intro w'
       go_simp
       with_reducible rfl
      rotate_left
      ·simp only [Act.put,List.setIfInBounds_toArray,List.set_cons_zero,List.set_cons_succ,i64_w,i32_w]
       rfl
      refine pure_ (i := 4) (N := some 26) (v := ?_) (a' := ?_) #[true,true,true,true,true,false,false,false,false,false,false,false,false] rfl rfl (any_of HT_.out (by kernel_rfl)) (fun _ _ _ h => h) (Or.inl ⟨by rfl,?_⟩) ?_ ?_
      rotate_left
      ·intro w'
       go_simp
       with_reducible rfl
      rotate_left
      ·simp only [Act.put,List.setIfInBounds_toArray,List.set_cons_zero,List.set_cons_succ,i64_w,i32_w]
       rfl
      refine pure_ (i := 6) (N := some 28) (v := ?_) (a' := ?_) #[true,true,true,true,true,false,true,false,false,false,false,false,false] rfl rfl (any_of HT_.out (by kernel_rfl)) (fun _ _ _ h => h) (Or.inl ⟨by rfl,?_⟩) ?_ ?_
      rotate_left
      ·intro w'
       go_simp
       with_reducible rfl
      rotate_left
      ·simp only [Act.put,List.setIfInBounds_toArray,List.set_cons_zero,List.set_cons_succ,i64_w,i32_w]
       rfl
      refine pure_ (i := 7) (N := some 29) (v := ?_) (a' := ?_) #[true,true,true,true,true,false,true,true,false,false,false,false,false] rfl rfl (any_of HT_.out (by kernel_rfl)) (fun _ _ _ h => h) (Or.inl ⟨by rfl,?_⟩) ?_ ?_
      rotate_left
      ·intro w'
       go_simp
       with_reducible rfl
      rotate_left
      ·simp only [Act.put,List.setIfInBounds_toArray,List.set_cons_zero,List.set_cons_succ,i64_w,i32_w]
       rfl
      refine pure_ (i := 8) (N := some 30) (v := ?_) (a' := ?_) #[true,true,true,true,true,false,true,true,true,false,false,false,false] rfl rfl (any_of HT_.out (by kernel_rfl)) (fun _ _ _ h => h) (Or.inl ⟨by rfl,?_⟩) ?_ ?_
      rotate_left
      ·intro w'
       go_simp
       with_reducible rfl
      rotate_left
      ·simp only [Act.put,List.setIfInBounds_toArray,List.set_cons_zero,List.set_cons_succ,i64_w,i32_w]
       rfl
      refine one_ (i := 5) (N := some 27) #[true,true,true,true,true,true,true,true,true,false,false,false,false] rfl rfl (one_of HT_.out (by kernel_rfl)) (by decide) (fun K hK => ?_)
      refine goes_ Try.func89 (by kernel_rfl) rfl #[.slice A0 y108.length c0,.int .i64 a1,.bool a2] (by rfl) rfl rfl (by (try simp only [List.map_toArray,List.map_cons,List.map_nil]);first | done | rfl | (simp only [List.length_drop,List.length_take];rfl)) ?_
      with_reducible refine (ih k (by omega) _ _ y108 a1 a2 t112 _ ?side1 ?side2 A15.out).mono ?_
      (case side1 => repeat (first | exact (Kd.C_below HR111.out HB.out) | (with_reducible refine Kd.C_alloc ?_ _) | (with_reducible refine Kd.C_drewN ?_ _) | (with_reducible refine Kd.C_drew ?_)))
      (case side2 => exact HC111.out)
      rintro e w23 ⟨v113,rfl,ho0,hb⟩
      refine ⟨_,rfl,?_⟩
      have n0_ := qq.mk (Kd.S_lower ho0 (zw (by repeat (first | (with_reducible first | exact HB.out | apply qj | apply qz | apply qk) | exact HB.out))))
      have n1_ := qq.mk (zv (by repeat (first | (with_reducible first | exact HB.out | apply qj | apply qz | apply qk) | exact HB.out)) hb)
      clear HB
      have HO114 := n0_
      have HB := n1_
      clear n0_ n1_
      (try clear hb)
      (try clear hb2)
      (try clear hk)
      (try clear hi)
      (try clear ho0)
      refine hK.out _ _ trivial (fun hHeld => ?_)
      clear hK K
      refine norm_ (a' := ?_) ?_ ?_
      rotate_left
      ·show Act.put _ (some 27) _ = _
       simp only [Act.put,List.setIfInBounds_toArray,List.set_cons_zero,List.set_cons_succ,i64_w,i32_w]
       rfl
      refine one_ (i := 9) (N := some 31) #[true,true,true,true,true,true,true,true,true,true,false,false,false] rfl rfl (one_of HT_.out (by kernel_rfl)) (by decide) (fun K hK => ?_)
      refine goes_ Try.func83 (by kernel_rfl) rfl #[.slice A22 y115.length c22] (by rfl) rfl rfl (by (try simp only [List.map_toArray,List.map_cons,List.map_nil]);first | done | rfl | (simp only [List.length_drop,List.length_take];rfl)) ?_
      with_reducible refine (qqv.calls k _ _ y115 t119 _ ?side1 ?side2 A18.out).mono ?_
      (case side1 => repeat (first | exact (Kd.C_below HR118.out HB.out) | (with_reducible refine Kd.C_alloc ?_ _) | (with_reducible refine Kd.C_drewN ?_ _) | (with_reducible refine Kd.C_drew ?_)))
      (case side2 => exact HC118.out)
      rintro e w24 ⟨v120,rfl,ho0,hb⟩
      refine ⟨_,rfl,?_⟩
      have n0_ := qq.mk (Kd.S_elder' (by (with_reducible repeat (first | apply Kd.kx | apply Kd.kw | apply Kd.vq));exact HO114.out) (Kd.R_base ho0) hb)
      have n1_ := qq.mk (Kd.R_lower ho0 (zw (by repeat (first | (with_reducible first | exact HB.out | apply qj | apply qz | apply qk) | exact HB.out))))
      have n2_ := qq.mk (zv (by repeat (first | (with_reducible first | exact HB.out | apply qj | apply qz | apply qk) | exact HB.out)) hb)
      clear HO114
      clear HB
      have HO114 := n0_
      have HO121 := n1_
      have HB := n2_
      clear n0_ n1_ n2_
      (try clear hb)
      (try clear hb2)
      (try clear hk)
      (try clear hi)
      (try clear ho0)
      obtain ⟨Ao26,co26,eo26⟩ := Kd.R_slice HO121.out
      (first | subst eo26 | (injection eo26 with f1_ f2_ f3_;have f4_ := f1_.symm;have f5_ := f3_.symm;clear f1_ f2_ f3_;subst f4_;subst f5_))
      refine hK.out _ _ trivial (fun hHeld => ?_)
      clear hK K
      refine norm_ (a' := ?_) ?_ ?_
      rotate_left
      ·show Act.put _ (some 31) _ = _
       simp only [Act.put,List.setIfInBounds_toArray,List.set_cons_zero,List.set_cons_succ,i64_w,i32_w]
       rfl
      refine one_ (i := 10) (N := some 32) #[true,true,true,true,true,true,true,true,true,true,true,false,false] rfl rfl (one_of HT_.out (by kernel_rfl)) (by decide) (fun K hK => ?_)
      refine value_ (w1 := ?_) (v := ?_) (by rfl) rfl ?_ ?_
      rotate_left 2
      ·go_simp
       constructor
       ·rfl
       ·rfl
      refine hK.out _ _ trivial (fun hHeld => ?_)
      clear hK K
      refine norm_ (a' := ?_) ?_ ?_
      rotate_left
      ·show Act.put _ (some 32) _ = _
       simp only [Act.put,List.setIfInBounds_toArray,List.set_cons_zero,List.set_cons_succ,i64_w,i32_w]
       rfl
      refine one_ (i := 11) (N := some 33) #[true,true,true,true,true,true,true,true,true,true,true,true,false] rfl rfl (one_of HT_.out (by kernel_rfl)) (by decide) (fun K hK => ?_)
      refine Kd.S_append_step (Kd.slice 5 (Kd.int .u8)) (w0 := w) w.heap.size (by rfl) (.tmp 27) (.tmp 32) 44 22 (.slice none 0 0) 24 rfl Try.underlying44 info22 rfl (by decide) (by omega) v113 t112 t119 [.slice Ao26 t119.length co26] (fun _ => True) (fun k_ => some k_ = (.slice Ao26 t119.length co26 : Value).ownBlock) rfl rfl ?aP (fun k_ hk_ => ((Kd.R_mono (ok' := fun k_ => ((fun _ => True)) k_ ∧ some k_ ≠ (v113 : Value).ownBlock) (Kd.R_apart' (HO121.out) (Kd.S_typed HO114.out) (by decide)) (fun k_ hk => ⟨trivial,hk.2⟩))).1 k_ hk_.symm) ?aF ?aO ?aB ?aS ?aL ?_
      (case aP => exact Kd.M_row (Kd.R_mono (Kd.R_tight rfl (Kd.R_mono (ok' := fun k_ => ((fun _ => True)) k_ ∧ some k_ ≠ (v113 : Value).ownBlock) (Kd.R_apart' (HO121.out) (Kd.S_typed HO114.out) (by decide)) (fun k_ hk => ⟨trivial,hk.2⟩))) (fun _ h_ => h_)))
      (case aB => exact (by repeat (first | (with_reducible first | exact HB.out | apply qj | apply qz | apply qk) | exact HB.out)))
      (case aF => exact (fun _ _ => trivial))
      (case aO => exact (by (with_reducible repeat (first | apply Kd.kx | apply Kd.kw | apply Kd.vq));exact Kd.S_mono HO114.out (fun k_ hk => ⟨trivial,fun e_ => hk.2 e_⟩)))
      (case aS => exact (zw (by repeat (first | (with_reducible first | exact HB.out | apply qj | apply qz | apply qk) | exact HB.out))))
      (case aL => have := LMc19.out;omega)
      intro v123 w25 ho hb hg hat
      rw [← Ny122.out] at ho
      have n0_ := qq.mk (hb)
      have n1_ := qq.mk (ho)
      clear HB
      clear HO114
      clear HO121
      have HB := n0_
      have HO124 := n1_
      clear n0_ n1_
      clear ho hb hg hat
      refine hK.out _ _ trivial (fun hHeld => ?_)
      clear hK K
      refine norm_ (a' := ?_) ?_ ?_
      rotate_left
      ·show Act.put _ (some 33) _ = _
       simp only [Act.put,List.setIfInBounds_toArray,List.set_cons_zero,List.set_cons_succ,i64_w,i32_w]
       rfl
      refine pure_ (i := 12) (N := some 6) (v := ?_) (a' := ?_) #[true,true,true,true,true,true,true,true,true,true,true,true,true] rfl rfl (any_of HT_.out (by kernel_rfl)) (fun _ _ _ h => h) (Or.inl ⟨by rfl,?_⟩) ?_ ?_
      rotate_left
      ·intro w'
       go_simp
       with_reducible rfl
      rotate_left
      ·simp only [Act.put,List.setIfInBounds_toArray,List.set_cons_zero,List.set_cons_succ,i64_w,i32_w]
       rfl
      refine done_ (done_of HT_.out (by kernel_rfl)) ?_
      try go_wp2
      go_ret
      exact ⟨_,by first | rfl | (simp [*,jk,jj] <;> rfl),by (with_reducible repeat (first | apply Kd.kx | apply Kd.kw | apply Kd.vq));exact HO124.out,by repeat (first | (with_reducible first | exact HB.out | apply qj | apply qz | apply qk) | exact HB.out)⟩
     ·rw [if_neg c19] at H
      exact absurd H (by simp)
    ·rw [if_neg c14] at H
     exact absurd H (by simp)
   ·rw [if_neg c13] at H
    exact absurd H (by simp)
  ·rw [if_neg c12] at H
   have c12b0 : decide (a1 ≤ t107) = false := decide_eq_false c12
   clear c12
   by_cases c27 : 0 ≤ t107
   ·rw [if_pos c27] at H
    have c27b0 := eq_true c27
    have c27b1 : decide (0 ≤ t107) = true := decide_eq_true c27
    clear c27
    by_cases c28 : t107 ≤ (l0.length : Int)
    ·rw [if_pos c28] at H
     have c28b0 := eq_true c28
     have c28b1 : decide (t107 ≤ (l0.length : Int)) = true := decide_eq_true c28
     clear c28
     obtain ⟨y125,hy125⟩ : ∃ y_ : List (List Int),y_ = (l0.drop (t107 : Int).toNat) := ⟨_,rfl⟩
     replace H : ((xx.f k y125 (wrap64 (a1 - t107)) false).bind fun t129 => ((qqv.f k (l0.take (t107 : Int).toNat)).bind fun t136 => (if t129.length < 5864062014805 then (some (t129 ++ [t136])) else (none)))) = some r := by first | (rw [hy125];with_reducible exact H) | (have H2_ := (Option.bind_some _ _).symm.trans H;rw [hy125];with_reducible exact H2_) | (have H2_ := (Option.bind_some _ _).symm.trans H;with_reducible exact H2_) | with_reducible exact H | (rw [hy125];exact H) | exact H
     have Ny125 := qq.mk hy125
     clear hy125
     replace H := Option.bind_eq_some_iff.mp H
     obtain ⟨t129,A290,H⟩ := H
     replace H : ((qqv.f k (l0.take (t107 : Int).toNat)).bind fun t136 => (if t129.length < 5864062014805 then (some (t129 ++ [t136])) else (none))) = some r := H
     have A29 := qq.mk A290
     clear A290
     have c30b0 := eq_true (of_decide_eq_true (by assumption) : 0 ≤ t107)
     have c31b0 := eq_true (of_decide_eq_true (by assumption) : t107 ≤ (l0.length : Int))
     obtain ⟨y132,hy132⟩ : ∃ y_ : List (List Int),y_ = (l0.take (t107 : Int).toNat) := ⟨_,rfl⟩
     replace H : ((qqv.f k y132).bind fun t136 => (if t129.length < 5864062014805 then (some (t129 ++ [t136])) else (none))) = some r := by first | (rw [hy132];with_reducible exact H) | (have H2_ := (Option.bind_some _ _).symm.trans H;rw [hy132];with_reducible exact H2_) | (have H2_ := (Option.bind_some _ _).symm.trans H;with_reducible exact H2_) | with_reducible exact H | (rw [hy132];exact H) | exact H
     have Ny132 := qq.mk hy132
     clear hy132
     replace H := Option.bind_eq_some_iff.mp H
     obtain ⟨t136,A320,H⟩ := H
     replace H : (if t129.length < 5864062014805 then (some (t129 ++ [t136])) else (none)) = some r := H
     have A32 := qq.mk A320
     clear A320
     by_cases c33 : t129.length < 5864062014805
     ·rw [if_pos c33] at H
      have LMc33 := qq.mk c33
      clear c33
      obtain ⟨y139,hy139⟩ : ∃ y_ : List (List Int),y_ = (t129 ++ [t136]) := ⟨_,rfl⟩
      replace H : (some y139) = some r := by first | (rw [hy139];with_reducible exact H) | (have H2_ := (Option.bind_some _ _).symm.trans H;rw [hy139];with_reducible exact H2_) | (have H2_ := (Option.bind_some _ _).symm.trans H;with_reducible exact H2_) | with_reducible exact H | (rw [hy139];exact H) | exact H
      have Ny139 := qq.mk hy139
      clear hy139
      obtain rfl := Option.some.inj H
      go_enter Try.func89,Try.ntmps89
      try go_wp2_with (first | ((with_reducible refine jv (f := 121) rfl ?_);refine goesL_ (some 18) rfl rfl Try.func121 (by kernel_rfl) rfl #[.int .i64 (l0.length : Int)] rfl (by (try simp only [List.map_toArray,List.map_cons,List.map_nil]);first | done | rfl | (simp only [List.length_drop,List.length_take];rfl)) ?_;(with_reducible refine (qqz.calls k (l0.length : Int) t107 _ A11.out).mono ?_);rintro e w' ⟨rfl,⟨nd,rfl⟩⟩;refine ⟨_,rfl,?_⟩))
      have n0_ := qq.mk (qk (qz HB.out nd))
      clear HB
      have HB := n0_
      clear n0_
      have q35 : (t107 : Int) ≤ ((l0.length : Int) : Int) := of_decide_eq_true (by assumption)
      obtain ⟨i035,hi035,_,hsz35,_⟩ := info_parts info22
      have hroom35 : l0.length ≤ c0 := HC0.out
      have hC35 : Kd.C (Kd.slice 5 (Kd.int .u8)) _ A0 l0.length l0 := HR0.out
      have q035 : (0 : Int) ≤ (t107 : Int) := of_decide_eq_true (by assumption)
      have hcut35 := cut_from (P := Try.prog) 44 22 .i64 Try.underlying44 hi035 1 hsz35 A0 l0.length c0 t107 q035 q35
      have hr35 := Kd.C_drop (m := (t107 : Int).toNat) (c := c0) hC35 (by omega) hroom35
      obtain ⟨A35,hA35⟩ : ∃ A1,A1 = (if c0 = (t107 : Int).toNat then A0 else (A0 : Option Addr).map (·.add ((t107 : Int).toNat * 1))) := ⟨_,rfl⟩
      obtain ⟨c35,hc35⟩ : ∃ c1,c1 = c0 - (t107 : Int).toNat := ⟨_,rfl⟩
      have hy35 : y125.length = l0.length - (t107 : Int).toNat := (by rw [Ny125.out,List.length_drop] <;> omega)
      rw [show (l0).drop (t107 : Int).toNat = y125 from Ny125.out.symm] at hr35
      replace hr35 : Kd.C (Kd.slice 5 (Kd.int .u8)) _ A35 y125.length y125 := (by rw [hA35];exact hr35)
      rw [← hy35,← hA35,← hc35] at hcut35
      have HR128 := qq.mk hr35
      have HC128 := qq.mk (show y125.length ≤ c35 from by rw [hy35,hc35];exact Nat.sub_le_sub_right hroom35 _)
      clear hr35 hC35 hroom35 hi035 hsz35 hc35
      have KY35 := qq.mk hy35
      have KA35 := qq.mk hA35
      clear hy35 hA35
      replace q35 := eq_true q35
      have q36 : (t107 : Int) ≤ ((l0.length : Int) : Int) := of_decide_eq_true (by assumption)
      obtain ⟨i036,hi036,_,hsz36,_⟩ := info_parts info22
      have hroom36 : l0.length ≤ c0 := HC0.out
      have hC36 : Kd.C (Kd.slice 5 (Kd.int .u8)) _ A0 l0.length l0 := HR0.out
      have hcut36 := cut_to (P := Try.prog) 44 22 .i64 Try.underlying44 hi036 A0 l0.length c0 t107 (of_decide_eq_true (by assumption)) q36 hroom36
      have hr36 := Kd.C_take (m := (t107 : Int).toNat) hC36 (by omega)
      have hy36 : y132.length = (t107 : Int).toNat := (by rw [Ny132.out,List.length_take];omega)
      rw [← Ny132.out] at hr36
      rw [← hy36] at hcut36
      have HR135 := qq.mk hr36
      have HC135 := qq.mk (show y132.length ≤ c0 from by omega)
      clear hr36 hC36 hroom36 hi036 hsz36
      have KY36 := qq.mk hy36
      clear hy36
      replace q36 := eq_true q36
      refine start_ (n := 14) (S := fun w' => True) (ds := []) #[false,false,false,false,false,false,false,false,false,false,false,false,false,false] (by kernel_rfl) rfl rfl trivial (fun hHeld => ?_);refine with_tabW xx.tab8 xx.bits8 (fun HT_ HW_ => ?_)
      generalize (w.drewN nd).drew = w34 at HB HR128 HR135 hHeld ⊢
      refine pure_ (i := 0) (N := some 34) (v := ?_) (a' := ?_) #[true,false,false,false,false,false,false,false,false,false,false,false,false,false] rfl rfl (any_of HT_.out (by kernel_rfl)) (fun _ _ _ h => h) (Or.inl ⟨by rfl,?_⟩) ?_ ?_
      rotate_left
      ·intro w'
       go_simp
       with_reducible rfl
      rotate_left
      ·simp only [Act.put,List.setIfInBounds_toArray,List.set_cons_zero,List.set_cons_succ,i64_w,i32_w]
       rfl
      refine pure_ (i := 1) (N := some 35) (v := ?_) (a' := ?_) #[true,true,false,false,false,false,false,false,false,false,false,false,false,false] rfl rfl (any_of HT_.out (by kernel_rfl)) (fun _ _ _ h => h) (Or.inl ⟨by rfl,?_⟩) ?_ ?_
      rotate_left
      ·intro w'
       go_simp
       with_reducible rfl
      rotate_left
      ·simp only [Act.put,List.setIfInBounds_toArray,List.set_cons_zero,List.set_cons_succ,i64_w,i32_w]
       rfl
      refine pure_ (i := 2) (N := some 36) (v := ?_) (a' := ?_) #[true,true,true,false,false,false,false,false,false,false,false,false,false,false] rfl rfl (any_of HT_.out (by kernel_rfl)) (fun _ _ _ h => h) (Or.inl ⟨by rfl,?_⟩) ?_ ?_
      rotate_left
      ·intro w'
       go_simp
       with_reducible rfl
      rotate_left
      ·simp only [Act.put,List.setIfInBounds_toArray,List.set_cons_zero,List.set_cons_succ,i64_w,i32_w]
       rfl
      refine pure_ (i := 3) (N := some 37) (v := ?_) (a' := ?_) #[true,true,true,true,false,false,false,false,false,false,false,false,false,false] rfl rfl (any_of HT_.out (by kernel_rfl)) (fun _ _ _ h => h) (Or.inl ⟨by rfl,?_⟩) ?_ ?_
      rotate_left
      ·intro w'
       go_simp
       with_reducible rfl
      rotate_left
      ·simp only [Act.put,List.setIfInBounds_toArray,List.set_cons_zero,List.set_cons_succ,i64_w,i32_w]
       rfl
      refine pure_ (i := 4) (N := some 38) (v := ?_) (a' := ?_) #[true,true,true,true,true,false,false,false,false,false,false,false,false,false] rfl rfl (any_of HT_.out (by kernel_rfl)) (fun _ _ _ h => h) (Or.inl ⟨by rfl,?_⟩) ?_ ?_
      rotate_left
      ·intro w'
       go_simp
       with_reducible rfl
      rotate_left
      ·simp only [Act.put,List.setIfInBounds_toArray,List.set_cons_zero,List.set_cons_succ,i64_w,i32_w]
       rfl
      refine pure_ (i := 5) (N := some 39) (v := ?_) (a' := ?_) #[true,true,true,true,true,true,false,false,false,false,false,false,false,false] rfl rfl (any_of HT_.out (by kernel_rfl)) (fun _ _ _ h => h) (Or.inl ⟨by rfl,?_⟩) ?_ ?_
      rotate_left
      ·intro w'
       go_simp
       with_reducible rfl
      rotate_left
      ·simp only [Act.put,List.setIfInBounds_toArray,List.set_cons_zero,List.set_cons_succ,i64_w,i32_w]
       rfl
      refine pure_ (i := 7) (N := some 41) (v := ?_) (a' := ?_) #[true,true,true,true,true,true,false,true,false,false,false,false,false,false] rfl rfl (any_of HT_.out (by kernel_rfl)) (fun _ _ _ h => h) (Or.inl ⟨by rfl,?_⟩) ?_ ?_
      rotate_left
      ·intro w'
       go_simp
       with_reducible rfl
      rotate_left
      ·simp only [Act.put,List.setIfInBounds_toArray,List.set_cons_zero,List.set_cons_succ,i64_w,i32_w]
       rfl
      refine pure_ (i := 8) (N := some 42) (v := ?_) (a' := ?_) #[true,true,true,true,true,true,false,true,true,false,false,false,false,false] rfl rfl (any_of HT_.out (by kernel_rfl)) (fun _ _ _ h => h) (Or.inl ⟨by rfl,?_⟩) ?_ ?_
      rotate_left
      ·intro w'
       go_simp
       with_reducible rfl
      rotate_left
      ·simp only [Act.put,List.setIfInBounds_toArray,List.set_cons_zero,List.set_cons_succ,i64_w,i32_w]
       rfl
      refine pure_ (i := 9) (N := some 43) (v := ?_) (a' := ?_) #[true,true,true,true,true,true,false,true,true,true,false,false,false,false] rfl rfl (any_of HT_.out (by kernel_rfl)) (fun _ _ _ h => h) (Or.inl ⟨by rfl,?_⟩) ?_ ?_
      rotate_left
      ·intro w'
       go_simp
       with_reducible rfl
      rotate_left
      ·simp only [Act.put,List.setIfInBounds_toArray,List.set_cons_zero,List.set_cons_succ,i64_w,i32_w]
       rfl
      refine one_ (i := 6) (N := some 40) #[true,true,true,true,true,true,true,true,true,true,false,false,false,false] rfl rfl (one_of HT_.out (by kernel_rfl)) (by decide) (fun K hK => ?_)
      refine goes_ Try.func89 (by kernel_rfl) rfl #[.slice A35 y125.length c35,.int .i64 (wrap64 (a1 - t107)),.bool false] (by rfl) rfl rfl (by (try simp only [List.map_toArray,List.map_cons,List.map_nil]);first | done | rfl | (simp only [List.length_drop,List.length_take];rfl)) ?_
      with_reducible refine (ih k (by omega) _ _ y125 (wrap64 (a1 - t107)) false t129 _ ?side1 ?side2 A29.out).mono ?_
      (case side1 => repeat (first | exact (Kd.C_below HR128.out HB.out) | (with_reducible refine Kd.C_alloc ?_ _) | (with_reducible refine Kd.C_drewN ?_ _) | (with_reducible refine Kd.C_drew ?_)))
      (case side2 => exact HC128.out)
      rintro e w37 ⟨v130,rfl,ho0,hb⟩
      refine ⟨_,rfl,?_⟩
      have n0_ := qq.mk (Kd.S_lower ho0 (zw (by repeat (first | (with_reducible first | exact HB.out | apply qj | apply qz | apply qk) | exact HB.out))))
      have n1_ := qq.mk (zv (by repeat (first | (with_reducible first | exact HB.out | apply qj | apply qz | apply qk) | exact HB.out)) hb)
      clear HB
      have HO131 := n0_
      have HB := n1_
      clear n0_ n1_
      (try clear hb)
      (try clear hb2)
      (try clear hk)
      (try clear hi)
      (try clear ho0)
      refine hK.out _ _ trivial (fun hHeld => ?_)
      clear hK K
      refine norm_ (a' := ?_) ?_ ?_
      rotate_left
      ·show Act.put _ (some 40) _ = _
       simp only [Act.put,List.setIfInBounds_toArray,List.set_cons_zero,List.set_cons_succ,i64_w,i32_w]
       rfl
      refine one_ (i := 10) (N := some 44) #[true,true,true,true,true,true,true,true,true,true,true,false,false,false] rfl rfl (one_of HT_.out (by kernel_rfl)) (by decide) (fun K hK => ?_)
      refine goes_ Try.func83 (by kernel_rfl) rfl #[.slice A0 y132.length c0] (by rfl) rfl rfl (by (try simp only [List.map_toArray,List.map_cons,List.map_nil]);first | done | rfl | (simp only [List.length_drop,List.length_take];rfl)) ?_
      with_reducible refine (qqv.calls k _ _ y132 t136 _ ?side1 ?side2 A32.out).mono ?_
      (case side1 => repeat (first | exact (Kd.C_below HR135.out HB.out) | (with_reducible refine Kd.C_alloc ?_ _) | (with_reducible refine Kd.C_drewN ?_ _) | (with_reducible refine Kd.C_drew ?_)))
      (case side2 => exact HC135.out)
      rintro e w38 ⟨v137,rfl,ho0,hb⟩
      refine ⟨_,rfl,?_⟩
      have n0_ := qq.mk (Kd.S_elder' (by (with_reducible repeat (first | apply Kd.kx | apply Kd.kw | apply Kd.vq));exact HO131.out) (Kd.R_base ho0) hb)
      have n1_ := qq.mk (Kd.R_lower ho0 (zw (by repeat (first | (with_reducible first | exact HB.out | apply qj | apply qz | apply qk) | exact HB.out))))
      have n2_ := qq.mk (zv (by repeat (first | (with_reducible first | exact HB.out | apply qj | apply qz | apply qk) | exact HB.out)) hb)
      clear HO131
      clear HB
      have HO131 := n0_
      have HO138 := n1_
      have HB := n2_
      clear n0_ n1_ n2_
      (try clear hb)
      (try clear hb2)
      (try clear hk)
      (try clear hi)
      (try clear ho0)
      obtain ⟨Ao40,co40,eo40⟩ := Kd.R_slice HO138.out
      (first | subst eo40 | (injection eo40 with f1_ f2_ f3_;have f4_ := f1_.symm;have f5_ := f3_.symm;clear f1_ f2_ f3_;subst f4_;subst f5_))
      refine hK.out _ _ trivial (fun hHeld => ?_)
      clear hK K
      refine norm_ (a' := ?_) ?_ ?_
      rotate_left
      ·show Act.put _ (some 44) _ = _
       simp only [Act.put,List.setIfInBounds_toArray,List.set_cons_zero,List.set_cons_succ,i64_w,i32_w]
       rfl
      refine one_ (i := 11) (N := some 45) #[true,true,true,true,true,true,true,true,true,true,true,true,false,false] rfl rfl (one_of HT_.out (by kernel_rfl)) (by decide) (fun K hK => ?_)
      refine value_ (w1 := ?_) (v := ?_) (by rfl) rfl ?_ ?_
      rotate_left 2
      ·go_simp
       constructor
       ·rfl
       ·rfl
      refine hK.out _ _ trivial (fun hHeld => ?_)
      clear hK K
      refine norm_ (a' := ?_) ?_ ?_
      rotate_left
      ·show Act.put _ (some 45) _ = _
       simp only [Act.put,List.setIfInBounds_toArray,List.set_cons_zero,List.set_cons_succ,i64_w,i32_w]
       rfl
      refine one_ (i := 12) (N := some 46) #[true,true,true,true,true,true,true,true,true,true,true,true,true,false] rfl rfl (one_of HT_.out (by kernel_rfl)) (by decide) (fun K hK => ?_)
      refine Kd.S_append_step (Kd.slice 5 (Kd.int .u8)) (w0 := w) w.heap.size (by rfl) (.tmp 40) (.tmp 45) 44 22 (.slice none 0 0) 24 rfl Try.underlying44 info22 rfl (by decide) (by omega) v130 t129 t136 [.slice Ao40 t136.length co40] (fun _ => True) (fun k_ => some k_ = (.slice Ao40 t136.length co40 : Value).ownBlock) rfl rfl ?aP (fun k_ hk_ => ((Kd.R_mono (ok' := fun k_ => ((fun _ => True)) k_ ∧ some k_ ≠ (v130 : Value).ownBlock) (Kd.R_apart' (HO138.out) (Kd.S_typed HO131.out) (by decide)) (fun k_ hk => ⟨trivial,hk.2⟩))).1 k_ hk_.symm) ?aF ?aO ?aB ?aS ?aL ?_
      (case aP => exact Kd.M_row (Kd.R_mono (Kd.R_tight rfl (Kd.R_mono (ok' := fun k_ => ((fun _ => True)) k_ ∧ some k_ ≠ (v130 : Value).ownBlock) (Kd.R_apart' (HO138.out) (Kd.S_typed HO131.out) (by decide)) (fun k_ hk => ⟨trivial,hk.2⟩))) (fun _ h_ => h_)))
      (case aB => exact (by repeat (first | (with_reducible first | exact HB.out | apply qj | apply qz | apply qk) | exact HB.out)))
      (case aF => exact (fun _ _ => trivial))
      (case aO => exact (by (with_reducible repeat (first | apply Kd.kx | apply Kd.kw | apply Kd.vq));exact Kd.S_mono HO131.out (fun k_ hk => ⟨trivial,fun e_ => hk.2 e_⟩)))
      (case aS => exact (zw (by repeat (first | (with_reducible first | exact HB.out | apply qj | apply qz | apply qk) | exact HB.out))))
      (case aL => have := LMc33.out;omega)
      intro v140 w39 ho hb hg hat
      rw [← Ny139.out] at ho
      have n0_ := qq.mk (hb)
      have n1_ := qq.mk (ho)
      clear HB
      clear HO131
      clear HO138
      have HB := n0_
      have HO141 := n1_
      clear n0_ n1_
      clear ho hb hg hat
      refine hK.out _ _ trivial (fun hHeld => ?_)
      clear hK K
      refine norm_ (a' := ?_) ?_ ?_
      rotate_left
      ·show Act.put _ (some 46) _ = _
       simp only [Act.put,List.setIfInBounds_toArray,List.set_cons_zero,List.set_cons_succ,i64_w,i32_w]
       rfl
      refine pure_ (i := 13) (N := some 6) (v := ?_) (a' := ?_) #[true,true,true,true,true,true,true,true,true,true,true,true,true,true] rfl rfl (any_of HT_.out (by kernel_rfl)) (fun _ _ _ h => h) (Or.inl ⟨by rfl,?_⟩) ?_ ?_
      rotate_left
      ·intro w'
       go_simp
       with_reducible rfl
      rotate_left
      ·simp only [Act.put,List.setIfInBounds_toArray,List.set_cons_zero,List.set_cons_succ,i64_w,i32_w]
       rfl
      refine done_ (done_of HT_.out (by kernel_rfl)) ?_
      try go_wp2
      go_ret
      exact ⟨_,by first | rfl | (simp [*,jk,jj] <;> rfl),by (with_reducible repeat (first | apply Kd.kx | apply Kd.kw | apply Kd.vq));exact HO141.out,by repeat (first | (with_reducible first | exact HB.out | apply qj | apply qz | apply qk) | exact HB.out)⟩
     ·rw [if_neg c33] at H
      exact absurd H (by simp)
    ·rw [if_neg c28] at H
     exact absurd H (by simp)
   ·rw [if_neg c27] at H
    exact absurd H (by simp)
def wx.f (k : Nat) (l0 : List (S27)) (a1 : Int) : Option ((List (List Int))) := (qqj.f k l0).bind fun bt101 => (if bt101.2 = true then (if a1 < 1 then (some ([] : List (List Int))) else (if a1 > (bt101.1.length : Int) then (some ([] : List (List Int))) else ((xx.f k bt101.1 a1 true).bind fun t105 => (some t105)))) else (some ([] : List (List Int))))
set_option maxHeartbeats 8000000 in
set_option maxRecDepth 100000 in
theorem wx.calls (k : Nat) (A0 : Option Addr) (c0 : Nat) (l0 : List (S27)) (a1 : Int) (r : List (List Int)) (w : World) (hr0 : Kd.C k27 w A0 l0.length l0) (hc0 : l0.length ≤ c0) (h : wx.f k l0 a1 = some r) :
  Calls Try.prog 45 #[.slice A0 l0.length c0,.int .i64 a1] w fun e w' => ∃ v0_ : Value,e = .returned (v0_) ∧ Kd.S (Kd.slice 5 (Kd.int .u8)) 22 w' w.heap.size (fun _ => True) v0_ r ∧ Below w.heap.size w w' := by
 have HR0 := qq.mk hr0
 have HC0 := qq.mk hc0
 clear hr0 hc0
 have HB := qq.mk (Below.refl w.heap.size w)
 have H : ((qqj.f k l0).bind fun bt101 => (if bt101.2 = true then (if a1 < 1 then (some ([] : List (List Int))) else (if a1 > (bt101.1.length : Int) then (some ([] : List (List Int))) else ((xx.f k bt101.1 a1 true).bind fun t105 => (some t105)))) else (some ([] : List (List Int))))) = some r := h
 clear h
 replace H := Option.bind_eq_some_iff.mp H
 obtain ⟨⟨t101,t102⟩,A30,H⟩ := H
 replace H : (if t102 = true then (if a1 < 1 then (some ([] : List (List Int))) else (if a1 > (t101.length : Int) then (some ([] : List (List Int))) else ((xx.f k t101 a1 true).bind fun t105 => (some t105)))) else (some ([] : List (List Int)))) = some r := H
 have A3 := qq.mk A30
 clear A30
 by_cases c4 : t102 = true
 ·subst c4
  have H1 : (if a1 < 1 then (some ([] : List (List Int))) else (if a1 > (t101.length : Int) then (some ([] : List (List Int))) else ((xx.f k t101 a1 true).bind fun t105 => (some t105)))) = some r := by rw [if_pos rfl] at H;exact H
  clear H
  have H := H1
  clear H1
  by_cases c5 : a1 < 1
  ·rw [if_pos c5] at H
   have c5b0 : decide (a1 < 1) = true := decide_eq_true c5
   clear c5
   obtain rfl := Option.some.inj H
   go_enter Try.func45,Try.ntmps45
   go_wp2_with (first | ((with_reducible refine jv (f := 82) rfl ?_);refine goesL_ (some 9) rfl rfl Try.func82 (by kernel_rfl) rfl #[.slice A0 l0.length c0] rfl (by (try simp only [List.map_toArray,List.map_cons,List.map_nil]);first | done | rfl | (simp only [List.length_drop,List.length_take];rfl)) ?_;(with_reducible refine (qqj.calls k _ _ l0 t101 true _ ?side1 ?side2 A3.out).mono ?_);(case side1 => repeat (first | exact HR0.out | (with_reducible refine Kd.C_alloc ?_ _) | (with_reducible refine Kd.C_drewN ?_ _) | (with_reducible refine Kd.C_drew ?_)));(case side2 => exact HC0.out);rintro e w6 ⟨v103,rfl,ho0,hb⟩;refine ⟨_,rfl,?_⟩;have n0_ := qq.mk (Kd.S_lower ho0 (zw (by repeat (first | (with_reducible first | exact HB.out | apply qj | apply qz | apply qk) | exact HB.out))));have n1_ := qq.mk (zv (by repeat (first | (with_reducible first | exact HB.out | apply qj | apply qz | apply qk) | exact HB.out)) hb);clear HB;have HO104 := n0_;have HB := n1_;clear n0_ n1_;(try clear hb);(try clear hb2);(try clear hk);(try clear hi);(try clear ho0)))
   go_ret
   exact ⟨_,by first | rfl | (simp [*,jk,jj] <;> rfl),by first | exact Kd.S_nil _ _ _ _ _ | exact Kd.N_nil _ _ _ _ _ | exact Kd.V_nil _ _ _ _ _ | exact Kd.Q_nil _ _ _ _ _ | exact Kd.R_nil _ _ _ _ _,by repeat (first | (with_reducible first | exact HB.out | apply qj | apply qz | apply qk) | exact HB.out)⟩
  ·rw [if_neg c5] at H
   have c5b0 : decide (a1 < 1) = false := decide_eq_false c5
   clear c5
   by_cases c7 : a1 > (t101.length : Int)
   ·rw [if_pos c7] at H
    have c7b0 : decide ((t101.length : Int) < a1) = true := decide_eq_true c7
    clear c7
    obtain rfl := Option.some.inj H
    go_enter Try.func45,Try.ntmps45
    go_wp2_with (first | ((with_reducible refine jv (f := 82) rfl ?_);refine goesL_ (some 9) rfl rfl Try.func82 (by kernel_rfl) rfl #[.slice A0 l0.length c0] rfl (by (try simp only [List.map_toArray,List.map_cons,List.map_nil]);first | done | rfl | (simp only [List.length_drop,List.length_take];rfl)) ?_;(with_reducible refine (qqj.calls k _ _ l0 t101 true _ ?side1 ?side2 A3.out).mono ?_);(case side1 => repeat (first | exact HR0.out | (with_reducible refine Kd.C_alloc ?_ _) | (with_reducible refine Kd.C_drewN ?_ _) | (with_reducible refine Kd.C_drew ?_)));(case side2 => exact HC0.out);rintro e w8 ⟨v103,rfl,ho0,hb⟩;refine ⟨_,rfl,?_⟩;have n0_ := qq.mk (Kd.S_lower ho0 (zw (by repeat (first | (with_reducible first | exact HB.out | apply qj | apply qz | apply qk) | exact HB.out))));have n1_ := qq.mk (zv (by repeat (first | (with_reducible first | exact HB.out | apply qj | apply qz | apply qk) | exact HB.out)) hb);clear HB;have HO104 := n0_;have HB := n1_;clear n0_ n1_;(try clear hb);(try clear hb2);(try clear hk);(try clear hi);(try clear ho0);obtain ⟨Ao9,co9,eo9⟩ := Kd.S_slice HO104.out;subst eo9))
    go_ret
    exact ⟨_,by first | rfl | (simp [*,jk,jj] <;> rfl),by first | exact Kd.S_nil _ _ _ _ _ | exact Kd.N_nil _ _ _ _ _ | exact Kd.V_nil _ _ _ _ _ | exact Kd.Q_nil _ _ _ _ _ | exact Kd.R_nil _ _ _ _ _,by repeat (first | (with_reducible first | exact HB.out | apply qj | apply qz | apply qk) | exact HB.out)⟩
   ·rw [if_neg c7] at H
    have c7b0 : decide ((t101.length : Int) < a1) = false := decide_eq_false c7
    clear c7
    replace H := Option.bind_eq_some_iff.mp H
    obtain ⟨t105,A100,H⟩ := H
    replace H : (some t105) = some r := H
    have A10 := qq.mk A100
    clear A100
    obtain rfl := Option.some.inj H
    go_enter Try.func45,Try.ntmps45
    go_wp2_with (first | ((with_reducible refine jv (f := 82) rfl ?_);refine goesL_ (some 9) rfl rfl Try.func82 (by kernel_rfl) rfl #[.slice A0 l0.length c0] rfl (by (try simp only [List.map_toArray,List.map_cons,List.map_nil]);first | done | rfl | (simp only [List.length_drop,List.length_take];rfl)) ?_;(with_reducible refine (qqj.calls k _ _ l0 t101 true _ ?side1 ?side2 A3.out).mono ?_);(case side1 => repeat (first | exact HR0.out | (with_reducible refine Kd.C_alloc ?_ _) | (with_reducible refine Kd.C_drewN ?_ _) | (with_reducible refine Kd.C_drew ?_)));(case side2 => exact HC0.out);rintro e w11 ⟨v103,rfl,ho0,hb⟩;refine ⟨_,rfl,?_⟩;have n0_ := qq.mk (Kd.S_lower ho0 (zw (by repeat (first | (with_reducible first | exact HB.out | apply qj | apply qz | apply qk) | exact HB.out))));have n1_ := qq.mk (zv (by repeat (first | (with_reducible first | exact HB.out | apply qj | apply qz | apply qk) | exact HB.out)) hb);clear HB;have HO104 := n0_;have HB := n1_;clear n0_ n1_;(try clear hb);(try clear hb2);(try clear hk);(try clear hi);(try clear ho0);obtain ⟨Ao12,co12,eo12⟩ := Kd.S_slice HO104.out;subst eo12) | ((with_reducible refine jv (f := 89) rfl ?_);refine goesL_ (some 26) rfl rfl Try.func89 (by kernel_rfl) rfl #[.slice Ao12 t101.length co12,.int .i64 a1,.bool true] rfl (by (try simp only [List.map_toArray,List.map_cons,List.map_nil]);first | done | rfl | (simp only [List.length_drop,List.length_take];rfl)) ?_;(with_reducible refine (xx.calls k _ _ t101 a1 true t105 _ ?side1 ?side2 A10.out).mono ?_);(case side1 => repeat (first | exact (Kd.S_reads' HO104.out).2.2 | (with_reducible refine Kd.C_alloc ?_ _) | (with_reducible refine Kd.C_drewN ?_ _) | (with_reducible refine Kd.C_drew ?_)));(case side2 => exact (Kd.S_reads' HO104.out).2.1);rintro e w13 ⟨v106,rfl,ho0,hb⟩;refine ⟨_,rfl,?_⟩;have n0_ := qq.mk (Kd.S_elder' (by (with_reducible repeat (first | apply Kd.kx | apply Kd.kw | apply Kd.vq));exact HO104.out) (Kd.S_base ho0) hb);have n1_ := qq.mk (Kd.S_lower ho0 (zw (by repeat (first | (with_reducible first | exact HB.out | apply qj | apply qz | apply qk) | exact HB.out))));have n2_ := qq.mk (zv (by repeat (first | (with_reducible first | exact HB.out | apply qj | apply qz | apply qk) | exact HB.out)) hb);clear HO104;clear HB;have HO104 := n0_;have HO107 := n1_;have HB := n2_;clear n0_ n1_ n2_;(try clear hb);(try clear hb2);(try clear hk);(try clear hi);(try clear ho0)))
    go_ret
    exact ⟨_,by first | rfl | (simp [*,jk,jj] <;> rfl),by (with_reducible repeat (first | apply Kd.kx | apply Kd.kw | apply Kd.vq));exact Kd.S_mono HO107.out (fun _ hk => trivial),by repeat (first | (with_reducible first | exact HB.out | apply qj | apply qz | apply qk) | exact HB.out)⟩
 ·replace c4 := Bool.eq_false_iff.mpr c4
  subst c4
  have H1 : (some ([] : List (List Int))) = some r := by rw [if_neg (show ¬ (false = true) by decide)] at H;exact H
  clear H
  have H := H1
  clear H1
  obtain rfl := Option.some.inj H
  go_enter Try.func45,Try.ntmps45
  go_wp2_with (first | ((with_reducible refine jv (f := 82) rfl ?_);refine goesL_ (some 9) rfl rfl Try.func82 (by kernel_rfl) rfl #[.slice A0 l0.length c0] rfl (by (try simp only [List.map_toArray,List.map_cons,List.map_nil]);first | done | rfl | (simp only [List.length_drop,List.length_take];rfl)) ?_;(with_reducible refine (qqj.calls k _ _ l0 t101 false _ ?side1 ?side2 A3.out).mono ?_);(case side1 => repeat (first | exact HR0.out | (with_reducible refine Kd.C_alloc ?_ _) | (with_reducible refine Kd.C_drewN ?_ _) | (with_reducible refine Kd.C_drew ?_)));(case side2 => exact HC0.out);rintro e w14 ⟨v103,rfl,ho0,hb⟩;refine ⟨_,rfl,?_⟩;have n0_ := qq.mk (Kd.S_lower ho0 (zw (by repeat (first | (with_reducible first | exact HB.out | apply qj | apply qz | apply qk) | exact HB.out))));have n1_ := qq.mk (zv (by repeat (first | (with_reducible first | exact HB.out | apply qj | apply qz | apply qk) | exact HB.out)) hb);clear HB;have HO104 := n0_;have HB := n1_;clear n0_ n1_;(try clear hb);(try clear hb2);(try clear hk);(try clear hi);(try clear ho0)))
  go_ret
  exact ⟨_,by first | rfl | (simp [*,jk,jj] <;> rfl),by first | exact Kd.S_nil _ _ _ _ _ | exact Kd.N_nil _ _ _ _ _ | exact Kd.V_nil _ _ _ _ _ | exact Kd.Q_nil _ _ _ _ _ | exact Kd.R_nil _ _ _ _ _,by repeat (first | (with_reducible first | exact HB.out | apply qj | apply qz | apply qk) | exact HB.out)⟩
def qjz.f (l0 : List Int) (a1 : Int) : Option (Int) := if (wrap64 (a1 - (l0.length : Int))) < 0 then (some (-1)) else (some (wrap64 (a1 - (l0.length : Int))))
set_option maxHeartbeats 8000000 in
set_option maxRecDepth 100000 in
theorem qjz.calls (A0 : Option Addr) (c0 : Nat) (l0 : List Int) (a1 : Int) (r : Int) (w : World) (hr0 : Kd.C (Kd.int .u8) w A0 l0.length l0) (hc0 : l0.length ≤ c0) (h : qjz.f l0 a1 = some r) :
  Calls Try.prog 69 #[.slice A0 l0.length c0,.int .i64 a1] w fun e w' => e = .returned (.int .i64 r) ∧ Drawn0 w w' := by
 have HR0 := qq.mk hr0
 have HC0 := qq.mk hc0
 clear hr0 hc0
 have H : (if (wrap64 (a1 - (l0.length : Int))) < 0 then (some (-1)) else (some (wrap64 (a1 - (l0.length : Int))))) = some r := h
 clear h
 by_cases c3 : (wrap64 (a1 - (l0.length : Int))) < 0
 ·rw [if_pos c3] at H
  have c3b0 : decide ((wrap64 (a1 - (l0.length : Int))) < 0) = true := decide_eq_true c3
  clear c3
  obtain rfl := Option.some.inj H
  go_enter Try.func69,Try.ntmps69
  go_wp2
  go_ret
  exact ⟨by first | rfl | (simp;done) | (simp [*];done),by repeat (first | exact Drawn0.refl _ | apply Drawn0.step)⟩
 ·rw [if_neg c3] at H
  have c3b0 : decide ((wrap64 (a1 - (l0.length : Int))) < 0) = false := decide_eq_false c3
  clear c3
  obtain rfl := Option.some.inj H
  go_enter Try.func69,Try.ntmps69
  go_wp2
  go_ret
  exact ⟨by first | rfl | (simp;done) | (simp [*];done),by repeat (first | exact Drawn0.refl _ | apply Drawn0.step)⟩
def qjv.l0 : Nat → List Int → List Int → Int → Option (List Int)
 | 0,_,_,_ => none
 | k + 1,x0,x3,x4 => if x4 < (x0.length : Int) then (if 0 ≤ x4 then (if x4 < (x3.length : Int) then (qjv.l0 k x0 (x3.set (x4 : Int).toNat (rd x0 x4)) (wrap64 (x4 + 1))) else (none)) else (none)) else (some x3)
def qjv.f (k : Nat) (l0 : List Int) : Option (List Int) := if 0 ≤ (l0.length : Int) then (if ((l0.length : Int) : Int).toNat ≤ 281474976710656 then (qjv.l0 k l0 (List.replicate ((l0.length : Int) : Int).toNat 0) 0) else (none)) else (none)
set_option maxHeartbeats 8000000 in
set_option maxRecDepth 100000 in
theorem qjv.calls (k : Nat) (A0 : Option Addr) (c0 : Nat) (l0 : List Int) (r : List Int) (w : World) (hr0 : Kd.C (Kd.int .u8) w A0 l0.length l0) (hc0 : l0.length ≤ c0) (h : qjv.f k l0 = some r) :
  Calls Try.prog 48 #[.slice A0 l0.length c0] w fun e w' => ∃ v0_ : Value,e = .returned (v0_) ∧ Kd.R (Kd.int .u8) 5 w' w.heap.size (fun _ => True) v0_ r ∧ Below w.heap.size w w' := by
 have HR0 := qq.mk hr0
 have HC0 := qq.mk hc0
 clear hr0 hc0
 have HB := qq.mk (Below.refl w.heap.size w)
 have H : (if 0 ≤ (l0.length : Int) then (if ((l0.length : Int) : Int).toNat ≤ 281474976710656 then (qjv.l0 k l0 (List.replicate ((l0.length : Int) : Int).toNat 0) 0) else (none)) else (none)) = some r := h
 clear h
 by_cases c2 : 0 ≤ (l0.length : Int)
 ·rw [if_pos c2] at H
  have c2b0 := eq_true c2
  have c2b1 : decide (0 ≤ (l0.length : Int)) = true := decide_eq_true c2
  clear c2
  by_cases c3 : ((l0.length : Int) : Int).toNat ≤ 281474976710656
  ·rw [if_pos c3] at H
   have c3b0 := eq_true c3
   have c3b1 : decide (((l0.length : Int) : Int).toNat ≤ 281474976710656) = true := decide_eq_true c3
   clear c3
   obtain ⟨y101,hy101⟩ : ∃ y_ : List Int,y_ = (List.replicate ((l0.length : Int) : Int).toNat 0) := ⟨_,rfl⟩
   replace H : (qjv.l0 k l0 y101 0) = some r := by first | (rw [hy101];with_reducible exact H) | (have H2_ := (Option.bind_some _ _).symm.trans H;rw [hy101];with_reducible exact H2_) | (have H2_ := (Option.bind_some _ _).symm.trans H;with_reducible exact H2_) | with_reducible exact H | (rw [hy101];exact H) | exact H
   have Ny101 := qq.mk hy101
   clear hy101
   have H' := qq.mk H
   clear H
   go_enter Try.func48,Try.ntmps48
   go_wp2_with (first | ((with_reducible refine gate_dst (N := 7) rfl ?_);refine Kd.R_make (Kd.int .u8) _ 5 rfl (N := 7) rfl 22 _ _ rfl (l0.length : Int) rfl rfl Try.underlying22 (.int .u8 0) 1 info5 rfl (by decide) (by omega) 0 (ok := fun _ => True) (okp := fun _ => True) rfl (fun _ hk => hk) trivial (of_decide_eq_true (by assumption)) (Nat.le_trans (Nat.mul_le_mul_right _ (of_decide_eq_true (by assumption) : (l0.length : Int).toNat ≤ 281474976710656)) (by omega)) (Below.refl _ _) (Nat.le_refl _) ?_;intro v102 w4 ho5 hb hg_ hnew_;clear hg_ hnew_;(first | rw [← Ny101.out] at ho5 | (simp only [Int.reduceToNat] at ho5;rw [← Ny101.out] at ho5));have n0_ := qq.mk (Kd.R_lower ho5 (zw (by repeat (first | (with_reducible first | exact HB.out | apply qj | apply qz | apply qk) | exact HB.out))));have n1_ := qq.mk (zv (by repeat (first | (with_reducible first | exact HB.out | apply qj | apply qz | apply qk) | exact HB.out)) hb);clear HB;have HO103 := n0_;have HB := n1_;clear n0_ n1_;clear hb ho5))
   go_loopg [4] k (fun kq v4 w' => ∃ (x3_1 : List Int) (x4_1 : Int),v4 = .int .i64 x4_1 ∧ qq (qjv.l0 kq l0 x3_1 x4_1 = some r) ∧ qq (kq ≤ k) ∧ qq (Kd.R (Kd.int .u8) 5 w' w.heap.size (fun _ => True) v102 x3_1) ∧ qq (Below w.heap.size w w'))
   case atStart => exact ⟨(y101),(0),(by first | rfl | (simp;done) | (simp [*];done)),H',⟨Nat.le_refl _⟩,⟨by (with_reducible repeat (first | apply Kd.jq | apply Kd.zx | apply Kd.jz));exact HO103.out⟩,⟨by repeat (first | (with_reducible first | exact HB.out | apply qj | apply qz | apply qk) | exact HB.out)⟩⟩
   case round =>
    clear H'
    try clear c2
    try clear c2b0
    try clear c2b1
    try clear p2
    try clear c3
    try clear c3b0
    try clear c3b1
    try clear c4
    obtain ⟨x3_1,x4_1,rfl,HA,HK1,HO_3,HB⟩ := hrel
    cases gk with
    | zero => exact absurd HA.out (by simp [qjv.l0])
    | succ k1 =>
     have H := HA.out
     clear HA
     simp only [qjv.l0] at H
     by_cases c6 : x4_1 < (l0.length : Int)
     ·rw [if_pos c6] at H
      have c6b0 : decide (x4_1 < (l0.length : Int)) = true := decide_eq_true c6
      clear c6
      by_cases c7 : 0 ≤ x4_1
      ·rw [if_pos c7] at H
       have c7b0 : decide (0 ≤ x4_1) = true := decide_eq_true c7
       clear c7
       by_cases c8 : x4_1 < (x3_1.length : Int)
       ·rw [if_pos c8] at H
        have c8b0 : decide (x4_1 < (x3_1.length : Int)) = true := decide_eq_true c8
        clear c8
        obtain ⟨y105,hy105⟩ : ∃ y_ : List Int,y_ = (x3_1.set (x4_1 : Int).toNat (rd l0 x4_1)) := ⟨_,rfl⟩
        replace H : (qjv.l0 k1 l0 y105 (wrap64 (x4_1 + 1))) = some r := by first | (rw [hy105];with_reducible exact H) | (have H2_ := (Option.bind_some _ _).symm.trans H;rw [hy105];with_reducible exact H2_) | (have H2_ := (Option.bind_some _ _).symm.trans H;with_reducible exact H2_) | with_reducible exact H | (rw [hy105];exact H) | exact H
        have Ny105 := qq.mk hy105
        clear hy105
        have H' := qq.mk H
        clear H
        have p104 : 0 ≤ (x4_1 : Int) := of_decide_eq_true (by assumption)
        have q104 : x4_1 < (l0.length : Int) := of_decide_eq_true (by assumption)
        obtain ⟨ad104,e104,hx104_0⟩ := Kd.at_int HR0.out x4_1 p104 q104
        cases e104
        replace hx104_0 := (HB.out.cell (World.block_lt_of_cell? w _ hx104_0)).trans hx104_0
        replace p104 := eq_true p104
        replace q104 := eq_true q104
        have p9 : 0 ≤ (x4_1 : Int) := of_decide_eq_true (by assumption)
        have q9 : (x4_1 : Int) < ((x3_1.length : Int) : Int) := of_decide_eq_true (by assumption)
        obtain ⟨go9,co9,eo9,gb9,gl9,cl9,HG9⟩ := Kd.R_form HO_3.out (by omega)
        (first | cases eo9 | (injection eo9 with ea_ en_ ec_;(first | subst ea_ | (injection ea_ with ea_;subst ea_));subst ec_;clear en_))
        have GB9 := qq.mk gb9
        have GG9 := qq.mk HG9
        clear gb9 gl9 HG9
        obtain ⟨hx9_0,hf9_0⟩ := Kd.R_celln 0 HO_3.out (x4_1 : Int) p9 q9
        replace p9 := eq_true p9
        replace q9 := eq_true q9
        have HP10 := Kd.R_putg HO_3.out (x4_1 : Int) (rd l0 x4_1)
        go_wp2_with (first | ((with_reducible refine jw (t := 5) (p := 20) rfl ?_);refine jx (t := 5) (p := 20) (v := ?vo_w11) (w1 := (wr.setCell ⟨go9,(x4_1 : Int).toNat,none⟩ (.int .u8 (rd l0 x4_1)))) ?hg ?ho ?hn ?hr ?_;(case ho => rfl);(case hg => rfl);(case hn => rfl);(case hr => first | (go_simp;done) | (go_simp;rfl));intro w11 hw;have hg : wr.grownBy w11 (some go9) := (by rw [hw];exact HP10.2);have hp_ : Kd.R (Kd.int .u8) 5 w11 w.heap.size (fun _ => True) (.slice (some ⟨go9,0,none⟩) x3_1.length co9) y105 := (by rw [hw,Ny105.out];exact HP10.1);clear HP10;have n0_ := qq.mk (hp_);have n1_ := qq.mk ((by rw [hw];exact qx (HB.out) GB9.out : Below w.heap.size w w11));clear HO_3;clear HB;have HO_3 := n0_;have HB := n1_;clear n0_ n1_;clear hg hw hp_))
        go_roundg k1
        case measure => have := HK1.out;omega
        case rel => exact ⟨(y105),(wrap64 (x4_1 + 1)),(by first | rfl | (simp;done) | (simp [*];done)),H',⟨by have := HK1.out;omega⟩,⟨by (with_reducible repeat (first | apply Kd.jq | apply Kd.zx | apply Kd.jz));exact HO_3.out⟩,⟨by repeat (first | (with_reducible first | exact HB.out | apply qj | apply qz | apply qk) | exact HB.out)⟩⟩
       ·rw [if_neg c8] at H
        exact absurd H (by simp)
      ·rw [if_neg c7] at H
       exact absurd H (by simp)
     ·rw [if_neg c6] at H
      have c6b0 : decide (x4_1 < (l0.length : Int)) = false := decide_eq_false c6
      clear c6
      obtain rfl := Option.some.inj H
      go_wp2
      go_ret
      exact ⟨_,by first | rfl | (simp [*,jk,jj] <;> rfl),by (with_reducible repeat (first | apply Kd.jq | apply Kd.zx | apply Kd.jz));exact HO_3.out,by repeat (first | (with_reducible first | exact HB.out | apply qj | apply qz | apply qk) | exact HB.out)⟩
  ·rw [if_neg c3] at H
   exact absurd H (by simp)
 ·rw [if_neg c2] at H
  exact absurd H (by simp)
def qqx.l0 : Nat → List Int → List Int → Int → Option (Bool)
 | 0,_,_,_ => none
 | k + 1,x0,x1,x5 => if x5 < (x0.length : Int) then (if 0 ≤ x5 then (if x5 < (x1.length : Int) then (if (rd x0 x5) = (rd x1 x5) then (qqx.l0 k x0 x1 (wrap64 (x5 + 1))) else (some false)) else (none)) else (none)) else (some true)
def qqx.f (k : Nat) (l0 : List Int) (l1 : List Int) : Option (Bool) := if (l0.length : Int) = (l1.length : Int) then (qqx.l0 k l0 l1 0) else (some false)
set_option maxHeartbeats 8000000 in
set_option maxRecDepth 100000 in
theorem qqx.calls (k : Nat) (A0 : Option Addr) (c0 : Nat) (l0 : List Int) (A1 : Option Addr) (c1 : Nat) (l1 : List Int) (r : Bool) (w : World) (hr0 : Kd.C (Kd.int .u8) w A0 l0.length l0) (hc0 : l0.length ≤ c0) (hr1 : Kd.C (Kd.int .u8) w A1 l1.length l1) (hc1 : l1.length ≤ c1) (h : qqx.f k l0 l1 = some r) :
  Calls Try.prog 24 #[.slice A0 l0.length c0,.slice A1 l1.length c1] w fun e w' => e = .returned (.bool r) ∧ Drawn0 w w' := by
 have HR0 := qq.mk hr0
 have HC0 := qq.mk hc0
 clear hr0 hc0
 have HR1 := qq.mk hr1
 have HC1 := qq.mk hc1
 clear hr1 hc1
 have H : (if (l0.length : Int) = (l1.length : Int) then (qqx.l0 k l0 l1 0) else (some false)) = some r := h
 clear h
 by_cases c3 : (l0.length : Int) = (l1.length : Int)
 ·rw [if_pos c3] at H
  have c3b0 : ((l0.length : Int) == (l1.length : Int)) = true := beq_iff_eq.mpr c3
  have c3b1 : ((l0.length : Int) != (l1.length : Int)) = false := bne_eq_false_iff_eq.mpr c3
  have c3b2 : (l0.length == l1.length) = true := by first | simpa using c3 | (simp at c3 ⊢;omega)
  clear c3
  have H' := qq.mk H
  clear H
  go_enter Try.func24,Try.ntmps24
  go_wp2
  repeat (go_quiet (fail);try go_wp2)
  go_loopg [5] k (fun kq v5 w' => ∃ (x5_1 : Int),v5 = .int .i64 x5_1 ∧ qq (qqx.l0 kq l0 l1 x5_1 = some r) ∧ qq (kq ≤ k) ∧ Drawn0 w w')
  case atStart => exact ⟨(0),(by first | rfl | (simp;done) | (simp [*];done)),H',⟨Nat.le_refl _⟩,by repeat (first | exact Drawn0.refl _ | apply Drawn0.step)⟩
  case round =>
   clear H'
   try clear c1
   try clear c2
   try clear p2
   try clear c3
   try clear c3b0
   try clear c3b1
   try clear c3b2
   obtain ⟨x5_1,rfl,HA,HK1,⟨m1,rfl⟩⟩ := hrel
   cases gk with
   | zero => exact absurd HA.out (by simp [qqx.l0])
   | succ k1 =>
    have H := HA.out
    clear HA
    simp only [qqx.l0] at H
    by_cases c4 : x5_1 < (l0.length : Int)
    ·rw [if_pos c4] at H
     have c4b0 : decide (x5_1 < (l0.length : Int)) = true := decide_eq_true c4
     clear c4
     by_cases c5 : 0 ≤ x5_1
     ·rw [if_pos c5] at H
      have c5b0 : decide (0 ≤ x5_1) = true := decide_eq_true c5
      clear c5
      by_cases c6 : x5_1 < (l1.length : Int)
      ·rw [if_pos c6] at H
       have c6b0 : decide (x5_1 < (l1.length : Int)) = true := decide_eq_true c6
       clear c6
       by_cases c7 : (rd l0 x5_1) = (rd l1 x5_1)
       ·rw [if_pos c7] at H
        have c7b0 : ((rd l0 x5_1) == (rd l1 x5_1)) = true := beq_iff_eq.mpr c7
        have c7b1 : ((rd l0 x5_1) != (rd l1 x5_1)) = false := bne_eq_false_iff_eq.mpr c7
        clear c7
        have H' := qq.mk H
        clear H
        have p101 : 0 ≤ (x5_1 : Int) := of_decide_eq_true (by assumption)
        have q101 : x5_1 < (l0.length : Int) := of_decide_eq_true (by assumption)
        obtain ⟨ad101,e101,hx101_0⟩ := Kd.at_int HR0.out x5_1 p101 q101
        cases e101
        replace p101 := eq_true p101
        replace q101 := eq_true q101
        have p102 : 0 ≤ (x5_1 : Int) := of_decide_eq_true (by assumption)
        have q102 : x5_1 < (l1.length : Int) := of_decide_eq_true (by assumption)
        obtain ⟨ad102,e102,hx102_0⟩ := Kd.at_int HR1.out x5_1 p102 q102
        cases e102
        replace p102 := eq_true p102
        replace q102 := eq_true q102
        go_wp2
        repeat (go_quiet (fail);try go_wp2)
        go_roundg k1
        case measure => have := HK1.out;omega
        case rel => exact ⟨(wrap64 (x5_1 + 1)),(by first | rfl | (simp;done) | (simp [*];done)),H',⟨by have := HK1.out;omega⟩,by repeat (first | exact Drawn0.refl _ | apply Drawn0.step)⟩
       ·rw [if_neg c7] at H
        have c7b0 : ((rd l0 x5_1) == (rd l1 x5_1)) = false := beq_eq_false_iff_ne.mpr c7
        have c7b1 : ((rd l0 x5_1) != (rd l1 x5_1)) = true := bne_iff_ne.mpr c7
        obtain rfl := Option.some.inj H
        have p101 : 0 ≤ (x5_1 : Int) := of_decide_eq_true (by assumption)
        have q101 : x5_1 < (l0.length : Int) := of_decide_eq_true (by assumption)
        obtain ⟨ad101,e101,hx101_0⟩ := Kd.at_int HR0.out x5_1 p101 q101
        cases e101
        replace p101 := eq_true p101
        replace q101 := eq_true q101
        have p102 : 0 ≤ (x5_1 : Int) := of_decide_eq_true (by assumption)
        have q102 : x5_1 < (l1.length : Int) := of_decide_eq_true (by assumption)
        obtain ⟨ad102,e102,hx102_0⟩ := Kd.at_int HR1.out x5_1 p102 q102
        cases e102
        replace p102 := eq_true p102
        replace q102 := eq_true q102
        go_wp2
        repeat (go_quiet (fail);try go_wp2)
        go_ret
        exact ⟨by first | rfl | (simp;done) | (simp [*];done),by repeat (first | exact Drawn0.refl _ | apply Drawn0.step)⟩
      ·rw [if_neg c6] at H
       exact absurd H (by simp)
     ·rw [if_neg c5] at H
      exact absurd H (by simp)
    ·rw [if_neg c4] at H
     have c4b0 : decide (x5_1 < (l0.length : Int)) = false := decide_eq_false c4
     clear c4
     obtain rfl := Option.some.inj H
     go_wp2
     repeat (go_quiet (fail);try go_wp2)
     go_ret
     exact ⟨by first | rfl | (simp;done) | (simp [*];done),by repeat (first | exact Drawn0.refl _ | apply Drawn0.step)⟩
 ·rw [if_neg c3] at H
  have c3b0 : ((l0.length : Int) == (l1.length : Int)) = false := beq_eq_false_iff_ne.mpr c3
  have c3b1 : ((l0.length : Int) != (l1.length : Int)) = true := bne_iff_ne.mpr c3
  have c3b2 : (l0.length == l1.length) = false := by first | simpa using c3 | (simp at c3 ⊢;omega)
  obtain rfl := Option.some.inj H
  go_enter Try.func24,Try.ntmps24
  go_wp2
  repeat (go_quiet (fail);try go_wp2)
  go_ret
  exact ⟨by first | rfl | (simp;done) | (simp [*];done),by repeat (first | exact Drawn0.refl _ | apply Drawn0.step)⟩
def qzk.l0 : Nat → List Int → Int → Int → Option (Int)
 | 0,_,_,_ => none
 | k + 1,x0,x1,x5 => if x5 < (x0.length : Int) then (if 0 ≤ x5 then (if (rd x0 x5) = ((x1) % 256) then (qzk.l0 k x0 (wrap64 (x1 + 1)) (wrap64 (x5 + 1))) else (some (-1))) else (none)) else (some x1)
def qzk.f (k : Nat) (l0 : List Int) (a1 : Int) : Option (Int) := qzk.l0 k l0 a1 0
set_option maxHeartbeats 8000000 in
set_option maxRecDepth 100000 in
theorem qzk.calls (k : Nat) (A0 : Option Addr) (c0 : Nat) (l0 : List Int) (a1 : Int) (r : Int) (w : World) (hr0 : Kd.C (Kd.int .u8) w A0 l0.length l0) (hc0 : l0.length ≤ c0) (h : qzk.f k l0 a1 = some r) :
  Calls Try.prog 27 #[.slice A0 l0.length c0,.int .i64 a1] w fun e w' => e = .returned (.int .i64 r) ∧ Drawn0 w w' := by
 have HR0 := qq.mk hr0
 have HC0 := qq.mk hc0
 clear hr0 hc0
 have H : (qzk.l0 k l0 a1 0) = some r := h
 clear h
 have H' := qq.mk H
 clear H
 go_enter Try.func27,Try.ntmps27
 go_wp2
 go_loopg [1,5] k (fun kq v1 v5 w' => ∃ (x1_1 : Int) (x5_1 : Int),v1 = .int .i64 x1_1 ∧ v5 = .int .i64 x5_1 ∧ qq (qzk.l0 kq l0 x1_1 x5_1 = some r) ∧ qq (kq ≤ k) ∧ Drawn0 w w')
 case atStart => exact ⟨(a1),(0),(by first | rfl | (simp;done) | (simp [*];done)),(by first | rfl | (simp;done) | (simp [*];done)),H',⟨Nat.le_refl _⟩,by repeat (first | exact Drawn0.refl _ | apply Drawn0.step)⟩
 case round =>
  clear H'
  try clear c2
  try clear p2
  obtain ⟨x1_1,x5_1,rfl,rfl,HA,HK1,⟨m1,rfl⟩⟩ := hrel
  cases gk with
  | zero => exact absurd HA.out (by simp [qzk.l0])
  | succ k1 =>
   have H := HA.out
   clear HA
   simp only [qzk.l0] at H
   by_cases c3 : x5_1 < (l0.length : Int)
   ·rw [if_pos c3] at H
    have c3b0 : decide (x5_1 < (l0.length : Int)) = true := decide_eq_true c3
    clear c3
    by_cases c4 : 0 ≤ x5_1
    ·rw [if_pos c4] at H
     have c4b0 : decide (0 ≤ x5_1) = true := decide_eq_true c4
     clear c4
     by_cases c5 : (rd l0 x5_1) = ((x1_1) % 256)
     ·rw [if_pos c5] at H
      have c5b0 : ((rd l0 x5_1) == ((x1_1) % 256)) = true := beq_iff_eq.mpr c5
      have c5b1 : ((rd l0 x5_1) != ((x1_1) % 256)) = false := bne_eq_false_iff_eq.mpr c5
      clear c5
      have H' := qq.mk H
      clear H
      have p101 : 0 ≤ (x5_1 : Int) := of_decide_eq_true (by assumption)
      have q101 : x5_1 < (l0.length : Int) := of_decide_eq_true (by assumption)
      obtain ⟨ad101,e101,hx101_0⟩ := Kd.at_int HR0.out x5_1 p101 q101
      cases e101
      replace p101 := eq_true p101
      replace q101 := eq_true q101
      go_wp2
      go_roundg k1
      case measure => have := HK1.out;omega
      case rel => exact ⟨(wrap64 (x1_1 + 1)),(wrap64 (x5_1 + 1)),(by first | rfl | (simp;done) | (simp [*];done)),(by first | rfl | (simp;done) | (simp [*];done)),H',⟨by have := HK1.out;omega⟩,by repeat (first | exact Drawn0.refl _ | apply Drawn0.step)⟩
     ·rw [if_neg c5] at H
      have c5b0 : ((rd l0 x5_1) == ((x1_1) % 256)) = false := beq_eq_false_iff_ne.mpr c5
      have c5b1 : ((rd l0 x5_1) != ((x1_1) % 256)) = true := bne_iff_ne.mpr c5
      obtain rfl := Option.some.inj H
      have p101 : 0 ≤ (x5_1 : Int) := of_decide_eq_true (by assumption)
      have q101 : x5_1 < (l0.length : Int) := of_decide_eq_true (by assumption)
      obtain ⟨ad101,e101,hx101_0⟩ := Kd.at_int HR0.out x5_1 p101 q101
      cases e101
      replace p101 := eq_true p101
      replace q101 := eq_true q101
      go_wp2
      go_ret
      exact ⟨by first | rfl | (simp;done) | (simp [*];done),by repeat (first | exact Drawn0.refl _ | apply Drawn0.step)⟩
    ·rw [if_neg c4] at H
     exact absurd H (by simp)
   ·rw [if_neg c3] at H
    have c3b0 : decide (x5_1 < (l0.length : Int)) = false := decide_eq_false c3
    clear c3
    obtain rfl := Option.some.inj H
    go_wp2
    go_ret
    exact ⟨by first | rfl | (simp;done) | (simp [*];done),by repeat (first | exact Drawn0.refl _ | apply Drawn0.step)⟩
def qzq.l0 : Nat → List (List Int) → List (List Int) → Int → Option (Bool)
 | 0,_,_,_ => none
 | k + 1,x0,x1,x5 => if x5 < (x0.length : Int) then (if 0 ≤ x5 then (if x5 < (x1.length : Int) then ((qqx.f k (rd_L2 x0 x5) (rd_L2 x1 x5)).bind fun t103 => (if t103 = true then (qzq.l0 k x0 x1 (wrap64 (x5 + 1))) else (some false))) else (none)) else (none)) else (some true)
def qzq.f (k : Nat) (l0 : List (List Int)) (l1 : List (List Int)) : Option (Bool) := if (l0.length : Int) = (l1.length : Int) then (qzq.l0 k l0 l1 0) else (some false)
set_option maxHeartbeats 8000000 in
set_option maxRecDepth 100000 in
theorem qzq.calls (k : Nat) (A0 : Option Addr) (c0 : Nat) (l0 : List (List Int)) (A1 : Option Addr) (c1 : Nat) (l1 : List (List Int)) (r : Bool) (w : World) (hr0 : Kd.C (Kd.slice 5 (Kd.int .u8)) w A0 l0.length l0) (hc0 : l0.length ≤ c0) (hr1 : Kd.C (Kd.slice 5 (Kd.int .u8)) w A1 l1.length l1) (hc1 : l1.length ≤ c1) (h : qzq.f k l0 l1 = some r) :
  Calls Try.prog 41 #[.slice A0 l0.length c0,.slice A1 l1.length c1] w fun e w' => e = .returned (.bool r) ∧ Drawn0 w w' := by
 have HR0 := qq.mk hr0
 have HC0 := qq.mk hc0
 clear hr0 hc0
 have HR1 := qq.mk hr1
 have HC1 := qq.mk hc1
 clear hr1 hc1
 have H : (if (l0.length : Int) = (l1.length : Int) then (qzq.l0 k l0 l1 0) else (some false)) = some r := h
 clear h
 by_cases c3 : (l0.length : Int) = (l1.length : Int)
 ·rw [if_pos c3] at H
  have c3b0 : ((l0.length : Int) == (l1.length : Int)) = true := beq_iff_eq.mpr c3
  have c3b1 : ((l0.length : Int) != (l1.length : Int)) = false := bne_eq_false_iff_eq.mpr c3
  have c3b2 : (l0.length == l1.length) = true := by first | simpa using c3 | (simp at c3 ⊢;omega)
  clear c3
  have H' := qq.mk H
  clear H
  go_enter Try.func41,Try.ntmps41
  go_wp2
  repeat (go_quiet (fail);try go_wp2)
  go_loopg [5] k (fun kq v5 w' => ∃ (x5_1 : Int),v5 = .int .i64 x5_1 ∧ qq (qzq.l0 kq l0 l1 x5_1 = some r) ∧ qq (kq ≤ k) ∧ Drawn0 w w')
  case atStart => exact ⟨(0),(by first | rfl | (simp;done) | (simp [*];done)),H',⟨Nat.le_refl _⟩,by repeat (first | exact Drawn0.refl _ | apply Drawn0.step)⟩
  case round =>
   clear H'
   try clear c1
   try clear p2
   try clear c3
   try clear c3b0
   try clear c3b1
   try clear c3b2
   obtain ⟨x5_1,rfl,HA,HK1,⟨m1,rfl⟩⟩ := hrel
   cases gk with
   | zero => exact absurd HA.out (by simp [qzq.l0])
   | succ k1 =>
    have H := HA.out
    clear HA
    simp only [qzq.l0] at H
    by_cases c4 : x5_1 < (l0.length : Int)
    ·rw [if_pos c4] at H
     have c4b0 : decide (x5_1 < (l0.length : Int)) = true := decide_eq_true c4
     clear c4
     by_cases c5 : 0 ≤ x5_1
     ·rw [if_pos c5] at H
      have c5b0 : decide (0 ≤ x5_1) = true := decide_eq_true c5
      clear c5
      by_cases c6 : x5_1 < (l1.length : Int)
      ·rw [if_pos c6] at H
       have c6b0 : decide (x5_1 < (l1.length : Int)) = true := decide_eq_true c6
       clear c6
       replace H := Option.bind_eq_some_iff.mp H
       obtain ⟨t103,A70,H⟩ := H
       replace H : (if t103 = true then (qzq.l0 k1 l0 l1 (wrap64 (x5_1 + 1))) else (some false)) = some r := H
       have A7 := qq.mk A70
       clear A70
       by_cases c8 : t103 = true
       ·subst c8
        have H1 : (qzq.l0 k1 l0 l1 (wrap64 (x5_1 + 1))) = some r := by rw [if_pos rfl] at H;exact H
        clear H
        have H := H1
        clear H1
        have H' := qq.mk H
        clear H
        have p101 : 0 ≤ (x5_1 : Int) := of_decide_eq_true (by assumption)
        have q101 : x5_1 < (l0.length : Int) := of_decide_eq_true (by assumption)
        obtain ⟨ad101,A101_0,c101_0,e101,hx101_0,hl101_0,hi101_0⟩ := at_L2 HR0.out x5_1 p101 q101
        cases e101
        have HR101_0 := qq.mk hi101_0
        have HC101_0 := qq.mk hl101_0
        clear hi101_0 hl101_0
        replace p101 := eq_true p101
        replace q101 := eq_true q101
        have p102 : 0 ≤ (x5_1 : Int) := of_decide_eq_true (by assumption)
        have q102 : x5_1 < (l1.length : Int) := of_decide_eq_true (by assumption)
        obtain ⟨ad102,A102_0,c102_0,e102,hx102_0,hl102_0,hi102_0⟩ := at_L2 HR1.out x5_1 p102 q102
        cases e102
        have HR102_0 := qq.mk hi102_0
        have HC102_0 := qq.mk hl102_0
        clear hi102_0 hl102_0
        replace p102 := eq_true p102
        replace q102 := eq_true q102
        go_wp2_with (first | (go_at_call 24;(with_reducible refine (qqx.calls k1 _ _ (rd_L2 l0 x5_1) _ _ (rd_L2 l1 x5_1) true _ ?side1 ?side2 ?side3 ?side4 A7.out).mono ?_);(case side1 => repeat (first | exact HR101_0.out | (with_reducible refine Kd.C_alloc ?_ _) | (with_reducible refine Kd.C_drewN ?_ _) | (with_reducible refine Kd.C_drew ?_)));(case side2 => exact HC101_0.out);(case side3 => repeat (first | exact HR102_0.out | (with_reducible refine Kd.C_alloc ?_ _) | (with_reducible refine Kd.C_drewN ?_ _) | (with_reducible refine Kd.C_drew ?_)));(case side4 => exact HC102_0.out);rintro e w' ⟨rfl,⟨nd,rfl⟩⟩;(try first | exact ⟨rfl,_,World.drewN_drewN _ _ _⟩ | exact ⟨rfl,_,Eq.trans (World.drewN_drewN _ _ _) (congrArg (World.drewN _) (Nat.add_assoc _ _ _))⟩)))
        repeat (go_quiet (first | (go_at_call 24;(with_reducible refine (qqx.calls k1 _ _ (rd_L2 l0 x5_1) _ _ (rd_L2 l1 x5_1) true _ ?side1 ?side2 ?side3 ?side4 A7.out).mono ?_);(case side1 => repeat (first | exact HR101_0.out | (with_reducible refine Kd.C_alloc ?_ _) | (with_reducible refine Kd.C_drewN ?_ _) | (with_reducible refine Kd.C_drew ?_)));(case side2 => exact HC101_0.out);(case side3 => repeat (first | exact HR102_0.out | (with_reducible refine Kd.C_alloc ?_ _) | (with_reducible refine Kd.C_drewN ?_ _) | (with_reducible refine Kd.C_drew ?_)));(case side4 => exact HC102_0.out);rintro e w' ⟨rfl,⟨nd,rfl⟩⟩;(try first | exact ⟨rfl,_,World.drewN_drewN _ _ _⟩ | exact ⟨rfl,_,Eq.trans (World.drewN_drewN _ _ _) (congrArg (World.drewN _) (Nat.add_assoc _ _ _))⟩)));try go_wp2_with (first | (go_at_call 24;(with_reducible refine (qqx.calls k1 _ _ (rd_L2 l0 x5_1) _ _ (rd_L2 l1 x5_1) true _ ?side1 ?side2 ?side3 ?side4 A7.out).mono ?_);(case side1 => repeat (first | exact HR101_0.out | (with_reducible refine Kd.C_alloc ?_ _) | (with_reducible refine Kd.C_drewN ?_ _) | (with_reducible refine Kd.C_drew ?_)));(case side2 => exact HC101_0.out);(case side3 => repeat (first | exact HR102_0.out | (with_reducible refine Kd.C_alloc ?_ _) | (with_reducible refine Kd.C_drewN ?_ _) | (with_reducible refine Kd.C_drew ?_)));(case side4 => exact HC102_0.out);rintro e w' ⟨rfl,⟨nd,rfl⟩⟩;(try first | exact ⟨rfl,_,World.drewN_drewN _ _ _⟩ | exact ⟨rfl,_,Eq.trans (World.drewN_drewN _ _ _) (congrArg (World.drewN _) (Nat.add_assoc _ _ _))⟩))))
        go_roundg k1
        case measure => have := HK1.out;omega
        case rel => exact ⟨(wrap64 (x5_1 + 1)),(by first | rfl | (simp;done) | (simp [*];done)),H',⟨by have := HK1.out;omega⟩,by repeat (first | exact Drawn0.refl _ | apply Drawn0.step)⟩
       ·replace c8 := Bool.eq_false_iff.mpr c8
        subst c8
        have H1 : (some false) = some r := by rw [if_neg (show ¬ (false = true) by decide)] at H;exact H
        clear H
        have H := H1
        clear H1
        obtain rfl := Option.some.inj H
        have p101 : 0 ≤ (x5_1 : Int) := of_decide_eq_true (by assumption)
        have q101 : x5_1 < (l0.length : Int) := of_decide_eq_true (by assumption)
        obtain ⟨ad101,A101_0,c101_0,e101,hx101_0,hl101_0,hi101_0⟩ := at_L2 HR0.out x5_1 p101 q101
        cases e101
        have HR101_0 := qq.mk hi101_0
        have HC101_0 := qq.mk hl101_0
        clear hi101_0 hl101_0
        replace p101 := eq_true p101
        replace q101 := eq_true q101
        have p102 : 0 ≤ (x5_1 : Int) := of_decide_eq_true (by assumption)
        have q102 : x5_1 < (l1.length : Int) := of_decide_eq_true (by assumption)
        obtain ⟨ad102,A102_0,c102_0,e102,hx102_0,hl102_0,hi102_0⟩ := at_L2 HR1.out x5_1 p102 q102
        cases e102
        have HR102_0 := qq.mk hi102_0
        have HC102_0 := qq.mk hl102_0
        clear hi102_0 hl102_0
        replace p102 := eq_true p102
        replace q102 := eq_true q102
        go_wp2_with (first | (go_at_call 24;(with_reducible refine (qqx.calls k1 _ _ (rd_L2 l0 x5_1) _ _ (rd_L2 l1 x5_1) false _ ?side1 ?side2 ?side3 ?side4 A7.out).mono ?_);(case side1 => repeat (first | exact HR101_0.out | (with_reducible refine Kd.C_alloc ?_ _) | (with_reducible refine Kd.C_drewN ?_ _) | (with_reducible refine Kd.C_drew ?_)));(case side2 => exact HC101_0.out);(case side3 => repeat (first | exact HR102_0.out | (with_reducible refine Kd.C_alloc ?_ _) | (with_reducible refine Kd.C_drewN ?_ _) | (with_reducible refine Kd.C_drew ?_)));(case side4 => exact HC102_0.out);rintro e w' ⟨rfl,⟨nd,rfl⟩⟩;(try first | exact ⟨rfl,_,World.drewN_drewN _ _ _⟩ | exact ⟨rfl,_,Eq.trans (World.drewN_drewN _ _ _) (congrArg (World.drewN _) (Nat.add_assoc _ _ _))⟩)))
        repeat (go_quiet (first | (go_at_call 24;(with_reducible refine (qqx.calls k1 _ _ (rd_L2 l0 x5_1) _ _ (rd_L2 l1 x5_1) false _ ?side1 ?side2 ?side3 ?side4 A7.out).mono ?_);(case side1 => repeat (first | exact HR101_0.out | (with_reducible refine Kd.C_alloc ?_ _) | (with_reducible refine Kd.C_drewN ?_ _) | (with_reducible refine Kd.C_drew ?_)));(case side2 => exact HC101_0.out);(case side3 => repeat (first | exact HR102_0.out | (with_reducible refine Kd.C_alloc ?_ _) | (with_reducible refine Kd.C_drewN ?_ _) | (with_reducible refine Kd.C_drew ?_)));(case side4 => exact HC102_0.out);rintro e w' ⟨rfl,⟨nd,rfl⟩⟩;(try first | exact ⟨rfl,_,World.drewN_drewN _ _ _⟩ | exact ⟨rfl,_,Eq.trans (World.drewN_drewN _ _ _) (congrArg (World.drewN _) (Nat.add_assoc _ _ _))⟩)));try go_wp2_with (first | (go_at_call 24;(with_reducible refine (qqx.calls k1 _ _ (rd_L2 l0 x5_1) _ _ (rd_L2 l1 x5_1) false _ ?side1 ?side2 ?side3 ?side4 A7.out).mono ?_);(case side1 => repeat (first | exact HR101_0.out | (with_reducible refine Kd.C_alloc ?_ _) | (with_reducible refine Kd.C_drewN ?_ _) | (with_reducible refine Kd.C_drew ?_)));(case side2 => exact HC101_0.out);(case side3 => repeat (first | exact HR102_0.out | (with_reducible refine Kd.C_alloc ?_ _) | (with_reducible refine Kd.C_drewN ?_ _) | (with_reducible refine Kd.C_drew ?_)));(case side4 => exact HC102_0.out);rintro e w' ⟨rfl,⟨nd,rfl⟩⟩;(try first | exact ⟨rfl,_,World.drewN_drewN _ _ _⟩ | exact ⟨rfl,_,Eq.trans (World.drewN_drewN _ _ _) (congrArg (World.drewN _) (Nat.add_assoc _ _ _))⟩))))
        go_ret
        exact ⟨by first | rfl | (simp;done) | (simp [*];done),by repeat (first | exact Drawn0.refl _ | apply Drawn0.step)⟩
      ·rw [if_neg c6] at H
       exact absurd H (by simp)
     ·rw [if_neg c5] at H
      exact absurd H (by simp)
    ·rw [if_neg c4] at H
     have c4b0 : decide (x5_1 < (l0.length : Int)) = false := decide_eq_false c4
     clear c4
     obtain rfl := Option.some.inj H
     go_wp2
     repeat (go_quiet (fail);try go_wp2)
     go_ret
     exact ⟨by first | rfl | (simp;done) | (simp [*];done),by repeat (first | exact Drawn0.refl _ | apply Drawn0.step)⟩
 ·rw [if_neg c3] at H
  have c3b0 : ((l0.length : Int) == (l1.length : Int)) = false := beq_eq_false_iff_ne.mpr c3
  have c3b1 : ((l0.length : Int) != (l1.length : Int)) = true := bne_iff_ne.mpr c3
  have c3b2 : (l0.length == l1.length) = false := by first | simpa using c3 | (simp at c3 ⊢;omega)
  obtain rfl := Option.some.inj H
  go_enter Try.func41,Try.ntmps41
  go_wp2
  repeat (go_quiet (fail);try go_wp2)
  go_ret
  exact ⟨by first | rfl | (simp;done) | (simp [*];done),by repeat (first | exact Drawn0.refl _ | apply Drawn0.step)⟩
def qzv.l0 : Nat → List (List Int) → Int → Int → Option (Int)
 | 0,_,_,_ => none
 | k + 1,x0,x1,x5 => if x5 < (x0.length : Int) then (if 0 ≤ x5 then ((qzk.f k (rd_L2 x0 x5) x1).bind fun t102 => (if t102 < 0 then (some (-1)) else (qzv.l0 k x0 t102 (wrap64 (x5 + 1))))) else (none)) else (some x1)
def qzv.f (k : Nat) (l0 : List (List Int)) (a1 : Int) : Option (Int) := qzv.l0 k l0 a1 0
set_option maxHeartbeats 8000000 in
set_option maxRecDepth 100000 in
theorem qzv.calls (k : Nat) (A0 : Option Addr) (c0 : Nat) (l0 : List (List Int)) (a1 : Int) (r : Int) (w : World) (hr0 : Kd.C (Kd.slice 5 (Kd.int .u8)) w A0 l0.length l0) (hc0 : l0.length ≤ c0) (h : qzv.f k l0 a1 = some r) :
  Calls Try.prog 43 #[.slice A0 l0.length c0,.int .i64 a1] w fun e w' => e = .returned (.int .i64 r) ∧ Drawn0 w w' := by
 have HR0 := qq.mk hr0
 have HC0 := qq.mk hc0
 clear hr0 hc0
 have H : (qzv.l0 k l0 a1 0) = some r := h
 clear h
 have H' := qq.mk H
 clear H
 go_enter Try.func43,Try.ntmps43
 go_wp2
 go_loopg [1,5] k (fun kq v1 v5 w' => ∃ (x1_1 : Int) (x5_1 : Int),v1 = .int .i64 x1_1 ∧ v5 = .int .i64 x5_1 ∧ qq (qzv.l0 kq l0 x1_1 x5_1 = some r) ∧ qq (kq ≤ k) ∧ Drawn0 w w')
 case atStart => exact ⟨(a1),(0),(by first | rfl | (simp;done) | (simp [*];done)),(by first | rfl | (simp;done) | (simp [*];done)),H',⟨Nat.le_refl _⟩,by repeat (first | exact Drawn0.refl _ | apply Drawn0.step)⟩
 case round =>
  clear H'
  try clear p2
  obtain ⟨x1_1,x5_1,rfl,rfl,HA,HK1,⟨m1,rfl⟩⟩ := hrel
  cases gk with
  | zero => exact absurd HA.out (by simp [qzv.l0])
  | succ k1 =>
   have H := HA.out
   clear HA
   simp only [qzv.l0] at H
   by_cases c3 : x5_1 < (l0.length : Int)
   ·rw [if_pos c3] at H
    have c3b0 : decide (x5_1 < (l0.length : Int)) = true := decide_eq_true c3
    clear c3
    by_cases c4 : 0 ≤ x5_1
    ·rw [if_pos c4] at H
     have c4b0 : decide (0 ≤ x5_1) = true := decide_eq_true c4
     clear c4
     replace H := Option.bind_eq_some_iff.mp H
     obtain ⟨t102,A50,H⟩ := H
     replace H : (if t102 < 0 then (some (-1)) else (qzv.l0 k1 l0 t102 (wrap64 (x5_1 + 1)))) = some r := H
     have A5 := qq.mk A50
     clear A50
     by_cases c6 : t102 < 0
     ·rw [if_pos c6] at H
      have c6b0 : decide (t102 < 0) = true := decide_eq_true c6
      clear c6
      obtain rfl := Option.some.inj H
      have p101 : 0 ≤ (x5_1 : Int) := of_decide_eq_true (by assumption)
      have q101 : x5_1 < (l0.length : Int) := of_decide_eq_true (by assumption)
      obtain ⟨ad101,A101_0,c101_0,e101,hx101_0,hl101_0,hi101_0⟩ := at_L2 HR0.out x5_1 p101 q101
      cases e101
      have HR101_0 := qq.mk hi101_0
      have HC101_0 := qq.mk hl101_0
      clear hi101_0 hl101_0
      replace p101 := eq_true p101
      replace q101 := eq_true q101
      go_wp2_with (first | ((with_reducible refine jv (f := 27) rfl ?_);refine goesL_ (some 17) rfl rfl Try.func27 (by kernel_rfl) rfl #[.slice A101_0 (rd_L2 l0 x5_1).length c101_0,.int .i64 x1_1] rfl (by (try simp only [List.map_toArray,List.map_cons,List.map_nil]);first | done | rfl | (simp only [List.length_drop,List.length_take];rfl)) ?_;(with_reducible refine (qzk.calls k1 _ _ (rd_L2 l0 x5_1) x1_1 t102 _ ?side1 ?side2 A5.out).mono ?_);(case side1 => repeat (first | exact HR101_0.out | (with_reducible refine Kd.C_alloc ?_ _) | (with_reducible refine Kd.C_drewN ?_ _) | (with_reducible refine Kd.C_drew ?_)));(case side2 => exact HC101_0.out);rintro e w' ⟨rfl,⟨nd,rfl⟩⟩;refine ⟨_,rfl,?_⟩))
      go_ret
      exact ⟨by first | rfl | (simp;done) | (simp [*];done),by repeat (first | exact Drawn0.refl _ | apply Drawn0.step)⟩
     ·rw [if_neg c6] at H
      have c6b0 : decide (t102 < 0) = false := decide_eq_false c6
      clear c6
      have H' := qq.mk H
      clear H
      have p101 : 0 ≤ (x5_1 : Int) := of_decide_eq_true (by assumption)
      have q101 : x5_1 < (l0.length : Int) := of_decide_eq_true (by assumption)
      obtain ⟨ad101,A101_0,c101_0,e101,hx101_0,hl101_0,hi101_0⟩ := at_L2 HR0.out x5_1 p101 q101
      cases e101
      have HR101_0 := qq.mk hi101_0
      have HC101_0 := qq.mk hl101_0
      clear hi101_0 hl101_0
      replace p101 := eq_true p101
      replace q101 := eq_true q101
      go_wp2_with (first | ((with_reducible refine jv (f := 27) rfl ?_);refine goesL_ (some 17) rfl rfl Try.func27 (by kernel_rfl) rfl #[.slice A101_0 (rd_L2 l0 x5_1).length c101_0,.int .i64 x1_1] rfl (by (try simp only [List.map_toArray,List.map_cons,List.map_nil]);first | done | rfl | (simp only [List.length_drop,List.length_take];rfl)) ?_;(with_reducible refine (qzk.calls k1 _ _ (rd_L2 l0 x5_1) x1_1 t102 _ ?side1 ?side2 A5.out).mono ?_);(case side1 => repeat (first | exact HR101_0.out | (with_reducible refine Kd.C_alloc ?_ _) | (with_reducible refine Kd.C_drewN ?_ _) | (with_reducible refine Kd.C_drew ?_)));(case side2 => exact HC101_0.out);rintro e w' ⟨rfl,⟨nd,rfl⟩⟩;refine ⟨_,rfl,?_⟩))
      go_roundg k1
      case measure => have := HK1.out;omega
      case rel => exact ⟨(t102),(wrap64 (x5_1 + 1)),(by first | rfl | (simp;done) | (simp [*];done)),(by first | rfl | (simp;done) | (simp [*];done)),H',⟨by have := HK1.out;omega⟩,by repeat (first | exact Drawn0.refl _ | apply Drawn0.step)⟩
    ·rw [if_neg c4] at H
     exact absurd H (by simp)
   ·rw [if_neg c3] at H
    have c3b0 : decide (x5_1 < (l0.length : Int)) = false := decide_eq_false c3
    clear c3
    obtain rfl := Option.some.inj H
    go_wp2
    go_ret
    exact ⟨by first | rfl | (simp;done) | (simp [*];done),by repeat (first | exact Drawn0.refl _ | apply Drawn0.step)⟩
def qjj.f (a0_0 : Int) (a0_1 : ByteArray) (a0_2 : ByteArray) (l0_3 : List Int) (l0_4 : List Int) (a1 : Int) : Option (Int) := if (wrap64 (a1 - (a0_1.size : Int))) < 0 then (some (-1)) else (if (wrap64 ((wrap64 (a1 - (a0_1.size : Int))) - (a0_2.size : Int))) < 0 then (some (-1)) else ((qjz.f l0_3 (wrap64 ((wrap64 (a1 - (a0_1.size : Int))) - (a0_2.size : Int)))).bind fun t102 => (if t102 < 0 then (some (-1)) else ((qjz.f l0_4 t102).bind fun t103 => (if t103 < 0 then (some (-1)) else (some t103))))))
set_option maxHeartbeats 8000000 in
set_option maxRecDepth 100000 in
theorem qjj.calls (a0_0 : Int) (a0_1 : ByteArray) (a0_2 : ByteArray) (A0_3 : Option Addr) (c0_3 : Nat) (l0_3 : List Int) (A0_4 : Option Addr) (c0_4 : Nat) (l0_4 : List Int) (a1 : Int) (r : Int) (w : World) (hr0_3 : Kd.C (Kd.int .u8) w A0_3 l0_3.length l0_3) (hc0_3 : l0_3.length ≤ c0_3) (hr0_4 : Kd.C (Kd.int .u8) w A0_4 l0_4.length l0_4) (hc0_4 : l0_4.length ≤ c0_4) (h : qjj.f a0_0 a0_1 a0_2 l0_3 l0_4 a1 = some r) :
  Calls Try.prog 17 #[.agg #[.int .i64 a0_0,.string a0_1,.string a0_2,.slice A0_3 l0_3.length c0_3,.slice A0_4 l0_4.length c0_4],.int .i64 a1] w fun e w' => e = .returned (.int .i64 r) ∧ Below w.heap.size w w' := by
 have hu24 := Try.underlying24
 have HR0_3 := qq.mk hr0_3
 have HC0_3 := qq.mk hc0_3
 clear hr0_3 hc0_3
 have HR0_4 := qq.mk hr0_4
 have HC0_4 := qq.mk hc0_4
 clear hr0_4 hc0_4
 have HB := qq.mk (Below.refl w.heap.size w)
 have H : (if (wrap64 (a1 - (a0_1.size : Int))) < 0 then (some (-1)) else (if (wrap64 ((wrap64 (a1 - (a0_1.size : Int))) - (a0_2.size : Int))) < 0 then (some (-1)) else ((qjz.f l0_3 (wrap64 ((wrap64 (a1 - (a0_1.size : Int))) - (a0_2.size : Int)))).bind fun t102 => (if t102 < 0 then (some (-1)) else ((qjz.f l0_4 t102).bind fun t103 => (if t103 < 0 then (some (-1)) else (some t103))))))) = some r := h
 clear h
 by_cases c3 : (wrap64 (a1 - (a0_1.size : Int))) < 0
 ·rw [if_pos c3] at H
  have c3b0 : decide ((wrap64 (a1 - (a0_1.size : Int))) < 0) = true := decide_eq_true c3
  clear c3
  obtain rfl := Option.some.inj H
  go_enter Try.func17,Try.ntmps17
  go_wp2_with (first | ((with_reducible refine gate_dst (N := 2) rfl ?_);refine box_event ?hg (N := 2) ?hd (cs := #[.int .i64 a0_0,.string a0_1,.string a0_2,.slice A0_3 l0_3.length c0_3,.slice A0_4 l0_4.length c0_4]) (t := 24) ?hr ?_;(case hd => rfl);(case hg => rfl);(case hr => first | (go_simp;done) | (go_simp;rfl));intro gb101 hg w4 hbox hb;have n0_ := qq.mk (zv (by repeat (first | (with_reducible first | exact HB.out | apply qj | apply qz | apply qk) | exact HB.out)) hb);have n1_ := qq.mk (hbox);have n2_ := qq.mk ((by rw [hg];exact (zw (by repeat (first | (with_reducible first | exact HB.out | apply qj | apply qz | apply qk) | exact HB.out))) : w.heap.size ≤ gb101));have n3_ := qq.mk ((by rw [hg];exact (zw (by repeat (first | (with_reducible first | exact HB.out | apply qj | apply qz | apply qk) | exact HB.out))) : w.heap.size ≤ gb101));clear HB;have HB := n0_;have BK101 := n1_;have GW101 := n2_;have GE101 := n3_;clear n0_ n1_ n2_ n3_;clear hb hbox hg;have hcz5_0 : w4.cell? ⟨gb101,0,none⟩ = some (.int .i64 a0_0) := (qw BK101.out 0).trans rfl;have hcz5_1 : w4.cell? ⟨gb101,1,none⟩ = some (.string a0_1) := (qw BK101.out 1).trans rfl;have hcz5_2 : w4.cell? ⟨gb101,2,none⟩ = some (.string a0_2) := (qw BK101.out 2).trans rfl;have hcz5_3 : w4.cell? ⟨gb101,3,none⟩ = some (.slice A0_3 l0_3.length c0_3) := (qw BK101.out 3).trans rfl;have hcz5_4 : w4.cell? ⟨gb101,4,none⟩ = some (.slice A0_4 l0_4.length c0_4) := (qw BK101.out 4).trans rfl;have hfz5_0 := qv BK101.out 0;have hfz5_1 := qv BK101.out 1;have hfz5_2 := qv BK101.out 2;have hfz5_3 := qv BK101.out 3;have hfz5_4 := qv BK101.out 4))
  go_ret
  exact ⟨by first | rfl | (simp [*,jk,jj] <;> rfl),by repeat (first | (with_reducible first | exact HB.out | apply qj | apply qz | apply qk | refine qx ?_ GE101.out) | exact HB.out)⟩
 ·rw [if_neg c3] at H
  have c3b0 : decide ((wrap64 (a1 - (a0_1.size : Int))) < 0) = false := decide_eq_false c3
  clear c3
  by_cases c6 : (wrap64 ((wrap64 (a1 - (a0_1.size : Int))) - (a0_2.size : Int))) < 0
  ·rw [if_pos c6] at H
   have c6b0 : decide ((wrap64 ((wrap64 (a1 - (a0_1.size : Int))) - (a0_2.size : Int))) < 0) = true := decide_eq_true c6
   clear c6
   obtain rfl := Option.some.inj H
   go_enter Try.func17,Try.ntmps17
   go_wp2_with (first | ((with_reducible refine gate_dst (N := 2) rfl ?_);refine box_event ?hg (N := 2) ?hd (cs := #[.int .i64 a0_0,.string a0_1,.string a0_2,.slice A0_3 l0_3.length c0_3,.slice A0_4 l0_4.length c0_4]) (t := 24) ?hr ?_;(case hd => rfl);(case hg => rfl);(case hr => first | (go_simp;done) | (go_simp;rfl));intro gb101 hg w7 hbox hb;have n0_ := qq.mk (zv (by repeat (first | (with_reducible first | exact HB.out | apply qj | apply qz | apply qk) | exact HB.out)) hb);have n1_ := qq.mk (hbox);have n2_ := qq.mk ((by rw [hg];exact (zw (by repeat (first | (with_reducible first | exact HB.out | apply qj | apply qz | apply qk) | exact HB.out))) : w.heap.size ≤ gb101));have n3_ := qq.mk ((by rw [hg];exact (zw (by repeat (first | (with_reducible first | exact HB.out | apply qj | apply qz | apply qk) | exact HB.out))) : w.heap.size ≤ gb101));clear HB;have HB := n0_;have BK101 := n1_;have GW101 := n2_;have GE101 := n3_;clear n0_ n1_ n2_ n3_;clear hb hbox hg;have hcz8_0 : w7.cell? ⟨gb101,0,none⟩ = some (.int .i64 a0_0) := (qw BK101.out 0).trans rfl;have hcz8_1 : w7.cell? ⟨gb101,1,none⟩ = some (.string a0_1) := (qw BK101.out 1).trans rfl;have hcz8_2 : w7.cell? ⟨gb101,2,none⟩ = some (.string a0_2) := (qw BK101.out 2).trans rfl;have hcz8_3 : w7.cell? ⟨gb101,3,none⟩ = some (.slice A0_3 l0_3.length c0_3) := (qw BK101.out 3).trans rfl;have hcz8_4 : w7.cell? ⟨gb101,4,none⟩ = some (.slice A0_4 l0_4.length c0_4) := (qw BK101.out 4).trans rfl;have hfz8_0 := qv BK101.out 0;have hfz8_1 := qv BK101.out 1;have hfz8_2 := qv BK101.out 2;have hfz8_3 := qv BK101.out 3;have hfz8_4 := qv BK101.out 4))
   go_ret
   exact ⟨by first | rfl | (simp [*,jk,jj] <;> rfl),by repeat (first | (with_reducible first | exact HB.out | apply qj | apply qz | apply qk | refine qx ?_ GE101.out) | exact HB.out)⟩
  ·rw [if_neg c6] at H
   have c6b0 : decide ((wrap64 ((wrap64 (a1 - (a0_1.size : Int))) - (a0_2.size : Int))) < 0) = false := decide_eq_false c6
   clear c6
   replace H := Option.bind_eq_some_iff.mp H
   obtain ⟨t102,A90,H⟩ := H
   replace H : (if t102 < 0 then (some (-1)) else ((qjz.f l0_4 t102).bind fun t103 => (if t103 < 0 then (some (-1)) else (some t103)))) = some r := H
   have A9 := qq.mk A90
   clear A90
   by_cases c10 : t102 < 0
   ·rw [if_pos c10] at H
    have c10b0 : decide (t102 < 0) = true := decide_eq_true c10
    clear c10
    obtain rfl := Option.some.inj H
    go_enter Try.func17,Try.ntmps17
    go_wp2_with (first | ((with_reducible refine gate_dst (N := 2) rfl ?_);refine box_event ?hg (N := 2) ?hd (cs := #[.int .i64 a0_0,.string a0_1,.string a0_2,.slice A0_3 l0_3.length c0_3,.slice A0_4 l0_4.length c0_4]) (t := 24) ?hr ?_;(case hd => rfl);(case hg => rfl);(case hr => first | (go_simp;done) | (go_simp;rfl));intro gb101 hg w11 hbox hb;have n0_ := qq.mk (zv (by repeat (first | (with_reducible first | exact HB.out | apply qj | apply qz | apply qk) | exact HB.out)) hb);have n1_ := qq.mk (hbox);have n2_ := qq.mk ((by rw [hg];exact (zw (by repeat (first | (with_reducible first | exact HB.out | apply qj | apply qz | apply qk) | exact HB.out))) : w.heap.size ≤ gb101));have n3_ := qq.mk ((by rw [hg];exact (zw (by repeat (first | (with_reducible first | exact HB.out | apply qj | apply qz | apply qk) | exact HB.out))) : w.heap.size ≤ gb101));clear HB;have HB := n0_;have BK101 := n1_;have GW101 := n2_;have GE101 := n3_;clear n0_ n1_ n2_ n3_;clear hb hbox hg;have hcz12_0 : w11.cell? ⟨gb101,0,none⟩ = some (.int .i64 a0_0) := (qw BK101.out 0).trans rfl;have hcz12_1 : w11.cell? ⟨gb101,1,none⟩ = some (.string a0_1) := (qw BK101.out 1).trans rfl;have hcz12_2 : w11.cell? ⟨gb101,2,none⟩ = some (.string a0_2) := (qw BK101.out 2).trans rfl;have hcz12_3 : w11.cell? ⟨gb101,3,none⟩ = some (.slice A0_3 l0_3.length c0_3) := (qw BK101.out 3).trans rfl;have hcz12_4 : w11.cell? ⟨gb101,4,none⟩ = some (.slice A0_4 l0_4.length c0_4) := (qw BK101.out 4).trans rfl;have hfz12_0 := qv BK101.out 0;have hfz12_1 := qv BK101.out 1;have hfz12_2 := qv BK101.out 2;have hfz12_3 := qv BK101.out 3;have hfz12_4 := qv BK101.out 4) | ((with_reducible refine jv (f := 69) rfl ?_);refine goesL_ (some 22) rfl rfl Try.func69 (by kernel_rfl) rfl #[.slice A0_3 l0_3.length c0_3,.int .i64 (wrap64 ((wrap64 (a1 - (a0_1.size : Int))) - (a0_2.size : Int)))] rfl (by (try simp only [List.map_toArray,List.map_cons,List.map_nil]);first | done | rfl | (simp only [List.length_drop,List.length_take];rfl)) ?_;(with_reducible refine (qjz.calls _ _ l0_3 (wrap64 ((wrap64 (a1 - (a0_1.size : Int))) - (a0_2.size : Int))) t102 _ ?side1 ?side2 A9.out).mono ?_);(case side1 => repeat (first | exact (Kd.C_below HR0_3.out HB.out) | (with_reducible refine Kd.C_alloc ?_ _) | (with_reducible refine Kd.C_drewN ?_ _) | (with_reducible refine Kd.C_drew ?_)));(case side2 => exact HC0_3.out);rintro e w' ⟨rfl,⟨nd,rfl⟩⟩;refine ⟨_,rfl,?_⟩))
    go_ret
    exact ⟨by first | rfl | (simp [*,jk,jj] <;> rfl),by repeat (first | (with_reducible first | exact HB.out | apply qj | apply qz | apply qk | refine qx ?_ GE101.out) | exact HB.out)⟩
   ·rw [if_neg c10] at H
    have c10b0 : decide (t102 < 0) = false := decide_eq_false c10
    clear c10
    replace H := Option.bind_eq_some_iff.mp H
    obtain ⟨t103,A130,H⟩ := H
    replace H : (if t103 < 0 then (some (-1)) else (some t103)) = some r := H
    have A13 := qq.mk A130
    clear A130
    by_cases c14 : t103 < 0
    ·rw [if_pos c14] at H
     have c14b0 : decide (t103 < 0) = true := decide_eq_true c14
     clear c14
     obtain rfl := Option.some.inj H
     go_enter Try.func17,Try.ntmps17
     go_wp2_with (first | ((with_reducible refine gate_dst (N := 2) rfl ?_);refine box_event ?hg (N := 2) ?hd (cs := #[.int .i64 a0_0,.string a0_1,.string a0_2,.slice A0_3 l0_3.length c0_3,.slice A0_4 l0_4.length c0_4]) (t := 24) ?hr ?_;(case hd => rfl);(case hg => rfl);(case hr => first | (go_simp;done) | (go_simp;rfl));intro gb101 hg w15 hbox hb;have n0_ := qq.mk (zv (by repeat (first | (with_reducible first | exact HB.out | apply qj | apply qz | apply qk) | exact HB.out)) hb);have n1_ := qq.mk (hbox);have n2_ := qq.mk ((by rw [hg];exact (zw (by repeat (first | (with_reducible first | exact HB.out | apply qj | apply qz | apply qk) | exact HB.out))) : w.heap.size ≤ gb101));have n3_ := qq.mk ((by rw [hg];exact (zw (by repeat (first | (with_reducible first | exact HB.out | apply qj | apply qz | apply qk) | exact HB.out))) : w.heap.size ≤ gb101));clear HB;have HB := n0_;have BK101 := n1_;have GW101 := n2_;have GE101 := n3_;clear n0_ n1_ n2_ n3_;clear hb hbox hg;have hcz16_0 : w15.cell? ⟨gb101,0,none⟩ = some (.int .i64 a0_0) := (qw BK101.out 0).trans rfl;have hcz16_1 : w15.cell? ⟨gb101,1,none⟩ = some (.string a0_1) := (qw BK101.out 1).trans rfl;have hcz16_2 : w15.cell? ⟨gb101,2,none⟩ = some (.string a0_2) := (qw BK101.out 2).trans rfl;have hcz16_3 : w15.cell? ⟨gb101,3,none⟩ = some (.slice A0_3 l0_3.length c0_3) := (qw BK101.out 3).trans rfl;have hcz16_4 : w15.cell? ⟨gb101,4,none⟩ = some (.slice A0_4 l0_4.length c0_4) := (qw BK101.out 4).trans rfl;have hfz16_0 := qv BK101.out 0;have hfz16_1 := qv BK101.out 1;have hfz16_2 := qv BK101.out 2;have hfz16_3 := qv BK101.out 3;have hfz16_4 := qv BK101.out 4) | ((with_reducible refine jv (f := 69) rfl ?_);refine goesL_ (some 22) rfl rfl Try.func69 (by kernel_rfl) rfl #[.slice A0_3 l0_3.length c0_3,.int .i64 (wrap64 ((wrap64 (a1 - (a0_1.size : Int))) - (a0_2.size : Int)))] rfl (by (try simp only [List.map_toArray,List.map_cons,List.map_nil]);first | done | rfl | (simp only [List.length_drop,List.length_take];rfl)) ?_;(with_reducible refine (qjz.calls _ _ l0_3 (wrap64 ((wrap64 (a1 - (a0_1.size : Int))) - (a0_2.size : Int))) t102 _ ?side1 ?side2 A9.out).mono ?_);(case side1 => repeat (first | exact (Kd.C_below HR0_3.out HB.out) | (with_reducible refine Kd.C_alloc ?_ _) | (with_reducible refine Kd.C_drewN ?_ _) | (with_reducible refine Kd.C_drew ?_)));(case side2 => exact HC0_3.out);rintro e w' ⟨rfl,⟨nd,rfl⟩⟩;refine ⟨_,rfl,?_⟩) | ((with_reducible refine jv (f := 69) rfl ?_);refine goesL_ (some 28) rfl rfl Try.func69 (by kernel_rfl) rfl #[.slice A0_4 l0_4.length c0_4,.int .i64 t102] rfl (by (try simp only [List.map_toArray,List.map_cons,List.map_nil]);first | done | rfl | (simp only [List.length_drop,List.length_take];rfl)) ?_;(with_reducible refine (qjz.calls _ _ l0_4 t102 t103 _ ?side1 ?side2 A13.out).mono ?_);(case side1 => repeat (first | exact (Kd.C_below HR0_4.out (by repeat (first | (with_reducible first | exact HB.out | apply qj | apply qz | apply qk | refine qx ?_ GE101.out) | exact HB.out))) | (with_reducible refine Kd.C_alloc ?_ _) | (with_reducible refine Kd.C_drewN ?_ _) | (with_reducible refine Kd.C_drew ?_)));(case side2 => exact HC0_4.out);rintro e w' ⟨rfl,⟨nd,rfl⟩⟩;refine ⟨_,rfl,?_⟩))
     go_ret
     exact ⟨by first | rfl | (simp [*,jk,jj] <;> rfl),by repeat (first | (with_reducible first | exact HB.out | apply qj | apply qz | apply qk | refine qx ?_ GE101.out) | exact HB.out)⟩
    ·rw [if_neg c14] at H
     have c14b0 : decide (t103 < 0) = false := decide_eq_false c14
     clear c14
     obtain rfl := Option.some.inj H
     go_enter Try.func17,Try.ntmps17
     go_wp2_with (first | ((with_reducible refine gate_dst (N := 2) rfl ?_);refine box_event ?hg (N := 2) ?hd (cs := #[.int .i64 a0_0,.string a0_1,.string a0_2,.slice A0_3 l0_3.length c0_3,.slice A0_4 l0_4.length c0_4]) (t := 24) ?hr ?_;(case hd => rfl);(case hg => rfl);(case hr => first | (go_simp;done) | (go_simp;rfl));intro gb101 hg w17 hbox hb;have n0_ := qq.mk (zv (by repeat (first | (with_reducible first | exact HB.out | apply qj | apply qz | apply qk) | exact HB.out)) hb);have n1_ := qq.mk (hbox);have n2_ := qq.mk ((by rw [hg];exact (zw (by repeat (first | (with_reducible first | exact HB.out | apply qj | apply qz | apply qk) | exact HB.out))) : w.heap.size ≤ gb101));have n3_ := qq.mk ((by rw [hg];exact (zw (by repeat (first | (with_reducible first | exact HB.out | apply qj | apply qz | apply qk) | exact HB.out))) : w.heap.size ≤ gb101));clear HB;have HB := n0_;have BK101 := n1_;have GW101 := n2_;have GE101 := n3_;clear n0_ n1_ n2_ n3_;clear hb hbox hg;have hcz18_0 : w17.cell? ⟨gb101,0,none⟩ = some (.int .i64 a0_0) := (qw BK101.out 0).trans rfl;have hcz18_1 : w17.cell? ⟨gb101,1,none⟩ = some (.string a0_1) := (qw BK101.out 1).trans rfl;have hcz18_2 : w17.cell? ⟨gb101,2,none⟩ = some (.string a0_2) := (qw BK101.out 2).trans rfl;have hcz18_3 : w17.cell? ⟨gb101,3,none⟩ = some (.slice A0_3 l0_3.length c0_3) := (qw BK101.out 3).trans rfl;have hcz18_4 : w17.cell? ⟨gb101,4,none⟩ = some (.slice A0_4 l0_4.length c0_4) := (qw BK101.out 4).trans rfl;have hfz18_0 := qv BK101.out 0;have hfz18_1 := qv BK101.out 1;have hfz18_2 := qv BK101.out 2;have hfz18_3 := qv BK101.out 3;have hfz18_4 := qv BK101.out 4) | ((with_reducible refine jv (f := 69) rfl ?_);refine goesL_ (some 22) rfl rfl Try.func69 (by kernel_rfl) rfl #[.slice A0_3 l0_3.length c0_3,.int .i64 (wrap64 ((wrap64 (a1 - (a0_1.size : Int))) - (a0_2.size : Int)))] rfl (by (try simp only [List.map_toArray,List.map_cons,List.map_nil]);first | done | rfl | (simp only [List.length_drop,List.length_take];rfl)) ?_;(with_reducible refine (qjz.calls _ _ l0_3 (wrap64 ((wrap64 (a1 - (a0_1.size : Int))) - (a0_2.size : Int))) t102 _ ?side1 ?side2 A9.out).mono ?_);(case side1 => repeat (first | exact (Kd.C_below HR0_3.out HB.out) | (with_reducible refine Kd.C_alloc ?_ _) | (with_reducible refine Kd.C_drewN ?_ _) | (with_reducible refine Kd.C_drew ?_)));(case side2 => exact HC0_3.out);rintro e w' ⟨rfl,⟨nd,rfl⟩⟩;refine ⟨_,rfl,?_⟩) | ((with_reducible refine jv (f := 69) rfl ?_);refine goesL_ (some 28) rfl rfl Try.func69 (by kernel_rfl) rfl #[.slice A0_4 l0_4.length c0_4,.int .i64 t102] rfl (by (try simp only [List.map_toArray,List.map_cons,List.map_nil]);first | done | rfl | (simp only [List.length_drop,List.length_take];rfl)) ?_;(with_reducible refine (qjz.calls _ _ l0_4 t102 t103 _ ?side1 ?side2 A13.out).mono ?_);(case side1 => repeat (first | exact (Kd.C_below HR0_4.out (by repeat (first | (with_reducible first | exact HB.out | apply qj | apply qz | apply qk | refine qx ?_ GE101.out) | exact HB.out))) | (with_reducible refine Kd.C_alloc ?_ _) | (with_reducible refine Kd.C_drewN ?_ _) | (with_reducible refine Kd.C_drew ?_)));(case side2 => exact HC0_4.out);rintro e w' ⟨rfl,⟨nd,rfl⟩⟩;refine ⟨_,rfl,?_⟩))
     go_ret
     exact ⟨by first | rfl | (simp [*,jk,jj] <;> rfl),by repeat (first | (with_reducible first | exact HB.out | apply qj | apply qz | apply qk | refine qx ?_ GE101.out) | exact HB.out)⟩
def qjw.f (k : Nat) (a0_0 : Int) (a0_1 : ByteArray) (a0_2 : ByteArray) (l0_3 : List Int) (l0_4 : List Int) : Option (Int × ByteArray × ByteArray × List Int × List Int) := (qjv.f k l0_3).bind fun t104 => ((qjv.f k l0_4).bind fun t107 => (some (a0_0,a0_1,a0_2,t104,t107)))
set_option maxHeartbeats 8000000 in
set_option maxRecDepth 100000 in
theorem qjw.calls (k : Nat) (a0_0 : Int) (a0_1 : ByteArray) (a0_2 : ByteArray) (A0_3 : Option Addr) (c0_3 : Nat) (l0_3 : List Int) (A0_4 : Option Addr) (c0_4 : Nat) (l0_4 : List Int) (r1 : Int) (r2 : ByteArray) (r3 : ByteArray) (r4 : List Int) (r5 : List Int) (w : World) (hr0_3 : Kd.C (Kd.int .u8) w A0_3 l0_3.length l0_3) (hc0_3 : l0_3.length ≤ c0_3) (hr0_4 : Kd.C (Kd.int .u8) w A0_4 l0_4.length l0_4) (hc0_4 : l0_4.length ≤ c0_4) (h : qjw.f k a0_0 a0_1 a0_2 l0_3 l0_4 = some (r1,r2,r3,r4,r5)) :
  Calls Try.prog 19 #[.agg #[.int .i64 a0_0,.string a0_1,.string a0_2,.slice A0_3 l0_3.length c0_3,.slice A0_4 l0_4.length c0_4]] w fun e w' => ∃ v3_ v4_ : Value,e = .returned (.agg #[.int .i64 r1,.string r2,.string r3,v3_,v4_]) ∧ Kd.R (Kd.int .u8) 5 w' w.heap.size (fun k_ => some k_ ≠ (v4_ : Value).ownBlock) v3_ r4 ∧ Kd.R (Kd.int .u8) 5 w' w.heap.size (fun k_ => some k_ ≠ (v3_ : Value).ownBlock) v4_ r5 ∧ Below w.heap.size w w' := by
 have hu24 := Try.underlying24
 have hu27 := Try.underlying27
 have HR0_3 := qq.mk hr0_3
 have HC0_3 := qq.mk hc0_3
 clear hr0_3 hc0_3
 have HR0_4 := qq.mk hr0_4
 have HC0_4 := qq.mk hc0_4
 clear hr0_4 hc0_4
 have HB := qq.mk (Below.refl w.heap.size w)
 have H : ((qjv.f k l0_3).bind fun t104 => ((qjv.f k l0_4).bind fun t107 => (some (a0_0,a0_1,a0_2,t104,t107)))) = some (r1,r2,r3,r4,r5) := h
 clear h
 replace H := Option.bind_eq_some_iff.mp H
 obtain ⟨t104,A20,H⟩ := H
 replace H : ((qjv.f k l0_4).bind fun t107 => (some (a0_0,a0_1,a0_2,t104,t107))) = some (r1,r2,r3,r4,r5) := H
 have A2 := qq.mk A20
 clear A20
 replace H := Option.bind_eq_some_iff.mp H
 obtain ⟨t107,A30,H⟩ := H
 replace H : (some (a0_0,a0_1,a0_2,t104,t107)) = some (r1,r2,r3,r4,r5) := H
 have A3 := qq.mk A30
 clear A30
 simp only [Option.some.injEq,Prod.mk.injEq] at H
 obtain ⟨rfl,rfl,rfl,rfl,rfl⟩ := H
 go_enter Try.func19,Try.ntmps19
 go_wp2_with (first | ((with_reducible refine gate_dst (N := 1) rfl ?_);refine box_event ?hg (N := 1) ?hd (cs := #[.int .i64 a0_0,.string a0_1,.string a0_2,.slice A0_3 l0_3.length c0_3,.slice A0_4 l0_4.length c0_4]) (t := 24) ?hr ?_;(case hd => rfl);(case hg => rfl);(case hr => first | (go_simp;done) | (go_simp;rfl));intro gb101 hg w4 hbox hb;have n0_ := qq.mk (zv (by repeat (first | (with_reducible first | exact HB.out | apply qj | apply qz | apply qk) | exact HB.out)) hb);have n1_ := qq.mk (hbox);have n2_ := qq.mk ((by rw [hg];exact (zw (by repeat (first | (with_reducible first | exact HB.out | apply qj | apply qz | apply qk) | exact HB.out))) : w.heap.size ≤ gb101));have n3_ := qq.mk ((by rw [hg];exact (zw (by repeat (first | (with_reducible first | exact HB.out | apply qj | apply qz | apply qk) | exact HB.out))) : w.heap.size ≤ gb101));clear HB;have HB := n0_;have BK101 := n1_;have GW101 := n2_;have GE101 := n3_;clear n0_ n1_ n2_ n3_;clear hb hbox hg) | ((with_reducible refine gate_dst (N := 2) rfl ?_);refine box_event ?hg (N := 2) ?hd (cs := #[.int .i64 0,.string (⟨#[]⟩ : ByteArray),.string (⟨#[]⟩ : ByteArray),.slice none 0 0,.slice none 0 0]) (t := 27) ?hr ?_;(case hd => rfl);(case hg => rfl);(case hr => first | (go_simp;done) | (go_simp;rfl));intro gb102 hg w5 hbox hb;have n0_ := qq.mk (vw (g := gb101) (o := .cells #[.int .i64 a0_0,.string a0_1,.string a0_2,.slice A0_3 l0_3.length c0_3,.slice A0_4 l0_4.length c0_4] 24 (0,0)) (by (with_reducible repeat (first | refine zz ?_ _ | refine zj ?_ | refine zq ?_ _));exact BK101.out) hb);have n1_ := qq.mk (zv (by repeat (first | (with_reducible first | exact HB.out | apply qj | apply qz | apply qk | refine qx ?_ GE101.out) | exact HB.out)) hb);have n2_ := qq.mk (hbox);have n3_ := qq.mk ((by rw [hg];exact (zw (by repeat (first | (with_reducible first | exact HB.out | apply qj | apply qz | apply qk | refine qx ?_ GE101.out) | exact HB.out))) : w.heap.size ≤ gb102));have n4_ := qq.mk ((by rw [hg];exact (zw (by repeat (first | (with_reducible first | exact HB.out | apply qj | apply qz | apply qk | refine qx ?_ GE101.out) | exact HB.out))) : w.heap.size ≤ gb102));have n5_ := qq.mk ((by rw [hg];exact Nat.ne_of_lt (blk_lt (g := gb101) (o := .cells #[.int .i64 a0_0,.string a0_1,.string a0_2,.slice A0_3 l0_3.length c0_3,.slice A0_4 l0_4.length c0_4] 24 (0,0)) (by (with_reducible repeat (first | refine zz ?_ _ | refine zj ?_ | refine zq ?_ _));exact BK101.out)) : gb101 ≠ gb102));have n6_ := qq.mk ((by rw [hg];exact Nat.ne_of_gt (blk_lt (g := gb101) (o := .cells #[.int .i64 a0_0,.string a0_1,.string a0_2,.slice A0_3 l0_3.length c0_3,.slice A0_4 l0_4.length c0_4] 24 (0,0)) (by (with_reducible repeat (first | refine zz ?_ _ | refine zj ?_ | refine zq ?_ _));exact BK101.out)) : gb102 ≠ gb101));clear BK101;clear HB;have BK101 := n0_;have HB := n1_;have BK102 := n2_;have GW102 := n3_;have GE102 := n4_;have NB101_102 := n5_;have NB102_101 := n6_;clear n0_ n1_ n2_ n3_ n4_ n5_ n6_;clear hb hbox hg) | ((with_reducible refine gate_dst (N := 3) rfl ?_);refine box_event ?hg (N := 3) ?hd (cs := #[.int .i64 0,.string (⟨#[]⟩ : ByteArray),.string (⟨#[]⟩ : ByteArray),.slice none 0 0,.slice none 0 0]) (t := 27) ?hr ?_;(case hd => rfl);(case hg => rfl);(case hr => first | (go_simp;done) | (go_simp;rfl));intro gb103 hg w6 hbox hb;have n0_ := qq.mk (vw (g := gb101) (o := .cells #[.int .i64 a0_0,.string a0_1,.string a0_2,.slice A0_3 l0_3.length c0_3,.slice A0_4 l0_4.length c0_4] 24 (0,0)) (by (with_reducible repeat (first | refine zz ?_ _ | refine zj ?_ | refine zq ?_ _));exact BK101.out) hb);have n1_ := qq.mk (vw (g := gb102) (o := .cells #[.int .i64 0,.string (⟨#[]⟩ : ByteArray),.string (⟨#[]⟩ : ByteArray),.slice none 0 0,.slice none 0 0] 27 (0,0)) (by (with_reducible repeat (first | refine zz ?_ _ | refine zj ?_ | refine zq ?_ _));exact BK102.out) hb);have n2_ := qq.mk (zv (by repeat (first | (with_reducible first | exact HB.out | apply qj | apply qz | apply qk | refine qx ?_ GE101.out | refine qx ?_ GE102.out) | exact HB.out)) hb);have n3_ := qq.mk (hbox);have n4_ := qq.mk ((by rw [hg];exact (zw (by repeat (first | (with_reducible first | exact HB.out | apply qj | apply qz | apply qk | refine qx ?_ GE101.out | refine qx ?_ GE102.out) | exact HB.out))) : w.heap.size ≤ gb103));have n5_ := qq.mk ((by rw [hg];exact (zw (by repeat (first | (with_reducible first | exact HB.out | apply qj | apply qz | apply qk | refine qx ?_ GE101.out | refine qx ?_ GE102.out) | exact HB.out))) : w.heap.size ≤ gb103));have n6_ := qq.mk ((by rw [hg];exact Nat.ne_of_lt (blk_lt (g := gb101) (o := .cells #[.int .i64 a0_0,.string a0_1,.string a0_2,.slice A0_3 l0_3.length c0_3,.slice A0_4 l0_4.length c0_4] 24 (0,0)) (by (with_reducible repeat (first | refine zz ?_ _ | refine zj ?_ | refine zq ?_ _));exact BK101.out)) : gb101 ≠ gb103));have n7_ := qq.mk ((by rw [hg];exact Nat.ne_of_gt (blk_lt (g := gb101) (o := .cells #[.int .i64 a0_0,.string a0_1,.string a0_2,.slice A0_3 l0_3.length c0_3,.slice A0_4 l0_4.length c0_4] 24 (0,0)) (by (with_reducible repeat (first | refine zz ?_ _ | refine zj ?_ | refine zq ?_ _));exact BK101.out)) : gb103 ≠ gb101));have n8_ := qq.mk ((by rw [hg];exact Nat.ne_of_lt (blk_lt (g := gb102) (o := .cells #[.int .i64 0,.string (⟨#[]⟩ : ByteArray),.string (⟨#[]⟩ : ByteArray),.slice none 0 0,.slice none 0 0] 27 (0,0)) (by (with_reducible repeat (first | refine zz ?_ _ | refine zj ?_ | refine zq ?_ _));exact BK102.out)) : gb102 ≠ gb103));have n9_ := qq.mk ((by rw [hg];exact Nat.ne_of_gt (blk_lt (g := gb102) (o := .cells #[.int .i64 0,.string (⟨#[]⟩ : ByteArray),.string (⟨#[]⟩ : ByteArray),.slice none 0 0,.slice none 0 0] 27 (0,0)) (by (with_reducible repeat (first | refine zz ?_ _ | refine zj ?_ | refine zq ?_ _));exact BK102.out)) : gb103 ≠ gb102));clear BK101;clear BK102;clear HB;have BK101 := n0_;have BK102 := n1_;have HB := n2_;have BK103 := n3_;have GW103 := n4_;have GE103 := n5_;have NB101_103 := n6_;have NB103_101 := n7_;have NB102_103 := n8_;have NB103_102 := n9_;clear n0_ n1_ n2_ n3_ n4_ n5_ n6_ n7_ n8_ n9_;clear hb hbox hg;have hnb7 := NB101_102.out;have hnc7 := NB102_101.out;have hnb8 := NB101_103.out;have hnc8 := NB103_101.out;have hcz9_0 : w6.cell? ⟨gb101,0,none⟩ = some (.int .i64 a0_0) := (qw BK101.out 0).trans rfl;have hcz9_1 : w6.cell? ⟨gb101,1,none⟩ = some (.string a0_1) := (qw BK101.out 1).trans rfl;have hcz9_2 : w6.cell? ⟨gb101,2,none⟩ = some (.string a0_2) := (qw BK101.out 2).trans rfl;have hcz9_3 : w6.cell? ⟨gb101,3,none⟩ = some (.slice A0_3 l0_3.length c0_3) := (qw BK101.out 3).trans rfl;have hcz9_4 : w6.cell? ⟨gb101,4,none⟩ = some (.slice A0_4 l0_4.length c0_4) := (qw BK101.out 4).trans rfl;have hfz9_0 := qv BK101.out 0;have hfz9_1 := qv BK101.out 1;have hfz9_2 := qv BK101.out 2;have hfz9_3 := qv BK101.out 3;have hfz9_4 := qv BK101.out 4;have hnb10 := NB103_102.out;have hnc10 := NB102_103.out;have hcz11_0 : w6.cell? ⟨gb103,0,none⟩ = some (.int .i64 0) := (qw BK103.out 0).trans rfl;have hcz11_1 : w6.cell? ⟨gb103,1,none⟩ = some (.string (⟨#[]⟩ : ByteArray)) := (qw BK103.out 1).trans rfl;have hcz11_2 : w6.cell? ⟨gb103,2,none⟩ = some (.string (⟨#[]⟩ : ByteArray)) := (qw BK103.out 2).trans rfl;have hcz11_3 : w6.cell? ⟨gb103,3,none⟩ = some (.slice none 0 0) := (qw BK103.out 3).trans rfl;have hcz11_4 : w6.cell? ⟨gb103,4,none⟩ = some (.slice none 0 0) := (qw BK103.out 4).trans rfl;have hfz11_0 := qv BK103.out 0;have hfz11_1 := qv BK103.out 1;have hfz11_2 := qv BK103.out 2;have hfz11_3 := qv BK103.out 3;have hfz11_4 := qv BK103.out 4) | ((with_reducible refine jv (f := 48) rfl ?_);refine goesL_ (some 15) rfl rfl Try.func48 (by kernel_rfl) rfl #[.slice A0_3 l0_3.length c0_3] rfl (by (try simp only [List.map_toArray,List.map_cons,List.map_nil]);first | done | rfl | (simp only [List.length_drop,List.length_take];rfl)) ?_;(with_reducible refine (qjv.calls k _ _ l0_3 t104 _ ?side1 ?side2 A2.out).mono ?_);(case side1 => exact Kd.C_below HR0_3.out (by repeat (first | (with_reducible first | exact HB.out | apply qj | apply qz | apply qk | refine qx ?_ GE101.out | refine qx ?_ GE102.out | refine qx ?_ GE103.out) | exact HB.out)));(case side2 => exact HC0_3.out);rintro e w12 ⟨v105,rfl,ho0,hb⟩;refine ⟨_,rfl,?_⟩;have n0_ := qq.mk (Kd.R_lower ho0 (zw (by repeat (first | (with_reducible first | exact HB.out | apply qj | apply qz | apply qk | refine qx ?_ GE101.out | refine qx ?_ GE102.out | refine qx ?_ GE103.out) | exact HB.out))));have n1_ := qq.mk (vw (g := gb101) (o := .cells #[.int .i64 a0_0,.string a0_1,.string a0_2,.slice A0_3 l0_3.length c0_3,.slice A0_4 l0_4.length c0_4] 24 (0,0)) (by (with_reducible repeat (first | refine zz ?_ _ | refine zj ?_ | refine zq ?_ _));refine blk_far ?_ NB101_103.out _;(with_reducible repeat (first | refine zz ?_ _ | refine zj ?_ | refine zq ?_ _));refine blk_far ?_ NB101_103.out _;(with_reducible repeat (first | refine zz ?_ _ | refine zj ?_ | refine zq ?_ _));refine blk_far ?_ NB101_103.out _;(with_reducible repeat (first | refine zz ?_ _ | refine zj ?_ | refine zq ?_ _));exact BK101.out) hb);have n2_ := qq.mk (vw (g := gb102) (o := .cells #[.int .i64 0,.string (⟨#[]⟩ : ByteArray),.string (⟨#[]⟩ : ByteArray),.slice none 0 0,.slice none 0 0] 27 (0,0)) (by (with_reducible repeat (first | refine zz ?_ _ | refine zj ?_ | refine zq ?_ _));refine blk_far ?_ NB102_103.out _;(with_reducible repeat (first | refine zz ?_ _ | refine zj ?_ | refine zq ?_ _));refine blk_far ?_ NB102_103.out _;(with_reducible repeat (first | refine zz ?_ _ | refine zj ?_ | refine zq ?_ _));refine blk_far ?_ NB102_103.out _;(with_reducible repeat (first | refine zz ?_ _ | refine zj ?_ | refine zq ?_ _));exact BK102.out) hb);have n3_ := qq.mk (vw (g := gb103) (o := .cells #[.int .i64 a0_0,.string a0_1,.string a0_2,.slice none 0 0,.slice none 0 0] 27 (0,0)) (by (with_reducible repeat (first | refine zz ?_ _ | refine zj ?_ | refine zq ?_ _));refine blk_put (cs := #[.int .i64 a0_0,.string a0_1,.string (⟨#[]⟩ : ByteArray),.slice none 0 0,.slice none 0 0]) ?_ 2 _ rfl;(with_reducible repeat (first | refine zz ?_ _ | refine zj ?_ | refine zq ?_ _));refine blk_put (cs := #[.int .i64 a0_0,.string (⟨#[]⟩ : ByteArray),.string (⟨#[]⟩ : ByteArray),.slice none 0 0,.slice none 0 0]) ?_ 1 _ rfl;(with_reducible repeat (first | refine zz ?_ _ | refine zj ?_ | refine zq ?_ _));refine blk_put (cs := #[.int .i64 0,.string (⟨#[]⟩ : ByteArray),.string (⟨#[]⟩ : ByteArray),.slice none 0 0,.slice none 0 0]) ?_ 0 _ rfl;(with_reducible repeat (first | refine zz ?_ _ | refine zj ?_ | refine zq ?_ _));exact BK103.out) hb);have n4_ := qq.mk (zv (by repeat (first | (with_reducible first | exact HB.out | apply qj | apply qz | apply qk | refine qx ?_ GE101.out | refine qx ?_ GE102.out | refine qx ?_ GE103.out) | exact HB.out)) hb);clear BK101;clear BK102;clear BK103;clear HB;have HO106 := n0_;have BK101 := n1_;have BK102 := n2_;have BK103 := n3_;have HB := n4_;clear n0_ n1_ n2_ n3_ n4_;(try clear hb);(try clear hb2);(try clear hk);(try clear hi);(try clear ho0);obtain ⟨Ao13,co13,eo13⟩ := Kd.R_slice HO106.out;subst eo13;have hcz14_0 : w12.cell? ⟨gb103,0,none⟩ = some (.int .i64 a0_0) := (qw BK103.out 0).trans rfl;have hcz14_1 : w12.cell? ⟨gb103,1,none⟩ = some (.string a0_1) := (qw BK103.out 1).trans rfl;have hcz14_2 : w12.cell? ⟨gb103,2,none⟩ = some (.string a0_2) := (qw BK103.out 2).trans rfl;have hcz14_3 : w12.cell? ⟨gb103,3,none⟩ = some (.slice none 0 0) := (qw BK103.out 3).trans rfl;have hcz14_4 : w12.cell? ⟨gb103,4,none⟩ = some (.slice none 0 0) := (qw BK103.out 4).trans rfl;have hfz14_0 := qv BK103.out 0;have hfz14_1 := qv BK103.out 1;have hfz14_2 := qv BK103.out 2;have hfz14_3 := qv BK103.out 3;have hfz14_4 := qv BK103.out 4;have hcz15_0 : w12.cell? ⟨gb101,0,none⟩ = some (.int .i64 a0_0) := (qw BK101.out 0).trans rfl;have hcz15_1 : w12.cell? ⟨gb101,1,none⟩ = some (.string a0_1) := (qw BK101.out 1).trans rfl;have hcz15_2 : w12.cell? ⟨gb101,2,none⟩ = some (.string a0_2) := (qw BK101.out 2).trans rfl;have hcz15_3 : w12.cell? ⟨gb101,3,none⟩ = some (.slice A0_3 l0_3.length c0_3) := (qw BK101.out 3).trans rfl;have hcz15_4 : w12.cell? ⟨gb101,4,none⟩ = some (.slice A0_4 l0_4.length c0_4) := (qw BK101.out 4).trans rfl;have hfz15_0 := qv BK101.out 0;have hfz15_1 := qv BK101.out 1;have hfz15_2 := qv BK101.out 2;have hfz15_3 := qv BK101.out 3;have hfz15_4 := qv BK101.out 4) | ((with_reducible refine jv (f := 48) rfl ?_);refine goesL_ (some 19) rfl rfl Try.func48 (by kernel_rfl) rfl #[.slice A0_4 l0_4.length c0_4] rfl (by (try simp only [List.map_toArray,List.map_cons,List.map_nil]);first | done | rfl | (simp only [List.length_drop,List.length_take];rfl)) ?_;(with_reducible refine (qjv.calls k _ _ l0_4 t107 _ ?side1 ?side2 A3.out).mono ?_);(case side1 => exact Kd.C_below HR0_4.out (by repeat (first | (with_reducible first | exact HB.out | apply qj | apply qz | apply qk | refine qx ?_ GE101.out | refine qx ?_ GE102.out | refine qx ?_ GE103.out) | exact HB.out)));(case side2 => exact HC0_4.out);rintro e w16 ⟨v108,rfl,ho0,hb⟩;refine ⟨_,rfl,?_⟩;have n0_ := qq.mk (Kd.R_elder' (by (with_reducible repeat (first | apply Kd.jq | apply Kd.zx | apply Kd.jz));exact (Kd.R_mono (Kd.R_far (p := ⟨gb103,3,none⟩) (Kd.R_types HO106.out BK103.out (by decide)) (fun _ hk => hk.2) (.slice Ao13 t104.length co13)) (fun _ h_ => h_.1))) (Kd.R_base ho0) hb);have n1_ := qq.mk (Kd.R_lower (Kd.R_new' ho0 (Kd.R_lt (by (with_reducible repeat (first | apply Kd.jq | apply Kd.zx | apply Kd.jz));exact (Kd.R_mono (Kd.R_far (p := ⟨gb103,3,none⟩) (Kd.R_types HO106.out BK103.out (by decide)) (fun _ hk => hk.2) (.slice Ao13 t104.length co13)) (fun _ h_ => h_.1))))) (zw (by repeat (first | (with_reducible first | exact HB.out | apply qj | apply qz | apply qk | refine qx ?_ GE101.out | refine qx ?_ GE102.out | refine qx ?_ GE103.out) | exact HB.out))));have n2_ := qq.mk (vw (g := gb101) (o := .cells #[.int .i64 a0_0,.string a0_1,.string a0_2,.slice A0_3 l0_3.length c0_3,.slice A0_4 l0_4.length c0_4] 24 (0,0)) (by (with_reducible repeat (first | refine zz ?_ _ | refine zj ?_ | refine zq ?_ _));refine blk_far ?_ NB101_103.out _;(with_reducible repeat (first | refine zz ?_ _ | refine zj ?_ | refine zq ?_ _));exact BK101.out) hb);have n3_ := qq.mk (vw (g := gb102) (o := .cells #[.int .i64 0,.string (⟨#[]⟩ : ByteArray),.string (⟨#[]⟩ : ByteArray),.slice none 0 0,.slice none 0 0] 27 (0,0)) (by (with_reducible repeat (first | refine zz ?_ _ | refine zj ?_ | refine zq ?_ _));refine blk_far ?_ NB102_103.out _;(with_reducible repeat (first | refine zz ?_ _ | refine zj ?_ | refine zq ?_ _));exact BK102.out) hb);have n4_ := qq.mk (vw (g := gb103) (o := .cells #[.int .i64 a0_0,.string a0_1,.string a0_2,.slice Ao13 t104.length co13,.slice none 0 0] 27 (0,0)) (by (with_reducible repeat (first | refine zz ?_ _ | refine zj ?_ | refine zq ?_ _));refine blk_put (cs := #[.int .i64 a0_0,.string a0_1,.string a0_2,.slice none 0 0,.slice none 0 0]) ?_ 3 _ rfl;(with_reducible repeat (first | refine zz ?_ _ | refine zj ?_ | refine zq ?_ _));exact BK103.out) hb);have n5_ := qq.mk (zv (by repeat (first | (with_reducible first | exact HB.out | apply qj | apply qz | apply qk | refine qx ?_ GE101.out | refine qx ?_ GE102.out | refine qx ?_ GE103.out) | exact HB.out)) hb);clear HO106;clear BK101;clear BK102;clear BK103;clear HB;have HO106 := n0_;have HO109 := n1_;have BK101 := n2_;have BK102 := n3_;have BK103 := n4_;have HB := n5_;clear n0_ n1_ n2_ n3_ n4_ n5_;(try clear hb);(try clear hb2);(try clear hk);(try clear hi);(try clear ho0);obtain ⟨Ao17,co17,eo17⟩ := Kd.R_slice HO109.out;subst eo17;have hcz18_0 : w16.cell? ⟨gb103,0,none⟩ = some (.int .i64 a0_0) := (qw BK103.out 0).trans rfl;have hcz18_1 : w16.cell? ⟨gb103,1,none⟩ = some (.string a0_1) := (qw BK103.out 1).trans rfl;have hcz18_2 : w16.cell? ⟨gb103,2,none⟩ = some (.string a0_2) := (qw BK103.out 2).trans rfl;have hcz18_3 : w16.cell? ⟨gb103,3,none⟩ = some (.slice Ao13 t104.length co13) := (qw BK103.out 3).trans rfl;have hcz18_4 : w16.cell? ⟨gb103,4,none⟩ = some (.slice none 0 0) := (qw BK103.out 4).trans rfl;have hfz18_0 := qv BK103.out 0;have hfz18_1 := qv BK103.out 1;have hfz18_2 := qv BK103.out 2;have hfz18_3 := qv BK103.out 3;have hfz18_4 := qv BK103.out 4;have hcz19_0 : w16.cell? ⟨gb102,0,none⟩ = some (.int .i64 0) := (qw BK102.out 0).trans rfl;have hcz19_1 : w16.cell? ⟨gb102,1,none⟩ = some (.string (⟨#[]⟩ : ByteArray)) := (qw BK102.out 1).trans rfl;have hcz19_2 : w16.cell? ⟨gb102,2,none⟩ = some (.string (⟨#[]⟩ : ByteArray)) := (qw BK102.out 2).trans rfl;have hcz19_3 : w16.cell? ⟨gb102,3,none⟩ = some (.slice none 0 0) := (qw BK102.out 3).trans rfl;have hcz19_4 : w16.cell? ⟨gb102,4,none⟩ = some (.slice none 0 0) := (qw BK102.out 4).trans rfl;have hfz19_0 := qv BK102.out 0;have hfz19_1 := qv BK102.out 1;have hfz19_2 := qv BK102.out 2;have hfz19_3 := qv BK102.out 3;have hfz19_4 := qv BK102.out 4))
 refine bodyPost_ret (results_cell_row rfl _ _ gb102 27 #[.int .i64 a0_0,.string a0_1,.string a0_2,.slice Ao13 t104.length co13,.slice Ao17 t107.length co17] (0,0) _ rfl (by (with_reducible repeat (first | refine zz ?_ _ | refine zj ?_ | refine zq ?_ _));refine blk_put (cs := #[.int .i64 a0_0,.string a0_1,.string a0_2,.slice Ao13 t104.length co13,.slice none 0 0]) ?_ 4 _ rfl;(with_reducible repeat (first | refine zz ?_ _ | refine zj ?_ | refine zq ?_ _));refine blk_put (cs := #[.int .i64 a0_0,.string a0_1,.string a0_2,.slice none 0 0,.slice none 0 0]) ?_ 3 _ rfl;(with_reducible repeat (first | refine zz ?_ _ | refine zj ?_ | refine zq ?_ _));refine blk_put (cs := #[.int .i64 a0_0,.string a0_1,.string (⟨#[]⟩ : ByteArray),.slice none 0 0,.slice none 0 0]) ?_ 2 _ rfl;(with_reducible repeat (first | refine zz ?_ _ | refine zj ?_ | refine zq ?_ _));refine blk_put (cs := #[.int .i64 a0_0,.string (⟨#[]⟩ : ByteArray),.string (⟨#[]⟩ : ByteArray),.slice none 0 0,.slice none 0 0]) ?_ 1 _ rfl;(with_reducible repeat (first | refine zz ?_ _ | refine zj ?_ | refine zq ?_ _));refine blk_put (cs := #[.int .i64 0,.string (⟨#[]⟩ : ByteArray),.string (⟨#[]⟩ : ByteArray),.slice none 0 0,.slice none 0 0]) ?_ 0 _ rfl;(with_reducible repeat (first | refine zz ?_ _ | refine zj ?_ | refine zq ?_ _));refine blk_far ?_ NB102_103.out _;(with_reducible repeat (first | refine zz ?_ _ | refine zj ?_ | refine zq ?_ _));exact BK102.out) Try.underlying27 rfl (by kernel_rfl)) rfl ?_
 exact ⟨_,_,by first | rfl | (simp [*,jk,jj] <;> rfl),by (with_reducible repeat (first | apply Kd.jq | apply Kd.zx | apply Kd.jz));exact Kd.R_mono (Kd.R_far (p := ⟨gb102,4,none⟩) (Kd.R_far (p := ⟨gb102,3,none⟩) (Kd.R_far (p := ⟨gb102,2,none⟩) (Kd.R_far (p := ⟨gb102,1,none⟩) (Kd.R_far (p := ⟨gb102,0,none⟩) (Kd.R_far (p := ⟨gb103,4,none⟩) (Kd.R_types (Kd.R_types HO106.out BK103.out (by decide)) BK102.out (by decide)) (fun _ hk => hk.1.2) (.slice Ao17 t107.length co17)) (fun _ hk => hk.2) (.int .i64 a0_0)) (fun _ hk => hk.2) (.string a0_1)) (fun _ hk => hk.2) (.string a0_2)) (fun _ hk => hk.2) (.slice Ao13 t104.length co13)) (fun _ hk => hk.2) (.slice Ao17 t107.length co17)) (fun _ hk => hk.1.1.2),by (with_reducible repeat (first | apply Kd.jq | apply Kd.zx | apply Kd.jz));exact Kd.R_mono (Kd.R_far (p := ⟨gb102,4,none⟩) (Kd.R_far (p := ⟨gb102,3,none⟩) (Kd.R_far (p := ⟨gb102,2,none⟩) (Kd.R_far (p := ⟨gb102,1,none⟩) (Kd.R_far (p := ⟨gb102,0,none⟩) (Kd.R_far (p := ⟨gb103,4,none⟩) (Kd.R_types (Kd.R_types HO109.out BK103.out (by decide)) BK102.out (by decide)) (fun _ hk => hk.1.2) (.slice Ao17 t107.length co17)) (fun _ hk => hk.2) (.int .i64 a0_0)) (fun _ hk => hk.2) (.string a0_1)) (fun _ hk => hk.2) (.string a0_2)) (fun _ hk => hk.2) (.slice Ao13 t104.length co13)) (fun _ hk => hk.2) (.slice Ao17 t107.length co17)) (fun _ hk => hk.1.1.2),by repeat (first | (with_reducible first | exact HB.out | apply qj | apply qz | apply qk | refine qx ?_ GE101.out | refine qx ?_ GE102.out | refine qx ?_ GE103.out) | exact HB.out)⟩
def qzz.f (k : Nat) (a0_0 : Int) (a0_1 : ByteArray) (a0_2 : ByteArray) (l0_3 : List Int) (l0_4 : List Int) (a1_0 : Int) (a1_1 : ByteArray) (a1_2 : ByteArray) (l1_3 : List Int) (l1_4 : List Int) : Option (Bool) := if a0_0 = a1_0 then (if a0_1.toList = a1_1.toList then (if a0_2.toList = a1_2.toList then ((qqx.f k l0_3 l1_3).bind fun t103 => (if t103 = true then ((qqx.f k l0_4 l1_4).bind fun t104 => (if t104 = true then (some true) else (some false))) else (some false))) else (some false)) else (some false)) else (some false)
set_option maxHeartbeats 8000000 in
set_option maxRecDepth 100000 in
theorem qzz.calls (k : Nat) (a0_0 : Int) (a0_1 : ByteArray) (a0_2 : ByteArray) (A0_3 : Option Addr) (c0_3 : Nat) (l0_3 : List Int) (A0_4 : Option Addr) (c0_4 : Nat) (l0_4 : List Int) (a1_0 : Int) (a1_1 : ByteArray) (a1_2 : ByteArray) (A1_3 : Option Addr) (c1_3 : Nat) (l1_3 : List Int) (A1_4 : Option Addr) (c1_4 : Nat) (l1_4 : List Int) (r : Bool) (w : World) (hr0_3 : Kd.C (Kd.int .u8) w A0_3 l0_3.length l0_3) (hc0_3 : l0_3.length ≤ c0_3) (hr0_4 : Kd.C (Kd.int .u8) w A0_4 l0_4.length l0_4) (hc0_4 : l0_4.length ≤ c0_4) (hr1_3 : Kd.C (Kd.int .u8) w A1_3 l1_3.length l1_3) (hc1_3 : l1_3.length ≤ c1_3) (hr1_4 : Kd.C (Kd.int .u8) w A1_4 l1_4.length l1_4) (hc1_4 : l1_4.length ≤ c1_4) (h : qzz.f k a0_0 a0_1 a0_2 l0_3 l0_4 a1_0 a1_1 a1_2 l1_3 l1_4 = some r) :
  Calls Try.prog 21 #[.agg #[.int .i64 a0_0,.string a0_1,.string a0_2,.slice A0_3 l0_3.length c0_3,.slice A0_4 l0_4.length c0_4],.agg #[.int .i64 a1_0,.string a1_1,.string a1_2,.slice A1_3 l1_3.length c1_3,.slice A1_4 l1_4.length c1_4]] w fun e w' => e = .returned (.bool r) ∧ Below w.heap.size w w' := by
 have hu27 := Try.underlying27
 have HR0_3 := qq.mk hr0_3
 have HC0_3 := qq.mk hc0_3
 clear hr0_3 hc0_3
 have HR0_4 := qq.mk hr0_4
 have HC0_4 := qq.mk hc0_4
 clear hr0_4 hc0_4
 have HR1_3 := qq.mk hr1_3
 have HC1_3 := qq.mk hc1_3
 clear hr1_3 hc1_3
 have HR1_4 := qq.mk hr1_4
 have HC1_4 := qq.mk hc1_4
 clear hr1_4 hc1_4
 have HB := qq.mk (Below.refl w.heap.size w)
 have H : (if a0_0 = a1_0 then (if a0_1.toList = a1_1.toList then (if a0_2.toList = a1_2.toList then ((qqx.f k l0_3 l1_3).bind fun t103 => (if t103 = true then ((qqx.f k l0_4 l1_4).bind fun t104 => (if t104 = true then (some true) else (some false))) else (some false))) else (some false)) else (some false)) else (some false)) = some r := h
 clear h
 by_cases c3 : a0_0 = a1_0
 ·rw [if_pos c3] at H
  have c3b0 : (a0_0 == a1_0) = true := beq_iff_eq.mpr c3
  have c3b1 : (a0_0 != a1_0) = false := bne_eq_false_iff_eq.mpr c3
  clear c3
  by_cases c4 : a0_1.toList = a1_1.toList
  ·rw [if_pos c4] at H
   have c4b0 : (a0_1.toList == a1_1.toList) = true := beq_iff_eq.mpr c4
   have c4b1 : (a0_1.toList != a1_1.toList) = false := bne_eq_false_iff_eq.mpr c4
   clear c4
   by_cases c5 : a0_2.toList = a1_2.toList
   ·rw [if_pos c5] at H
    have c5b0 : (a0_2.toList == a1_2.toList) = true := beq_iff_eq.mpr c5
    have c5b1 : (a0_2.toList != a1_2.toList) = false := bne_eq_false_iff_eq.mpr c5
    clear c5
    replace H := Option.bind_eq_some_iff.mp H
    obtain ⟨t103,A60,H⟩ := H
    replace H : (if t103 = true then ((qqx.f k l0_4 l1_4).bind fun t104 => (if t104 = true then (some true) else (some false))) else (some false)) = some r := H
    have A6 := qq.mk A60
    clear A60
    by_cases c7 : t103 = true
    ·subst c7
     have H1 : ((qqx.f k l0_4 l1_4).bind fun t104 => (if t104 = true then (some true) else (some false))) = some r := by rw [if_pos rfl] at H;exact H
     clear H
     have H := H1
     clear H1
     replace H := Option.bind_eq_some_iff.mp H
     obtain ⟨t104,A80,H⟩ := H
     replace H : (if t104 = true then (some true) else (some false)) = some r := H
     have A8 := qq.mk A80
     clear A80
     by_cases c9 : t104 = true
     ·subst c9
      have H1 : (some true) = some r := by rw [if_pos rfl] at H;exact H
      clear H
      have H := H1
      clear H1
      obtain rfl := Option.some.inj H
      go_enter Try.func21,Try.ntmps21
      go_wp2_with (first | ((with_reducible refine gate_dst (N := 2) rfl ?_);refine box_event ?hg (N := 2) ?hd (cs := #[.int .i64 a0_0,.string a0_1,.string a0_2,.slice A0_3 l0_3.length c0_3,.slice A0_4 l0_4.length c0_4]) (t := 27) ?hr ?_;(case hd => rfl);(case hg => rfl);(case hr => first | (go_simp;done) | (go_simp;rfl));intro gb101 hg w10 hbox hb;have n0_ := qq.mk (zv (by repeat (first | (with_reducible first | exact HB.out | apply qj | apply qz | apply qk) | exact HB.out)) hb);have n1_ := qq.mk (hbox);have n2_ := qq.mk ((by rw [hg];exact (zw (by repeat (first | (with_reducible first | exact HB.out | apply qj | apply qz | apply qk) | exact HB.out))) : w.heap.size ≤ gb101));have n3_ := qq.mk ((by rw [hg];exact (zw (by repeat (first | (with_reducible first | exact HB.out | apply qj | apply qz | apply qk) | exact HB.out))) : w.heap.size ≤ gb101));clear HB;have HB := n0_;have BK101 := n1_;have GW101 := n2_;have GE101 := n3_;clear n0_ n1_ n2_ n3_;clear hb hbox hg) | ((with_reducible refine gate_dst (N := 3) rfl ?_);refine box_event ?hg (N := 3) ?hd (cs := #[.int .i64 a1_0,.string a1_1,.string a1_2,.slice A1_3 l1_3.length c1_3,.slice A1_4 l1_4.length c1_4]) (t := 27) ?hr ?_;(case hd => rfl);(case hg => rfl);(case hr => first | (go_simp;done) | (go_simp;rfl));intro gb102 hg w11 hbox hb;have n0_ := qq.mk (vw (g := gb101) (o := .cells #[.int .i64 a0_0,.string a0_1,.string a0_2,.slice A0_3 l0_3.length c0_3,.slice A0_4 l0_4.length c0_4] 27 (0,0)) (by (with_reducible repeat (first | refine zz ?_ _ | refine zj ?_ | refine zq ?_ _));exact BK101.out) hb);have n1_ := qq.mk (zv (by repeat (first | (with_reducible first | exact HB.out | apply qj | apply qz | apply qk | refine qx ?_ GE101.out) | exact HB.out)) hb);have n2_ := qq.mk (hbox);have n3_ := qq.mk ((by rw [hg];exact (zw (by repeat (first | (with_reducible first | exact HB.out | apply qj | apply qz | apply qk | refine qx ?_ GE101.out) | exact HB.out))) : w.heap.size ≤ gb102));have n4_ := qq.mk ((by rw [hg];exact (zw (by repeat (first | (with_reducible first | exact HB.out | apply qj | apply qz | apply qk | refine qx ?_ GE101.out) | exact HB.out))) : w.heap.size ≤ gb102));have n5_ := qq.mk ((by rw [hg];exact Nat.ne_of_lt (blk_lt (g := gb101) (o := .cells #[.int .i64 a0_0,.string a0_1,.string a0_2,.slice A0_3 l0_3.length c0_3,.slice A0_4 l0_4.length c0_4] 27 (0,0)) (by (with_reducible repeat (first | refine zz ?_ _ | refine zj ?_ | refine zq ?_ _));exact BK101.out)) : gb101 ≠ gb102));have n6_ := qq.mk ((by rw [hg];exact Nat.ne_of_gt (blk_lt (g := gb101) (o := .cells #[.int .i64 a0_0,.string a0_1,.string a0_2,.slice A0_3 l0_3.length c0_3,.slice A0_4 l0_4.length c0_4] 27 (0,0)) (by (with_reducible repeat (first | refine zz ?_ _ | refine zj ?_ | refine zq ?_ _));exact BK101.out)) : gb102 ≠ gb101));clear BK101;clear HB;have BK101 := n0_;have HB := n1_;have BK102 := n2_;have GW102 := n3_;have GE102 := n4_;have NB101_102 := n5_;have NB102_101 := n6_;clear n0_ n1_ n2_ n3_ n4_ n5_ n6_;clear hb hbox hg;have hnb12 := NB101_102.out;have hnc12 := NB102_101.out;have hcz13_0 : w11.cell? ⟨gb101,0,none⟩ = some (.int .i64 a0_0) := (qw BK101.out 0).trans rfl;have hcz13_1 : w11.cell? ⟨gb101,1,none⟩ = some (.string a0_1) := (qw BK101.out 1).trans rfl;have hcz13_2 : w11.cell? ⟨gb101,2,none⟩ = some (.string a0_2) := (qw BK101.out 2).trans rfl;have hcz13_3 : w11.cell? ⟨gb101,3,none⟩ = some (.slice A0_3 l0_3.length c0_3) := (qw BK101.out 3).trans rfl;have hcz13_4 : w11.cell? ⟨gb101,4,none⟩ = some (.slice A0_4 l0_4.length c0_4) := (qw BK101.out 4).trans rfl;have hfz13_0 := qv BK101.out 0;have hfz13_1 := qv BK101.out 1;have hfz13_2 := qv BK101.out 2;have hfz13_3 := qv BK101.out 3;have hfz13_4 := qv BK101.out 4;have hcz14_0 : w11.cell? ⟨gb102,0,none⟩ = some (.int .i64 a1_0) := (qw BK102.out 0).trans rfl;have hcz14_1 : w11.cell? ⟨gb102,1,none⟩ = some (.string a1_1) := (qw BK102.out 1).trans rfl;have hcz14_2 : w11.cell? ⟨gb102,2,none⟩ = some (.string a1_2) := (qw BK102.out 2).trans rfl;have hcz14_3 : w11.cell? ⟨gb102,3,none⟩ = some (.slice A1_3 l1_3.length c1_3) := (qw BK102.out 3).trans rfl;have hcz14_4 : w11.cell? ⟨gb102,4,none⟩ = some (.slice A1_4 l1_4.length c1_4) := (qw BK102.out 4).trans rfl;have hfz14_0 := qv BK102.out 0;have hfz14_1 := qv BK102.out 1;have hfz14_2 := qv BK102.out 2;have hfz14_3 := qv BK102.out 3;have hfz14_4 := qv BK102.out 4) | ((with_reducible refine jv (f := 24) rfl ?_);refine goesL_ (some 24) rfl rfl Try.func24 (by kernel_rfl) rfl #[.slice A0_3 l0_3.length c0_3,.slice A1_3 l1_3.length c1_3] rfl (by (try simp only [List.map_toArray,List.map_cons,List.map_nil]);first | done | rfl | (simp only [List.length_drop,List.length_take];rfl)) ?_;(with_reducible refine (qqx.calls k _ _ l0_3 _ _ l1_3 true _ ?side1 ?side2 ?side3 ?side4 A6.out).mono ?_);(case side1 => repeat (first | exact (Kd.C_below HR0_3.out HB.out) | (with_reducible refine Kd.C_alloc ?_ _) | (with_reducible refine Kd.C_drewN ?_ _) | (with_reducible refine Kd.C_drew ?_)));(case side2 => exact HC0_3.out);(case side3 => repeat (first | exact (Kd.C_below HR1_3.out HB.out) | (with_reducible refine Kd.C_alloc ?_ _) | (with_reducible refine Kd.C_drewN ?_ _) | (with_reducible refine Kd.C_drew ?_)));(case side4 => exact HC1_3.out);rintro e w' ⟨rfl,⟨nd,rfl⟩⟩;refine ⟨_,rfl,?_⟩) | ((with_reducible refine jv (f := 24) rfl ?_);refine goesL_ (some 30) rfl rfl Try.func24 (by kernel_rfl) rfl #[.slice A0_4 l0_4.length c0_4,.slice A1_4 l1_4.length c1_4] rfl (by (try simp only [List.map_toArray,List.map_cons,List.map_nil]);first | done | rfl | (simp only [List.length_drop,List.length_take];rfl)) ?_;(with_reducible refine (qqx.calls k _ _ l0_4 _ _ l1_4 true _ ?side1 ?side2 ?side3 ?side4 A8.out).mono ?_);(case side1 => repeat (first | exact (Kd.C_below HR0_4.out (by repeat (first | (with_reducible first | exact HB.out | apply qj | apply qz | apply qk | refine qx ?_ GE101.out | refine qx ?_ GE102.out) | exact HB.out))) | (with_reducible refine Kd.C_alloc ?_ _) | (with_reducible refine Kd.C_drewN ?_ _) | (with_reducible refine Kd.C_drew ?_)));(case side2 => exact HC0_4.out);(case side3 => repeat (first | exact (Kd.C_below HR1_4.out (by repeat (first | (with_reducible first | exact HB.out | apply qj | apply qz | apply qk | refine qx ?_ GE101.out | refine qx ?_ GE102.out) | exact HB.out))) | (with_reducible refine Kd.C_alloc ?_ _) | (with_reducible refine Kd.C_drewN ?_ _) | (with_reducible refine Kd.C_drew ?_)));(case side4 => exact HC1_4.out);rintro e w' ⟨rfl,⟨nd,rfl⟩⟩;refine ⟨_,rfl,?_⟩))
      go_ret
      exact ⟨by first | rfl | (simp [*,jk,jj] <;> rfl),by repeat (first | (with_reducible first | exact HB.out | apply qj | apply qz | apply qk | refine qx ?_ GE101.out | refine qx ?_ GE102.out) | exact HB.out)⟩
     ·replace c9 := Bool.eq_false_iff.mpr c9
      subst c9
      have H1 : (some false) = some r := by rw [if_neg (show ¬ (false = true) by decide)] at H;exact H
      clear H
      have H := H1
      clear H1
      obtain rfl := Option.some.inj H
      go_enter Try.func21,Try.ntmps21
      go_wp2_with (first | ((with_reducible refine gate_dst (N := 2) rfl ?_);refine box_event ?hg (N := 2) ?hd (cs := #[.int .i64 a0_0,.string a0_1,.string a0_2,.slice A0_3 l0_3.length c0_3,.slice A0_4 l0_4.length c0_4]) (t := 27) ?hr ?_;(case hd => rfl);(case hg => rfl);(case hr => first | (go_simp;done) | (go_simp;rfl));intro gb101 hg w15 hbox hb;have n0_ := qq.mk (zv (by repeat (first | (with_reducible first | exact HB.out | apply qj | apply qz | apply qk) | exact HB.out)) hb);have n1_ := qq.mk (hbox);have n2_ := qq.mk ((by rw [hg];exact (zw (by repeat (first | (with_reducible first | exact HB.out | apply qj | apply qz | apply qk) | exact HB.out))) : w.heap.size ≤ gb101));have n3_ := qq.mk ((by rw [hg];exact (zw (by repeat (first | (with_reducible first | exact HB.out | apply qj | apply qz | apply qk) | exact HB.out))) : w.heap.size ≤ gb101));clear HB;have HB := n0_;have BK101 := n1_;have GW101 := n2_;have GE101 := n3_;clear n0_ n1_ n2_ n3_;clear hb hbox hg) | ((with_reducible refine gate_dst (N := 3) rfl ?_);refine box_event ?hg (N := 3) ?hd (cs := #[.int .i64 a1_0,.string a1_1,.string a1_2,.slice A1_3 l1_3.length c1_3,.slice A1_4 l1_4.length c1_4]) (t := 27) ?hr ?_;(case hd => rfl);(case hg => rfl);(case hr => first | (go_simp;done) | (go_simp;rfl));intro gb102 hg w16 hbox hb;have n0_ := qq.mk (vw (g := gb101) (o := .cells #[.int .i64 a0_0,.string a0_1,.string a0_2,.slice A0_3 l0_3.length c0_3,.slice A0_4 l0_4.length c0_4] 27 (0,0)) (by (with_reducible repeat (first | refine zz ?_ _ | refine zj ?_ | refine zq ?_ _));exact BK101.out) hb);have n1_ := qq.mk (zv (by repeat (first | (with_reducible first | exact HB.out | apply qj | apply qz | apply qk | refine qx ?_ GE101.out) | exact HB.out)) hb);have n2_ := qq.mk (hbox);have n3_ := qq.mk ((by rw [hg];exact (zw (by repeat (first | (with_reducible first | exact HB.out | apply qj | apply qz | apply qk | refine qx ?_ GE101.out) | exact HB.out))) : w.heap.size ≤ gb102));have n4_ := qq.mk ((by rw [hg];exact (zw (by repeat (first | (with_reducible first | exact HB.out | apply qj | apply qz | apply qk | refine qx ?_ GE101.out) | exact HB.out))) : w.heap.size ≤ gb102));have n5_ := qq.mk ((by rw [hg];exact Nat.ne_of_lt (blk_lt (g := gb101) (o := .cells #[.int .i64 a0_0,.string a0_1,.string a0_2,.slice A0_3 l0_3.length c0_3,.slice A0_4 l0_4.length c0_4] 27 (0,0)) (by (with_reducible repeat (first | refine zz ?_ _ | refine zj ?_ | refine zq ?_ _));exact BK101.out)) : gb101 ≠ gb102));have n6_ := qq.mk ((by rw [hg];exact Nat.ne_of_gt (blk_lt (g := gb101) (o := .cells #[.int .i64 a0_0,.string a0_1,.string a0_2,.slice A0_3 l0_3.length c0_3,.slice A0_4 l0_4.length c0_4] 27 (0,0)) (by (with_reducible repeat (first | refine zz ?_ _ | refine zj ?_ | refine zq ?_ _));exact BK101.out)) : gb102 ≠ gb101));clear BK101;clear HB;have BK101 := n0_;have HB := n1_;have BK102 := n2_;have GW102 := n3_;have GE102 := n4_;have NB101_102 := n5_;have NB102_101 := n6_;clear n0_ n1_ n2_ n3_ n4_ n5_ n6_;clear hb hbox hg;have hnb17 := NB101_102.out;have hnc17 := NB102_101.out;have hcz18_0 : w16.cell? ⟨gb101,0,none⟩ = some (.int .i64 a0_0) := (qw BK101.out 0).trans rfl;have hcz18_1 : w16.cell? ⟨gb101,1,none⟩ = some (.string a0_1) := (qw BK101.out 1).trans rfl;have hcz18_2 : w16.cell? ⟨gb101,2,none⟩ = some (.string a0_2) := (qw BK101.out 2).trans rfl;have hcz18_3 : w16.cell? ⟨gb101,3,none⟩ = some (.slice A0_3 l0_3.length c0_3) := (qw BK101.out 3).trans rfl;have hcz18_4 : w16.cell? ⟨gb101,4,none⟩ = some (.slice A0_4 l0_4.length c0_4) := (qw BK101.out 4).trans rfl;have hfz18_0 := qv BK101.out 0;have hfz18_1 := qv BK101.out 1;have hfz18_2 := qv BK101.out 2;have hfz18_3 := qv BK101.out 3;have hfz18_4 := qv BK101.out 4;have hcz19_0 : w16.cell? ⟨gb102,0,none⟩ = some (.int .i64 a1_0) := (qw BK102.out 0).trans rfl;have hcz19_1 : w16.cell? ⟨gb102,1,none⟩ = some (.string a1_1) := (qw BK102.out 1).trans rfl;have hcz19_2 : w16.cell? ⟨gb102,2,none⟩ = some (.string a1_2) := (qw BK102.out 2).trans rfl;have hcz19_3 : w16.cell? ⟨gb102,3,none⟩ = some (.slice A1_3 l1_3.length c1_3) := (qw BK102.out 3).trans rfl;have hcz19_4 : w16.cell? ⟨gb102,4,none⟩ = some (.slice A1_4 l1_4.length c1_4) := (qw BK102.out 4).trans rfl;have hfz19_0 := qv BK102.out 0;have hfz19_1 := qv BK102.out 1;have hfz19_2 := qv BK102.out 2;have hfz19_3 := qv BK102.out 3;have hfz19_4 := qv BK102.out 4) | ((with_reducible refine jv (f := 24) rfl ?_);refine goesL_ (some 24) rfl rfl Try.func24 (by kernel_rfl) rfl #[.slice A0_3 l0_3.length c0_3,.slice A1_3 l1_3.length c1_3] rfl (by (try simp only [List.map_toArray,List.map_cons,List.map_nil]);first | done | rfl | (simp only [List.length_drop,List.length_take];rfl)) ?_;(with_reducible refine (qqx.calls k _ _ l0_3 _ _ l1_3 true _ ?side1 ?side2 ?side3 ?side4 A6.out).mono ?_);(case side1 => repeat (first | exact (Kd.C_below HR0_3.out HB.out) | (with_reducible refine Kd.C_alloc ?_ _) | (with_reducible refine Kd.C_drewN ?_ _) | (with_reducible refine Kd.C_drew ?_)));(case side2 => exact HC0_3.out);(case side3 => repeat (first | exact (Kd.C_below HR1_3.out HB.out) | (with_reducible refine Kd.C_alloc ?_ _) | (with_reducible refine Kd.C_drewN ?_ _) | (with_reducible refine Kd.C_drew ?_)));(case side4 => exact HC1_3.out);rintro e w' ⟨rfl,⟨nd,rfl⟩⟩;refine ⟨_,rfl,?_⟩) | ((with_reducible refine jv (f := 24) rfl ?_);refine goesL_ (some 30) rfl rfl Try.func24 (by kernel_rfl) rfl #[.slice A0_4 l0_4.length c0_4,.slice A1_4 l1_4.length c1_4] rfl (by (try simp only [List.map_toArray,List.map_cons,List.map_nil]);first | done | rfl | (simp only [List.length_drop,List.length_take];rfl)) ?_;(with_reducible refine (qqx.calls k _ _ l0_4 _ _ l1_4 false _ ?side1 ?side2 ?side3 ?side4 A8.out).mono ?_);(case side1 => repeat (first | exact (Kd.C_below HR0_4.out (by repeat (first | (with_reducible first | exact HB.out | apply qj | apply qz | apply qk | refine qx ?_ GE101.out | refine qx ?_ GE102.out) | exact HB.out))) | (with_reducible refine Kd.C_alloc ?_ _) | (with_reducible refine Kd.C_drewN ?_ _) | (with_reducible refine Kd.C_drew ?_)));(case side2 => exact HC0_4.out);(case side3 => repeat (first | exact (Kd.C_below HR1_4.out (by repeat (first | (with_reducible first | exact HB.out | apply qj | apply qz | apply qk | refine qx ?_ GE101.out | refine qx ?_ GE102.out) | exact HB.out))) | (with_reducible refine Kd.C_alloc ?_ _) | (with_reducible refine Kd.C_drewN ?_ _) | (with_reducible refine Kd.C_drew ?_)));(case side4 => exact HC1_4.out);rintro e w' ⟨rfl,⟨nd,rfl⟩⟩;refine ⟨_,rfl,?_⟩))
      go_ret
      exact ⟨by first | rfl | (simp [*,jk,jj] <;> rfl),by repeat (first | (with_reducible first | exact HB.out | apply qj | apply qz | apply qk | refine qx ?_ GE101.out | refine qx ?_ GE102.out) | exact HB.out)⟩
    ·replace c7 := Bool.eq_false_iff.mpr c7
     subst c7
     have H1 : (some false) = some r := by rw [if_neg (show ¬ (false = true) by decide)] at H;exact H
     clear H
     have H := H1
     clear H1
     obtain rfl := Option.some.inj H
     go_enter Try.func21,Try.ntmps21
     go_wp2_with (first | ((with_reducible refine gate_dst (N := 2) rfl ?_);refine box_event ?hg (N := 2) ?hd (cs := #[.int .i64 a0_0,.string a0_1,.string a0_2,.slice A0_3 l0_3.length c0_3,.slice A0_4 l0_4.length c0_4]) (t := 27) ?hr ?_;(case hd => rfl);(case hg => rfl);(case hr => first | (go_simp;done) | (go_simp;rfl));intro gb101 hg w20 hbox hb;have n0_ := qq.mk (zv (by repeat (first | (with_reducible first | exact HB.out | apply qj | apply qz | apply qk) | exact HB.out)) hb);have n1_ := qq.mk (hbox);have n2_ := qq.mk ((by rw [hg];exact (zw (by repeat (first | (with_reducible first | exact HB.out | apply qj | apply qz | apply qk) | exact HB.out))) : w.heap.size ≤ gb101));have n3_ := qq.mk ((by rw [hg];exact (zw (by repeat (first | (with_reducible first | exact HB.out | apply qj | apply qz | apply qk) | exact HB.out))) : w.heap.size ≤ gb101));clear HB;have HB := n0_;have BK101 := n1_;have GW101 := n2_;have GE101 := n3_;clear n0_ n1_ n2_ n3_;clear hb hbox hg) | ((with_reducible refine gate_dst (N := 3) rfl ?_);refine box_event ?hg (N := 3) ?hd (cs := #[.int .i64 a1_0,.string a1_1,.string a1_2,.slice A1_3 l1_3.length c1_3,.slice A1_4 l1_4.length c1_4]) (t := 27) ?hr ?_;(case hd => rfl);(case hg => rfl);(case hr => first | (go_simp;done) | (go_simp;rfl));intro gb102 hg w21 hbox hb;have n0_ := qq.mk (vw (g := gb101) (o := .cells #[.int .i64 a0_0,.string a0_1,.string a0_2,.slice A0_3 l0_3.length c0_3,.slice A0_4 l0_4.length c0_4] 27 (0,0)) (by (with_reducible repeat (first | refine zz ?_ _ | refine zj ?_ | refine zq ?_ _));exact BK101.out) hb);have n1_ := qq.mk (zv (by repeat (first | (with_reducible first | exact HB.out | apply qj | apply qz | apply qk | refine qx ?_ GE101.out) | exact HB.out)) hb);have n2_ := qq.mk (hbox);have n3_ := qq.mk ((by rw [hg];exact (zw (by repeat (first | (with_reducible first | exact HB.out | apply qj | apply qz | apply qk | refine qx ?_ GE101.out) | exact HB.out))) : w.heap.size ≤ gb102));have n4_ := qq.mk ((by rw [hg];exact (zw (by repeat (first | (with_reducible first | exact HB.out | apply qj | apply qz | apply qk | refine qx ?_ GE101.out) | exact HB.out))) : w.heap.size ≤ gb102));have n5_ := qq.mk ((by rw [hg];exact Nat.ne_of_lt (blk_lt (g := gb101) (o := .cells #[.int .i64 a0_0,.string a0_1,.string a0_2,.slice A0_3 l0_3.length c0_3,.slice A0_4 l0_4.length c0_4] 27 (0,0)) (by (with_reducible repeat (first | refine zz ?_ _ | refine zj ?_ | refine zq ?_ _));exact BK101.out)) : gb101 ≠ gb102));have n6_ := qq.mk ((by rw [hg];exact Nat.ne_of_gt (blk_lt (g := gb101) (o := .cells #[.int .i64 a0_0,.string a0_1,.string a0_2,.slice A0_3 l0_3.length c0_3,.slice A0_4 l0_4.length c0_4] 27 (0,0)) (by (with_reducible repeat (first | refine zz ?_ _ | refine zj ?_ | refine zq ?_ _));exact BK101.out)) : gb102 ≠ gb101));clear BK101;clear HB;have BK101 := n0_;have HB := n1_;have BK102 := n2_;have GW102 := n3_;have GE102 := n4_;have NB101_102 := n5_;have NB102_101 := n6_;clear n0_ n1_ n2_ n3_ n4_ n5_ n6_;clear hb hbox hg;have hnb22 := NB101_102.out;have hnc22 := NB102_101.out;have hcz23_0 : w21.cell? ⟨gb101,0,none⟩ = some (.int .i64 a0_0) := (qw BK101.out 0).trans rfl;have hcz23_1 : w21.cell? ⟨gb101,1,none⟩ = some (.string a0_1) := (qw BK101.out 1).trans rfl;have hcz23_2 : w21.cell? ⟨gb101,2,none⟩ = some (.string a0_2) := (qw BK101.out 2).trans rfl;have hcz23_3 : w21.cell? ⟨gb101,3,none⟩ = some (.slice A0_3 l0_3.length c0_3) := (qw BK101.out 3).trans rfl;have hcz23_4 : w21.cell? ⟨gb101,4,none⟩ = some (.slice A0_4 l0_4.length c0_4) := (qw BK101.out 4).trans rfl;have hfz23_0 := qv BK101.out 0;have hfz23_1 := qv BK101.out 1;have hfz23_2 := qv BK101.out 2;have hfz23_3 := qv BK101.out 3;have hfz23_4 := qv BK101.out 4;have hcz24_0 : w21.cell? ⟨gb102,0,none⟩ = some (.int .i64 a1_0) := (qw BK102.out 0).trans rfl;have hcz24_1 : w21.cell? ⟨gb102,1,none⟩ = some (.string a1_1) := (qw BK102.out 1).trans rfl;have hcz24_2 : w21.cell? ⟨gb102,2,none⟩ = some (.string a1_2) := (qw BK102.out 2).trans rfl;have hcz24_3 : w21.cell? ⟨gb102,3,none⟩ = some (.slice A1_3 l1_3.length c1_3) := (qw BK102.out 3).trans rfl;have hcz24_4 : w21.cell? ⟨gb102,4,none⟩ = some (.slice A1_4 l1_4.length c1_4) := (qw BK102.out 4).trans rfl;have hfz24_0 := qv BK102.out 0;have hfz24_1 := qv BK102.out 1;have hfz24_2 := qv BK102.out 2;have hfz24_3 := qv BK102.out 3;have hfz24_4 := qv BK102.out 4) | ((with_reducible refine jv (f := 24) rfl ?_);refine goesL_ (some 24) rfl rfl Try.func24 (by kernel_rfl) rfl #[.slice A0_3 l0_3.length c0_3,.slice A1_3 l1_3.length c1_3] rfl (by (try simp only [List.map_toArray,List.map_cons,List.map_nil]);first | done | rfl | (simp only [List.length_drop,List.length_take];rfl)) ?_;(with_reducible refine (qqx.calls k _ _ l0_3 _ _ l1_3 false _ ?side1 ?side2 ?side3 ?side4 A6.out).mono ?_);(case side1 => repeat (first | exact (Kd.C_below HR0_3.out HB.out) | (with_reducible refine Kd.C_alloc ?_ _) | (with_reducible refine Kd.C_drewN ?_ _) | (with_reducible refine Kd.C_drew ?_)));(case side2 => exact HC0_3.out);(case side3 => repeat (first | exact (Kd.C_below HR1_3.out HB.out) | (with_reducible refine Kd.C_alloc ?_ _) | (with_reducible refine Kd.C_drewN ?_ _) | (with_reducible refine Kd.C_drew ?_)));(case side4 => exact HC1_3.out);rintro e w' ⟨rfl,⟨nd,rfl⟩⟩;refine ⟨_,rfl,?_⟩))
     go_ret
     exact ⟨by first | rfl | (simp [*,jk,jj] <;> rfl),by repeat (first | (with_reducible first | exact HB.out | apply qj | apply qz | apply qk | refine qx ?_ GE101.out | refine qx ?_ GE102.out) | exact HB.out)⟩
   ·rw [if_neg c5] at H
    have c5b0 : (a0_2.toList == a1_2.toList) = false := beq_eq_false_iff_ne.mpr c5
    have c5b1 : (a0_2.toList != a1_2.toList) = true := bne_iff_ne.mpr c5
    obtain rfl := Option.some.inj H
    go_enter Try.func21,Try.ntmps21
    go_wp2_with (first | ((with_reducible refine gate_dst (N := 2) rfl ?_);refine box_event ?hg (N := 2) ?hd (cs := #[.int .i64 a0_0,.string a0_1,.string a0_2,.slice A0_3 l0_3.length c0_3,.slice A0_4 l0_4.length c0_4]) (t := 27) ?hr ?_;(case hd => rfl);(case hg => rfl);(case hr => first | (go_simp;done) | (go_simp;rfl));intro gb101 hg w25 hbox hb;have n0_ := qq.mk (zv (by repeat (first | (with_reducible first | exact HB.out | apply qj | apply qz | apply qk) | exact HB.out)) hb);have n1_ := qq.mk (hbox);have n2_ := qq.mk ((by rw [hg];exact (zw (by repeat (first | (with_reducible first | exact HB.out | apply qj | apply qz | apply qk) | exact HB.out))) : w.heap.size ≤ gb101));have n3_ := qq.mk ((by rw [hg];exact (zw (by repeat (first | (with_reducible first | exact HB.out | apply qj | apply qz | apply qk) | exact HB.out))) : w.heap.size ≤ gb101));clear HB;have HB := n0_;have BK101 := n1_;have GW101 := n2_;have GE101 := n3_;clear n0_ n1_ n2_ n3_;clear hb hbox hg) | ((with_reducible refine gate_dst (N := 3) rfl ?_);refine box_event ?hg (N := 3) ?hd (cs := #[.int .i64 a1_0,.string a1_1,.string a1_2,.slice A1_3 l1_3.length c1_3,.slice A1_4 l1_4.length c1_4]) (t := 27) ?hr ?_;(case hd => rfl);(case hg => rfl);(case hr => first | (go_simp;done) | (go_simp;rfl));intro gb102 hg w26 hbox hb;have n0_ := qq.mk (vw (g := gb101) (o := .cells #[.int .i64 a0_0,.string a0_1,.string a0_2,.slice A0_3 l0_3.length c0_3,.slice A0_4 l0_4.length c0_4] 27 (0,0)) (by (with_reducible repeat (first | refine zz ?_ _ | refine zj ?_ | refine zq ?_ _));exact BK101.out) hb);have n1_ := qq.mk (zv (by repeat (first | (with_reducible first | exact HB.out | apply qj | apply qz | apply qk | refine qx ?_ GE101.out) | exact HB.out)) hb);have n2_ := qq.mk (hbox);have n3_ := qq.mk ((by rw [hg];exact (zw (by repeat (first | (with_reducible first | exact HB.out | apply qj | apply qz | apply qk | refine qx ?_ GE101.out) | exact HB.out))) : w.heap.size ≤ gb102));have n4_ := qq.mk ((by rw [hg];exact (zw (by repeat (first | (with_reducible first | exact HB.out | apply qj | apply qz | apply qk | refine qx ?_ GE101.out) | exact HB.out))) : w.heap.size ≤ gb102));have n5_ := qq.mk ((by rw [hg];exact Nat.ne_of_lt (blk_lt (g := gb101) (o := .cells #[.int .i64 a0_0,.string a0_1,.string a0_2,.slice A0_3 l0_3.length c0_3,.slice A0_4 l0_4.length c0_4] 27 (0,0)) (by (with_reducible repeat (first | refine zz ?_ _ | refine zj ?_ | refine zq ?_ _));exact BK101.out)) : gb101 ≠ gb102));have n6_ := qq.mk ((by rw [hg];exact Nat.ne_of_gt (blk_lt (g := gb101) (o := .cells #[.int .i64 a0_0,.string a0_1,.string a0_2,.slice A0_3 l0_3.length c0_3,.slice A0_4 l0_4.length c0_4] 27 (0,0)) (by (with_reducible repeat (first | refine zz ?_ _ | refine zj ?_ | refine zq ?_ _));exact BK101.out)) : gb102 ≠ gb101));clear BK101;clear HB;have BK101 := n0_;have HB := n1_;have BK102 := n2_;have GW102 := n3_;have GE102 := n4_;have NB101_102 := n5_;have NB102_101 := n6_;clear n0_ n1_ n2_ n3_ n4_ n5_ n6_;clear hb hbox hg;have hnb27 := NB101_102.out;have hnc27 := NB102_101.out;have hcz28_0 : w26.cell? ⟨gb101,0,none⟩ = some (.int .i64 a0_0) := (qw BK101.out 0).trans rfl;have hcz28_1 : w26.cell? ⟨gb101,1,none⟩ = some (.string a0_1) := (qw BK101.out 1).trans rfl;have hcz28_2 : w26.cell? ⟨gb101,2,none⟩ = some (.string a0_2) := (qw BK101.out 2).trans rfl;have hcz28_3 : w26.cell? ⟨gb101,3,none⟩ = some (.slice A0_3 l0_3.length c0_3) := (qw BK101.out 3).trans rfl;have hcz28_4 : w26.cell? ⟨gb101,4,none⟩ = some (.slice A0_4 l0_4.length c0_4) := (qw BK101.out 4).trans rfl;have hfz28_0 := qv BK101.out 0;have hfz28_1 := qv BK101.out 1;have hfz28_2 := qv BK101.out 2;have hfz28_3 := qv BK101.out 3;have hfz28_4 := qv BK101.out 4;have hcz29_0 : w26.cell? ⟨gb102,0,none⟩ = some (.int .i64 a1_0) := (qw BK102.out 0).trans rfl;have hcz29_1 : w26.cell? ⟨gb102,1,none⟩ = some (.string a1_1) := (qw BK102.out 1).trans rfl;have hcz29_2 : w26.cell? ⟨gb102,2,none⟩ = some (.string a1_2) := (qw BK102.out 2).trans rfl;have hcz29_3 : w26.cell? ⟨gb102,3,none⟩ = some (.slice A1_3 l1_3.length c1_3) := (qw BK102.out 3).trans rfl;have hcz29_4 : w26.cell? ⟨gb102,4,none⟩ = some (.slice A1_4 l1_4.length c1_4) := (qw BK102.out 4).trans rfl;have hfz29_0 := qv BK102.out 0;have hfz29_1 := qv BK102.out 1;have hfz29_2 := qv BK102.out 2;have hfz29_3 := qv BK102.out 3;have hfz29_4 := qv BK102.out 4))
    go_ret
    exact ⟨by first | rfl | (simp [*,jk,jj] <;> rfl),by repeat (first | (with_reducible first | exact HB.out | apply qj | apply qz | apply qk | refine qx ?_ GE101.out | refine qx ?_ GE102.out) | exact HB.out)⟩
  ·rw [if_neg c4] at H
   have c4b0 : (a0_1.toList == a1_1.toList) = false := beq_eq_false_iff_ne.mpr c4
   have c4b1 : (a0_1.toList != a1_1.toList) = true := bne_iff_ne.mpr c4
   obtain rfl := Option.some.inj H
   go_enter Try.func21,Try.ntmps21
   go_wp2_with (first | ((with_reducible refine gate_dst (N := 2) rfl ?_);refine box_event ?hg (N := 2) ?hd (cs := #[.int .i64 a0_0,.string a0_1,.string a0_2,.slice A0_3 l0_3.length c0_3,.slice A0_4 l0_4.length c0_4]) (t := 27) ?hr ?_;(case hd => rfl);(case hg => rfl);(case hr => first | (go_simp;done) | (go_simp;rfl));intro gb101 hg w30 hbox hb;have n0_ := qq.mk (zv (by repeat (first | (with_reducible first | exact HB.out | apply qj | apply qz | apply qk) | exact HB.out)) hb);have n1_ := qq.mk (hbox);have n2_ := qq.mk ((by rw [hg];exact (zw (by repeat (first | (with_reducible first | exact HB.out | apply qj | apply qz | apply qk) | exact HB.out))) : w.heap.size ≤ gb101));have n3_ := qq.mk ((by rw [hg];exact (zw (by repeat (first | (with_reducible first | exact HB.out | apply qj | apply qz | apply qk) | exact HB.out))) : w.heap.size ≤ gb101));clear HB;have HB := n0_;have BK101 := n1_;have GW101 := n2_;have GE101 := n3_;clear n0_ n1_ n2_ n3_;clear hb hbox hg) | ((with_reducible refine gate_dst (N := 3) rfl ?_);refine box_event ?hg (N := 3) ?hd (cs := #[.int .i64 a1_0,.string a1_1,.string a1_2,.slice A1_3 l1_3.length c1_3,.slice A1_4 l1_4.length c1_4]) (t := 27) ?hr ?_;(case hd => rfl);(case hg => rfl);(case hr => first | (go_simp;done) | (go_simp;rfl));intro gb102 hg w31 hbox hb;have n0_ := qq.mk (vw (g := gb101) (o := .cells #[.int .i64 a0_0,.string a0_1,.string a0_2,.slice A0_3 l0_3.length c0_3,.slice A0_4 l0_4.length c0_4] 27 (0,0)) (by (with_reducible repeat (first | refine zz ?_ _ | refine zj ?_ | refine zq ?_ _));exact BK101.out) hb);have n1_ := qq.mk (zv (by repeat (first | (with_reducible first | exact HB.out | apply qj | apply qz | apply qk | refine qx ?_ GE101.out) | exact HB.out)) hb);have n2_ := qq.mk (hbox);have n3_ := qq.mk ((by rw [hg];exact (zw (by repeat (first | (with_reducible first | exact HB.out | apply qj | apply qz | apply qk | refine qx ?_ GE101.out) | exact HB.out))) : w.heap.size ≤ gb102));have n4_ := qq.mk ((by rw [hg];exact (zw (by repeat (first | (with_reducible first | exact HB.out | apply qj | apply qz | apply qk | refine qx ?_ GE101.out) | exact HB.out))) : w.heap.size ≤ gb102));have n5_ := qq.mk ((by rw [hg];exact Nat.ne_of_lt (blk_lt (g := gb101) (o := .cells #[.int .i64 a0_0,.string a0_1,.string a0_2,.slice A0_3 l0_3.length c0_3,.slice A0_4 l0_4.length c0_4] 27 (0,0)) (by (with_reducible repeat (first | refine zz ?_ _ | refine zj ?_ | refine zq ?_ _));exact BK101.out)) : gb101 ≠ gb102));have n6_ := qq.mk ((by rw [hg];exact Nat.ne_of_gt (blk_lt (g := gb101) (o := .cells #[.int .i64 a0_0,.string a0_1,.string a0_2,.slice A0_3 l0_3.length c0_3,.slice A0_4 l0_4.length c0_4] 27 (0,0)) (by (with_reducible repeat (first | refine zz ?_ _ | refine zj ?_ | refine zq ?_ _));exact BK101.out)) : gb102 ≠ gb101));clear BK101;clear HB;have BK101 := n0_;have HB := n1_;have BK102 := n2_;have GW102 := n3_;have GE102 := n4_;have NB101_102 := n5_;have NB102_101 := n6_;clear n0_ n1_ n2_ n3_ n4_ n5_ n6_;clear hb hbox hg;have hnb32 := NB101_102.out;have hnc32 := NB102_101.out;have hcz33_0 : w31.cell? ⟨gb101,0,none⟩ = some (.int .i64 a0_0) := (qw BK101.out 0).trans rfl;have hcz33_1 : w31.cell? ⟨gb101,1,none⟩ = some (.string a0_1) := (qw BK101.out 1).trans rfl;have hcz33_2 : w31.cell? ⟨gb101,2,none⟩ = some (.string a0_2) := (qw BK101.out 2).trans rfl;have hcz33_3 : w31.cell? ⟨gb101,3,none⟩ = some (.slice A0_3 l0_3.length c0_3) := (qw BK101.out 3).trans rfl;have hcz33_4 : w31.cell? ⟨gb101,4,none⟩ = some (.slice A0_4 l0_4.length c0_4) := (qw BK101.out 4).trans rfl;have hfz33_0 := qv BK101.out 0;have hfz33_1 := qv BK101.out 1;have hfz33_2 := qv BK101.out 2;have hfz33_3 := qv BK101.out 3;have hfz33_4 := qv BK101.out 4;have hcz34_0 : w31.cell? ⟨gb102,0,none⟩ = some (.int .i64 a1_0) := (qw BK102.out 0).trans rfl;have hcz34_1 : w31.cell? ⟨gb102,1,none⟩ = some (.string a1_1) := (qw BK102.out 1).trans rfl;have hcz34_2 : w31.cell? ⟨gb102,2,none⟩ = some (.string a1_2) := (qw BK102.out 2).trans rfl;have hcz34_3 : w31.cell? ⟨gb102,3,none⟩ = some (.slice A1_3 l1_3.length c1_3) := (qw BK102.out 3).trans rfl;have hcz34_4 : w31.cell? ⟨gb102,4,none⟩ = some (.slice A1_4 l1_4.length c1_4) := (qw BK102.out 4).trans rfl;have hfz34_0 := qv BK102.out 0;have hfz34_1 := qv BK102.out 1;have hfz34_2 := qv BK102.out 2;have hfz34_3 := qv BK102.out 3;have hfz34_4 := qv BK102.out 4))
   go_ret
   exact ⟨by first | rfl | (simp [*,jk,jj] <;> rfl),by repeat (first | (with_reducible first | exact HB.out | apply qj | apply qz | apply qk | refine qx ?_ GE101.out | refine qx ?_ GE102.out) | exact HB.out)⟩
 ·rw [if_neg c3] at H
  have c3b0 : (a0_0 == a1_0) = false := beq_eq_false_iff_ne.mpr c3
  have c3b1 : (a0_0 != a1_0) = true := bne_iff_ne.mpr c3
  obtain rfl := Option.some.inj H
  go_enter Try.func21,Try.ntmps21
  go_wp2_with (first | ((with_reducible refine gate_dst (N := 2) rfl ?_);refine box_event ?hg (N := 2) ?hd (cs := #[.int .i64 a0_0,.string a0_1,.string a0_2,.slice A0_3 l0_3.length c0_3,.slice A0_4 l0_4.length c0_4]) (t := 27) ?hr ?_;(case hd => rfl);(case hg => rfl);(case hr => first | (go_simp;done) | (go_simp;rfl));intro gb101 hg w35 hbox hb;have n0_ := qq.mk (zv (by repeat (first | (with_reducible first | exact HB.out | apply qj | apply qz | apply qk) | exact HB.out)) hb);have n1_ := qq.mk (hbox);have n2_ := qq.mk ((by rw [hg];exact (zw (by repeat (first | (with_reducible first | exact HB.out | apply qj | apply qz | apply qk) | exact HB.out))) : w.heap.size ≤ gb101));have n3_ := qq.mk ((by rw [hg];exact (zw (by repeat (first | (with_reducible first | exact HB.out | apply qj | apply qz | apply qk) | exact HB.out))) : w.heap.size ≤ gb101));clear HB;have HB := n0_;have BK101 := n1_;have GW101 := n2_;have GE101 := n3_;clear n0_ n1_ n2_ n3_;clear hb hbox hg) | ((with_reducible refine gate_dst (N := 3) rfl ?_);refine box_event ?hg (N := 3) ?hd (cs := #[.int .i64 a1_0,.string a1_1,.string a1_2,.slice A1_3 l1_3.length c1_3,.slice A1_4 l1_4.length c1_4]) (t := 27) ?hr ?_;(case hd => rfl);(case hg => rfl);(case hr => first | (go_simp;done) | (go_simp;rfl));intro gb102 hg w36 hbox hb;have n0_ := qq.mk (vw (g := gb101) (o := .cells #[.int .i64 a0_0,.string a0_1,.string a0_2,.slice A0_3 l0_3.length c0_3,.slice A0_4 l0_4.length c0_4] 27 (0,0)) (by (with_reducible repeat (first | refine zz ?_ _ | refine zj ?_ | refine zq ?_ _));exact BK101.out) hb);have n1_ := qq.mk (zv (by repeat (first | (with_reducible first | exact HB.out | apply qj | apply qz | apply qk | refine qx ?_ GE101.out) | exact HB.out)) hb);have n2_ := qq.mk (hbox);have n3_ := qq.mk ((by rw [hg];exact (zw (by repeat (first | (with_reducible first | exact HB.out | apply qj | apply qz | apply qk | refine qx ?_ GE101.out) | exact HB.out))) : w.heap.size ≤ gb102));have n4_ := qq.mk ((by rw [hg];exact (zw (by repeat (first | (with_reducible first | exact HB.out | apply qj | apply qz | apply qk | refine qx ?_ GE101.out) | exact HB.out))) : w.heap.size ≤ gb102));have n5_ := qq.mk ((by rw [hg];exact Nat.ne_of_lt (blk_lt (g := gb101) (o := .cells #[.int .i64 a0_0,.string a0_1,.string a0_2,.slice A0_3 l0_3.length c0_3,.slice A0_4 l0_4.length c0_4] 27 (0,0)) (by (with_reducible repeat (first | refine zz ?_ _ | refine zj ?_ | refine zq ?_ _));exact BK101.out)) : gb101 ≠ gb102));have n6_ := qq.mk ((by rw [hg];exact Nat.ne_of_gt (blk_lt (g := gb101) (o := .cells #[.int .i64 a0_0,.string a0_1,.string a0_2,.slice A0_3 l0_3.length c0_3,.slice A0_4 l0_4.length c0_4] 27 (0,0)) (by (with_reducible repeat (first | refine zz ?_ _ | refine zj ?_ | refine zq ?_ _));exact BK101.out)) : gb102 ≠ gb101));clear BK101;clear HB;have BK101 := n0_;have HB := n1_;have BK102 := n2_;have GW102 := n3_;have GE102 := n4_;have NB101_102 := n5_;have NB102_101 := n6_;clear n0_ n1_ n2_ n3_ n4_ n5_ n6_;clear hb hbox hg;have hnb37 := NB101_102.out;have hnc37 := NB102_101.out;have hcz38_0 : w36.cell? ⟨gb101,0,none⟩ = some (.int .i64 a0_0) := (qw BK101.out 0).trans rfl;have hcz38_1 : w36.cell? ⟨gb101,1,none⟩ = some (.string a0_1) := (qw BK101.out 1).trans rfl;have hcz38_2 : w36.cell? ⟨gb101,2,none⟩ = some (.string a0_2) := (qw BK101.out 2).trans rfl;have hcz38_3 : w36.cell? ⟨gb101,3,none⟩ = some (.slice A0_3 l0_3.length c0_3) := (qw BK101.out 3).trans rfl;have hcz38_4 : w36.cell? ⟨gb101,4,none⟩ = some (.slice A0_4 l0_4.length c0_4) := (qw BK101.out 4).trans rfl;have hfz38_0 := qv BK101.out 0;have hfz38_1 := qv BK101.out 1;have hfz38_2 := qv BK101.out 2;have hfz38_3 := qv BK101.out 3;have hfz38_4 := qv BK101.out 4;have hcz39_0 : w36.cell? ⟨gb102,0,none⟩ = some (.int .i64 a1_0) := (qw BK102.out 0).trans rfl;have hcz39_1 : w36.cell? ⟨gb102,1,none⟩ = some (.string a1_1) := (qw BK102.out 1).trans rfl;have hcz39_2 : w36.cell? ⟨gb102,2,none⟩ = some (.string a1_2) := (qw BK102.out 2).trans rfl;have hcz39_3 : w36.cell? ⟨gb102,3,none⟩ = some (.slice A1_3 l1_3.length c1_3) := (qw BK102.out 3).trans rfl;have hcz39_4 : w36.cell? ⟨gb102,4,none⟩ = some (.slice A1_4 l1_4.length c1_4) := (qw BK102.out 4).trans rfl;have hfz39_0 := qv BK102.out 0;have hfz39_1 := qv BK102.out 1;have hfz39_2 := qv BK102.out 2;have hfz39_3 := qv BK102.out 3;have hfz39_4 := qv BK102.out 4))
  go_ret
  exact ⟨by first | rfl | (simp [*,jk,jj] <;> rfl),by repeat (first | (with_reducible first | exact HB.out | apply qj | apply qz | apply qk | refine qx ?_ GE101.out | refine qx ?_ GE102.out) | exact HB.out)⟩
end Go.Proofs.Ytipdkendfcopiaa.Pr
