/- The law FnExactBridgeOf: whatever the input, the call returns true and the arguments read as before. No conditions. -/
import Derived.Test.YtipdkendfcopiaaFullFnExactBridgeOfD
import Derived.WalkSpells
import Derived.Test.YtipdkendfcopiaaRows
import Derived.WalkKit
import Derived.ProofKit
import Derived.OpenShut
import Derived.ShutString
import Derived.ChangeOld
import Derived.Below
namespace Go.Proofs.Ytipdkendfcopiaa.Pr
open Go.RowKit Go.Proofs.YtipdkendfcopiaaW.PrintWords Go.Proofs.YtipdkendfcopiaaW.PrintLast Go.Proofs.YtipdkendfcopiaaW.PrintMore
attribute [local go_sem] max2_int min2_int max_two min_two max_three min_three max_four min_four
set_option linter.unusedVariables false
set_option linter.unusedSimpArgs false
def qjk.l0 : Nat → List (S24) → Int → Int → Option (Int)
 | 0,_,_,_ => none
 | k + 1,x0,x1,x5 => if x5 < (x0.length : Int) then (if 0 ≤ x5 then ((qjj.f ((wz x0 x5).f0) ((wz x0 x5).f1) ((wz x0 x5).f2) ((wz x0 x5).f3) ((wz x0 x5).f4) x1).bind fun t102 => (if t102 < 0 then (some (-1)) else (qjk.l0 k x0 t102 (wrap64 (x5 + 1))))) else (none)) else (some x1)
def qjk.f (k : Nat) (l0 : List (S24)) (a1 : Int) : Option (Int) := if (wrap64 (a1 - (l0.length : Int))) < 0 then (some (-1)) else (qjk.l0 k l0 (wrap64 (a1 - (l0.length : Int))) 0)
set_option maxHeartbeats 8000000 in
set_option maxRecDepth 100000 in
theorem qjk.calls (k : Nat) (A0 : Option Addr) (c0 : Nat) (l0 : List (S24)) (a1 : Int) (r : Int) (w : World) (hr0 : Kd.C k24 w A0 l0.length l0) (hc0 : l0.length ≤ c0) (h : qjk.f k l0 a1 = some r) :
  Calls Try.prog 33 #[.slice A0 l0.length c0,.int .i64 a1] w fun e w' => e = .returned (.int .i64 r) ∧ Below w.heap.size w w' := by
 have hu24 := Try.underlying24
 have HR0 := qq.mk hr0
 have HC0 := qq.mk hc0
 clear hr0 hc0
 have HB := qq.mk (Below.refl w.heap.size w)
 have H : (if (wrap64 (a1 - (l0.length : Int))) < 0 then (some (-1)) else (qjk.l0 k l0 (wrap64 (a1 - (l0.length : Int))) 0)) = some r := h
 clear h
 by_cases c3 : (wrap64 (a1 - (l0.length : Int))) < 0
 ·rw [if_pos c3] at H
  have c3b0 : decide ((wrap64 (a1 - (l0.length : Int))) < 0) = true := decide_eq_true c3
  clear c3
  obtain rfl := Option.some.inj H
  go_enter Try.func33,Try.ntmps33
  go_wp2
  go_ret
  exact ⟨by first | rfl | (simp [*,jk,jj] <;> rfl),by repeat (first | (with_reducible first | exact HB.out | apply qj | apply qz | apply qk) | exact HB.out)⟩
 ·rw [if_neg c3] at H
  have c3b0 : decide ((wrap64 (a1 - (l0.length : Int))) < 0) = false := decide_eq_false c3
  clear c3
  have H' := qq.mk H
  clear H
  go_enter Try.func33,Try.ntmps33
  go_wp2
  go_loopg [1,5] k (fun kq v1 v5 w' => ∃ (x1_1 : Int) (x5_1 : Int),v1 = .int .i64 x1_1 ∧ v5 = .int .i64 x5_1 ∧ qq (qjk.l0 kq l0 x1_1 x5_1 = some r) ∧ qq (kq ≤ k) ∧ qq (Below w.heap.size w w'))
  case atStart => exact ⟨(wrap64 (a1 - (l0.length : Int))),(0),(by first | rfl | (simp;done) | (simp [*];done)),(by first | rfl | (simp;done) | (simp [*];done)),H',⟨Nat.le_refl _⟩,⟨by repeat (first | (with_reducible first | exact HB.out | apply qj | apply qz | apply qk) | exact HB.out)⟩⟩
  case round =>
   clear H'
   try clear p2
   try clear c3
   try clear c3b0
   obtain ⟨x1_1,x5_1,rfl,rfl,HA,HK1,HB⟩ := hrel
   cases gk with
   | zero => exact absurd HA.out (by simp [qjk.l0])
   | succ k1 =>
    have H := HA.out
    clear HA
    simp only [qjk.l0] at H
    by_cases c4 : x5_1 < (l0.length : Int)
    ·rw [if_pos c4] at H
     have c4b0 : decide (x5_1 < (l0.length : Int)) = true := decide_eq_true c4
     clear c4
     by_cases c5 : 0 ≤ x5_1
     ·rw [if_pos c5] at H
      have c5b0 : decide (0 ≤ x5_1) = true := decide_eq_true c5
      clear c5
      replace H := Option.bind_eq_some_iff.mp H
      obtain ⟨t102,A60,H⟩ := H
      replace H : (if t102 < 0 then (some (-1)) else (qjk.l0 k1 l0 t102 (wrap64 (x5_1 + 1)))) = some r := H
      have A6 := qq.mk A60
      clear A60
      by_cases c7 : t102 < 0
      ·rw [if_pos c7] at H
       have c7b0 : decide (t102 < 0) = true := decide_eq_true c7
       clear c7
       obtain rfl := Option.some.inj H
       have p101 : 0 ≤ (x5_1 : Int) := of_decide_eq_true (by assumption)
       have q101 : x5_1 < (l0.length : Int) := of_decide_eq_true (by assumption)
       obtain ⟨ad101,A101_3,c101_3,A101_4,c101_4,e101,hx101_0,hx101_1,hx101_2,hx101_3,hx101_4,hl101_3,hi101_3,hl101_4,hi101_4⟩ := at_T24 HR0.out x5_1 p101 q101
       cases e101
       replace hx101_0 := (HB.out.cell (World.block_lt_of_cell? w _ hx101_0)).trans hx101_0
       replace hx101_1 := (HB.out.cell (World.block_lt_of_cell? w _ hx101_1)).trans hx101_1
       replace hx101_2 := (HB.out.cell (World.block_lt_of_cell? w _ hx101_2)).trans hx101_2
       replace hx101_3 := (HB.out.cell (World.block_lt_of_cell? w _ hx101_3)).trans hx101_3
       replace hx101_4 := (HB.out.cell (World.block_lt_of_cell? w _ hx101_4)).trans hx101_4
       have HR101_3 := qq.mk hi101_3
       have HC101_3 := qq.mk hl101_3
       clear hi101_3 hl101_3
       have HR101_4 := qq.mk hi101_4
       have HC101_4 := qq.mk hl101_4
       clear hi101_4 hl101_4
       replace p101 := eq_true p101
       replace q101 := eq_true q101
       go_wp2_with (first | ((with_reducible refine jv (f := 17) rfl ?_);refine goesL_ (some 23) rfl rfl Try.func17 (by kernel_rfl) rfl #[.agg #[.int .i64 ((wz l0 x5_1).f0),.string ((wz l0 x5_1).f1),.string ((wz l0 x5_1).f2),.slice A101_3 ((wz l0 x5_1).f3).length c101_3,.slice A101_4 ((wz l0 x5_1).f4).length c101_4],.int .i64 x1_1] rfl (by (try simp only [List.map_toArray,List.map_cons,List.map_nil]);first | done | rfl | (simp only [List.length_drop,List.length_take];rfl)) ?_;(with_reducible refine (qjj.calls ((wz l0 x5_1).f0) ((wz l0 x5_1).f1) ((wz l0 x5_1).f2) _ _ ((wz l0 x5_1).f3) _ _ ((wz l0 x5_1).f4) x1_1 t102 _ ?side1 ?side2 ?side3 ?side4 A6.out).mono ?_);(case side1 => repeat (first | exact (Kd.C_below HR101_3.out HB.out) | (with_reducible refine Kd.C_alloc ?_ _) | (with_reducible refine Kd.C_drewN ?_ _) | (with_reducible refine Kd.C_drew ?_)));(case side2 => exact HC101_3.out);(case side3 => repeat (first | exact (Kd.C_below HR101_4.out HB.out) | (with_reducible refine Kd.C_alloc ?_ _) | (with_reducible refine Kd.C_drewN ?_ _) | (with_reducible refine Kd.C_drew ?_)));(case side4 => exact HC101_4.out);rintro e w8 ⟨rfl,hb⟩;refine ⟨_,rfl,?_⟩;have n0_ := qq.mk (zv (by repeat (first | (with_reducible first | exact HB.out | apply qj | apply qz | apply qk) | exact HB.out)) hb);clear HB;have HB := n0_;clear n0_;(try clear hb);(try clear hb2);(try clear hk);(try clear hi)))
       go_ret
       exact ⟨by first | rfl | (simp [*,jk,jj] <;> rfl),by repeat (first | (with_reducible first | exact HB.out | apply qj | apply qz | apply qk) | exact HB.out)⟩
      ·rw [if_neg c7] at H
       have c7b0 : decide (t102 < 0) = false := decide_eq_false c7
       clear c7
       have H' := qq.mk H
       clear H
       have p101 : 0 ≤ (x5_1 : Int) := of_decide_eq_true (by assumption)
       have q101 : x5_1 < (l0.length : Int) := of_decide_eq_true (by assumption)
       obtain ⟨ad101,A101_3,c101_3,A101_4,c101_4,e101,hx101_0,hx101_1,hx101_2,hx101_3,hx101_4,hl101_3,hi101_3,hl101_4,hi101_4⟩ := at_T24 HR0.out x5_1 p101 q101
       cases e101
       replace hx101_0 := (HB.out.cell (World.block_lt_of_cell? w _ hx101_0)).trans hx101_0
       replace hx101_1 := (HB.out.cell (World.block_lt_of_cell? w _ hx101_1)).trans hx101_1
       replace hx101_2 := (HB.out.cell (World.block_lt_of_cell? w _ hx101_2)).trans hx101_2
       replace hx101_3 := (HB.out.cell (World.block_lt_of_cell? w _ hx101_3)).trans hx101_3
       replace hx101_4 := (HB.out.cell (World.block_lt_of_cell? w _ hx101_4)).trans hx101_4
       have HR101_3 := qq.mk hi101_3
       have HC101_3 := qq.mk hl101_3
       clear hi101_3 hl101_3
       have HR101_4 := qq.mk hi101_4
       have HC101_4 := qq.mk hl101_4
       clear hi101_4 hl101_4
       replace p101 := eq_true p101
       replace q101 := eq_true q101
       go_wp2_with (first | ((with_reducible refine jv (f := 17) rfl ?_);refine goesL_ (some 23) rfl rfl Try.func17 (by kernel_rfl) rfl #[.agg #[.int .i64 ((wz l0 x5_1).f0),.string ((wz l0 x5_1).f1),.string ((wz l0 x5_1).f2),.slice A101_3 ((wz l0 x5_1).f3).length c101_3,.slice A101_4 ((wz l0 x5_1).f4).length c101_4],.int .i64 x1_1] rfl (by (try simp only [List.map_toArray,List.map_cons,List.map_nil]);first | done | rfl | (simp only [List.length_drop,List.length_take];rfl)) ?_;(with_reducible refine (qjj.calls ((wz l0 x5_1).f0) ((wz l0 x5_1).f1) ((wz l0 x5_1).f2) _ _ ((wz l0 x5_1).f3) _ _ ((wz l0 x5_1).f4) x1_1 t102 _ ?side1 ?side2 ?side3 ?side4 A6.out).mono ?_);(case side1 => repeat (first | exact (Kd.C_below HR101_3.out HB.out) | (with_reducible refine Kd.C_alloc ?_ _) | (with_reducible refine Kd.C_drewN ?_ _) | (with_reducible refine Kd.C_drew ?_)));(case side2 => exact HC101_3.out);(case side3 => repeat (first | exact (Kd.C_below HR101_4.out HB.out) | (with_reducible refine Kd.C_alloc ?_ _) | (with_reducible refine Kd.C_drewN ?_ _) | (with_reducible refine Kd.C_drew ?_)));(case side4 => exact HC101_4.out);rintro e w9 ⟨rfl,hb⟩;refine ⟨_,rfl,?_⟩;have n0_ := qq.mk (zv (by repeat (first | (with_reducible first | exact HB.out | apply qj | apply qz | apply qk) | exact HB.out)) hb);clear HB;have HB := n0_;clear n0_;(try clear hb);(try clear hb2);(try clear hk);(try clear hi)))
       go_roundg k1
       case measure => have := HK1.out;omega
       case rel => exact ⟨(t102),(wrap64 (x5_1 + 1)),(by first | rfl | (simp;done) | (simp [*];done)),(by first | rfl | (simp;done) | (simp [*];done)),H',⟨by have := HK1.out;omega⟩,⟨by repeat (first | (with_reducible first | exact HB.out | apply qj | apply qz | apply qk) | exact HB.out)⟩⟩
     ·rw [if_neg c5] at H
      exact absurd H (by simp)
    ·rw [if_neg c4] at H
     have c4b0 : decide (x5_1 < (l0.length : Int)) = false := decide_eq_false c4
     clear c4
     obtain rfl := Option.some.inj H
     go_wp2
     go_ret
     exact ⟨by first | rfl | (simp [*,jk,jj] <;> rfl),by repeat (first | (with_reducible first | exact HB.out | apply qj | apply qz | apply qk) | exact HB.out)⟩
def qjx.l0 : Nat → List (S24) → List (S27) → Int → Option ((List (S27)))
 | 0,_,_,_ => none
 | k + 1,x0,x3,x4 => if x4 < (x0.length : Int) then (if 0 ≤ x4 then ((qjw.f k ((wz x0 x4).f0) ((wz x0 x4).f1) ((wz x0 x4).f2) ((wz x0 x4).f3) ((wz x0 x4).f4)).bind fun bt105 => (if x4 < (x3.length : Int) then (qjx.l0 k x0 (x3.set (x4 : Int).toNat (⟨bt105.1,bt105.2.1,bt105.2.2.1,bt105.2.2.2.1,bt105.2.2.2.2⟩ : S27)) (wrap64 (x4 + 1))) else (none))) else (none)) else (some x3)
def qjx.f (k : Nat) (l0 : List (S24)) : Option ((List (S27))) := if 0 ≤ (l0.length : Int) then (if ((l0.length : Int) : Int).toNat ≤ 3198579280802 then (qjx.l0 k l0 (List.replicate ((l0.length : Int) : Int).toNat z27) 0) else (none)) else (none)
set_option maxHeartbeats 8000000 in
set_option maxRecDepth 100000 in
theorem qjx.calls (k : Nat) (A0 : Option Addr) (c0 : Nat) (l0 : List (S24)) (r : List (S27)) (w : World) (hr0 : Kd.C k24 w A0 l0.length l0) (hc0 : l0.length ≤ c0) (h : qjx.f k l0 = some r) :
  Calls Try.prog 35 #[.slice A0 l0.length c0] w fun e w' => ∃ v0_ : Value,e = .returned (v0_) ∧ Kd.S k27 27 w' w.heap.size (fun _ => True) v0_ r ∧ Below w.heap.size w w' := by
 have hu24 := Try.underlying24
 have hu27 := Try.underlying27
 have HR0 := qq.mk hr0
 have HC0 := qq.mk hc0
 clear hr0 hc0
 have HB := qq.mk (Below.refl w.heap.size w)
 have H : (if 0 ≤ (l0.length : Int) then (if ((l0.length : Int) : Int).toNat ≤ 3198579280802 then (qjx.l0 k l0 (List.replicate ((l0.length : Int) : Int).toNat z27) 0) else (none)) else (none)) = some r := h
 clear h
 by_cases c2 : 0 ≤ (l0.length : Int)
 ·rw [if_pos c2] at H
  have c2b0 := eq_true c2
  have c2b1 : decide (0 ≤ (l0.length : Int)) = true := decide_eq_true c2
  clear c2
  by_cases c3 : ((l0.length : Int) : Int).toNat ≤ 3198579280802
  ·rw [if_pos c3] at H
   have c3b0 := eq_true c3
   have c3b1 : decide (((l0.length : Int) : Int).toNat ≤ 3198579280802) = true := decide_eq_true c3
   clear c3
   obtain ⟨y101,hy101⟩ : ∃ y_ : List (S27),y_ = (List.replicate ((l0.length : Int) : Int).toNat z27) := ⟨_,rfl⟩
   replace H : (qjx.l0 k l0 y101 0) = some r := by first | (rw [hy101];with_reducible exact H) | (have H2_ := (Option.bind_some _ _).symm.trans H;rw [hy101];with_reducible exact H2_) | (have H2_ := (Option.bind_some _ _).symm.trans H;with_reducible exact H2_) | with_reducible exact H | (rw [hy101];exact H) | exact H
   have Ny101 := qq.mk hy101
   clear hy101
   have H' := qq.mk H
   clear H
   go_enter Try.func35,Try.ntmps35
   go_wp2_with (first | ((with_reducible refine gate_dst (N := 7) rfl ?_);refine Kd.S_make k27 _ 27 rfl (N := 7) rfl 39 _ _ rfl (l0.length : Int) rfl rfl Try.underlying39 (.agg #[(.int .i64 0),(.string ⟨#[]⟩),(.string ⟨#[]⟩),(.slice none 0 0),(.slice none 0 0)]) 88 info27 rfl (by decide) (by omega) z27 (ok := fun _ => True) (okp := fun _ => True) (k27_mkM _ _ _ z27 (Kd.R_nil _ _ _ _ _) (Kd.R_nil _ _ _ _ _)) (fun _ hk => hk) trivial (of_decide_eq_true (by assumption)) (Nat.le_trans (Nat.mul_le_mul_right _ (of_decide_eq_true (by assumption) : (l0.length : Int).toNat ≤ 3198579280802)) (by omega)) (Below.refl _ _) (Nat.le_refl _) ?_;intro v102 w4 ho5 hb hg_ hnew_;clear hg_ hnew_;(first | rw [← Ny101.out] at ho5 | (simp only [Int.reduceToNat] at ho5;rw [← Ny101.out] at ho5));have n0_ := qq.mk (Kd.S_lower ho5 (zw (by repeat (first | (with_reducible first | exact HB.out | apply qj | apply qz | apply qk) | exact HB.out))));have n1_ := qq.mk (zv (by repeat (first | (with_reducible first | exact HB.out | apply qj | apply qz | apply qk) | exact HB.out)) hb);clear HB;have HO103 := n0_;have HB := n1_;clear n0_ n1_;clear hb ho5))
   go_loopg [4] k (fun kq v4 w' => ∃ (x3_1 : List (S27)) (x4_1 : Int),v4 = .int .i64 x4_1 ∧ qq (qjx.l0 kq l0 x3_1 x4_1 = some r) ∧ qq (kq ≤ k) ∧ qq (Kd.S k27 27 w' w.heap.size (fun _ => True) v102 x3_1) ∧ qq (Below w.heap.size w w'))
   case atStart => exact ⟨(y101),(0),(by first | rfl | (simp;done) | (simp [*];done)),H',⟨Nat.le_refl _⟩,⟨by (with_reducible repeat (first | apply Kd.kx | apply Kd.kw | apply Kd.vq));exact HO103.out⟩,⟨by repeat (first | (with_reducible first | exact HB.out | apply qj | apply qz | apply qk) | exact HB.out)⟩⟩
   case round =>
    clear H'
    try clear c2
    try clear c2b0
    try clear c2b1
    try clear p2
    try clear c3
    try clear c3b0
    try clear c3b1
    obtain ⟨x3_1,x4_1,rfl,HA,HK1,HO_3,HB⟩ := hrel
    cases gk with
    | zero => exact absurd HA.out (by simp [qjx.l0])
    | succ k1 =>
     have H := HA.out
     clear HA
     simp only [qjx.l0] at H
     by_cases c6 : x4_1 < (l0.length : Int)
     ·rw [if_pos c6] at H
      have c6b0 : decide (x4_1 < (l0.length : Int)) = true := decide_eq_true c6
      clear c6
      by_cases c7 : 0 ≤ x4_1
      ·rw [if_pos c7] at H
       have c7b0 : decide (0 ≤ x4_1) = true := decide_eq_true c7
       clear c7
       replace H := Option.bind_eq_some_iff.mp H
       obtain ⟨⟨t105,t106,t107,t108,t111⟩,A80,H⟩ := H
       replace H : (if x4_1 < (x3_1.length : Int) then (qjx.l0 k1 l0 (x3_1.set (x4_1 : Int).toNat (⟨t105,t106,t107,t108,t111⟩ : S27)) (wrap64 (x4_1 + 1))) else (none)) = some r := H
       have A8 := qq.mk A80
       clear A80
       by_cases c9 : x4_1 < (x3_1.length : Int)
       ·rw [if_pos c9] at H
        have c9b0 : decide (x4_1 < (x3_1.length : Int)) = true := decide_eq_true c9
        clear c9
        obtain ⟨y114,hy114⟩ : ∃ y_ : List (S27),y_ = (x3_1.set (x4_1 : Int).toNat (⟨t105,t106,t107,t108,t111⟩ : S27)) := ⟨_,rfl⟩
        replace H : (qjx.l0 k1 l0 y114 (wrap64 (x4_1 + 1))) = some r := by first | (rw [hy114];with_reducible exact H) | (have H2_ := (Option.bind_some _ _).symm.trans H;rw [hy114];with_reducible exact H2_) | (have H2_ := (Option.bind_some _ _).symm.trans H;with_reducible exact H2_) | with_reducible exact H | (rw [hy114];exact H) | exact H
        have Ny114 := qq.mk hy114
        clear hy114
        have H' := qq.mk H
        clear H
        have p104 : 0 ≤ (x4_1 : Int) := of_decide_eq_true (by assumption)
        have q104 : x4_1 < (l0.length : Int) := of_decide_eq_true (by assumption)
        obtain ⟨ad104,A104_3,c104_3,A104_4,c104_4,e104,hx104_0,hx104_1,hx104_2,hx104_3,hx104_4,hl104_3,hi104_3,hl104_4,hi104_4⟩ := at_T24 HR0.out x4_1 p104 q104
        cases e104
        replace hx104_0 := (HB.out.cell (World.block_lt_of_cell? w _ hx104_0)).trans hx104_0
        replace hx104_1 := (HB.out.cell (World.block_lt_of_cell? w _ hx104_1)).trans hx104_1
        replace hx104_2 := (HB.out.cell (World.block_lt_of_cell? w _ hx104_2)).trans hx104_2
        replace hx104_3 := (HB.out.cell (World.block_lt_of_cell? w _ hx104_3)).trans hx104_3
        replace hx104_4 := (HB.out.cell (World.block_lt_of_cell? w _ hx104_4)).trans hx104_4
        have HR104_3 := qq.mk hi104_3
        have HC104_3 := qq.mk hl104_3
        clear hi104_3 hl104_3
        have HR104_4 := qq.mk hi104_4
        have HC104_4 := qq.mk hl104_4
        clear hi104_4 hl104_4
        replace p104 := eq_true p104
        replace q104 := eq_true q104
        go_wp2_with (first | ((with_reducible refine jv (f := 19) rfl ?_);refine goesL_ (some 20) rfl rfl Try.func19 (by kernel_rfl) rfl #[.agg #[.int .i64 ((wz l0 x4_1).f0),.string ((wz l0 x4_1).f1),.string ((wz l0 x4_1).f2),.slice A104_3 ((wz l0 x4_1).f3).length c104_3,.slice A104_4 ((wz l0 x4_1).f4).length c104_4]] rfl (by (try simp only [List.map_toArray,List.map_cons,List.map_nil]);first | done | rfl | (simp only [List.length_drop,List.length_take];rfl)) ?_;(with_reducible refine (qjw.calls k1 ((wz l0 x4_1).f0) ((wz l0 x4_1).f1) ((wz l0 x4_1).f2) _ _ ((wz l0 x4_1).f3) _ _ ((wz l0 x4_1).f4) t105 t106 t107 t108 t111 _ ?side1 ?side2 ?side3 ?side4 A8.out).mono ?_);(case side1 => repeat (first | exact (Kd.C_below HR104_3.out HB.out) | (with_reducible refine Kd.C_alloc ?_ _) | (with_reducible refine Kd.C_drewN ?_ _) | (with_reducible refine Kd.C_drew ?_)));(case side2 => exact HC104_3.out);(case side3 => repeat (first | exact (Kd.C_below HR104_4.out HB.out) | (with_reducible refine Kd.C_alloc ?_ _) | (with_reducible refine Kd.C_drewN ?_ _) | (with_reducible refine Kd.C_drew ?_)));(case side4 => exact HC104_4.out);rintro e w11 ⟨v109,v112,rfl,ho0,ho1,hb⟩;refine ⟨_,rfl,?_⟩;have n0_ := qq.mk (Kd.S_mono (Kd.S_told (Kd.S_told (Kd.S_old (by (with_reducible repeat (first | apply Kd.kx | apply Kd.kw | apply Kd.vq));exact HO_3.out) hb) (Kd.R_base ho0)) (Kd.R_base ho1)) (fun _ h_ => h_.1));have n1_ := qq.mk (Kd.R_lower ho0 (zw (by repeat (first | (with_reducible first | exact HB.out | apply qj | apply qz | apply qk) | exact HB.out))));have n2_ := qq.mk (Kd.R_lower ho1 (zw (by repeat (first | (with_reducible first | exact HB.out | apply qj | apply qz | apply qk) | exact HB.out))));have n3_ := qq.mk (zv (by repeat (first | (with_reducible first | exact HB.out | apply qj | apply qz | apply qk) | exact HB.out)) hb);clear HO_3;clear HB;have HO_3 := n0_;have HO110 := n1_;have HO113 := n2_;have HB := n3_;clear n0_ n1_ n2_ n3_;(try clear hb);(try clear hb2);(try clear hk);(try clear hi);(try clear ho0);(try clear ho1);have p10 : 0 ≤ (x4_1 : Int) := of_decide_eq_true (by assumption);have q10 : (x4_1 : Int) < ((x3_1.length : Int) : Int) := of_decide_eq_true (by assumption);obtain ⟨go10,co10,eo10,gb10,gl10,cl10,HG10⟩ := Kd.S_form HO_3.out (by omega);(first | cases eo10 | (injection eo10 with ea_ en_ ec_;(first | subst ea_ | (injection ea_ with ea_;subst ea_));subst ec_;clear en_));have GB10 := qq.mk gb10;have GG10 := qq.mk HG10;clear gb10 gl10 HG10;obtain ⟨_,ce10,hcl10,hM10,hcc10,hfr10,_,_⟩ := Kd.S_elem HO_3.out z27 (x4_1 : Int) p10 q10;obtain ⟨ve10_3,ve10_4,rfl,ge10_3,ge10_4⟩ := k27_openM hM10;have hx10_0 : w11.cell? ⟨go10,(x4_1 : Int).toNat * 5,none⟩ = some (.int .i64 ((wj x3_1 x4_1).f0)) := hcc10 0 _ rfl;have hx10_1 : w11.cell? ⟨go10,(x4_1 : Int).toNat * 5 + 1,none⟩ = some (.string ((wj x3_1 x4_1).f1)) := hcc10 1 _ rfl;have hx10_2 : w11.cell? ⟨go10,(x4_1 : Int).toNat * 5 + 2,none⟩ = some (.string ((wj x3_1 x4_1).f2)) := hcc10 2 _ rfl;have hx10_3 : w11.cell? ⟨go10,(x4_1 : Int).toNat * 5 + 3,none⟩ = some (ve10_3) := hcc10 3 _ rfl;have hx10_4 : w11.cell? ⟨go10,(x4_1 : Int).toNat * 5 + 4,none⟩ = some (ve10_4) := hcc10 4 _ rfl;have hf10_0 : w11.frozen? ⟨go10,(x4_1 : Int).toNat * 5,none⟩ = false := hfr10 0;have hf10_1 : w11.frozen? ⟨go10,(x4_1 : Int).toNat * 5 + 1,none⟩ = false := hfr10 1;have hf10_2 : w11.frozen? ⟨go10,(x4_1 : Int).toNat * 5 + 2,none⟩ = false := hfr10 2;have hf10_3 : w11.frozen? ⟨go10,(x4_1 : Int).toNat * 5 + 3,none⟩ = false := hfr10 3;have hf10_4 : w11.frozen? ⟨go10,(x4_1 : Int).toNat * 5 + 4,none⟩ = false := hfr10 4;clear hcl10 hcc10 hfr10;(try clear hM10);replace p10 := eq_true p10;replace q10 := eq_true q10;have n_ := qq.mk (Kd.S_mono (ok' := (fun k_ => some k_ ≠ (v109 : Value).ownBlock ∧ some k_ ≠ (v112 : Value).ownBlock)) HO_3.out (fun k_ hk => ⟨hk.1.2,hk.2⟩));clear HO_3;have HO_3 := n_;clear n_;have HX12 := qq.mk (show Kd.S k27 27 w11 w.heap.size (fun k_ => ((fun _ => True)) k_ ∧ ¬ ((fun k_ => some k_ = (v109 : Value).ownBlock ∨ some k_ = (v112 : Value).ownBlock)) k_) (.slice (some ⟨go10,0,none⟩) x3_1.length co10) x3_1 from (by (with_reducible repeat (first | apply Kd.kx | apply Kd.kw | apply Kd.vq));exact Kd.S_mono HO_3.out (fun k_ hk => ⟨trivial,fun e_ => e_.elim (fun h_ => hk.1 h_) (fun h_ => hk.2 h_)⟩)));obtain ⟨oki12,ce12,hcl12,hM12,hcc12,hfr12,hoki12,hH12⟩ := Kd.S_elem HX12.out z27 (x4_1 : Int) (of_decide_eq_true (by assumption)) (by have h_ : (x4_1 : Int) < ((x3_1.length : Int) : Int) := of_decide_eq_true (by assumption);first | exact h_ | (have e_ := (Kd.S_reads' HO_3.out).1;omega) | simpa using h_);obtain ⟨ve12_3,ve12_4,rfl,ge12_3,ge12_4⟩ := k27_openM hM12;have HP12 := Kd.S_seg hH12 (of_decide_eq_true (by assumption)) (by have h_ : (x4_1 : Int) < ((x3_1.length : Int) : Int) := of_decide_eq_true (by assumption);first | exact h_ | (have e_ := (Kd.S_reads' HO_3.out).1;omega) | simpa using h_) (seg := [.int .i64 t105,.string t106,.string t107,v109,v112]) (j := 0) (show 5 ≤ 5 from by decide) (x' := (⟨t105,t106,t107,t108,t111⟩ : S27)) (k27_mkM _ _ _ (⟨t105,t106,t107,t108,t111⟩ : S27) (Kd.R_mono (Kd.R_tight rfl (Kd.R_mono (ok' := fun k_ => ((fun _ => True)) k_ ∧ k_ ≠ go10) (Kd.R_apart' (HO110.out) (Kd.S_typed HO_3.out) (by decide)) (fun k_ hk => ⟨trivial,fun e_ => (hk.2) (by rw [e_];rfl)⟩))) (fun _ h_ => Or.inr (Or.inl h_))) (Kd.R_mono (Kd.R_tight rfl (Kd.R_mono (ok' := fun k_ => ((fun _ => True)) k_ ∧ k_ ≠ go10) (Kd.R_apart' (HO113.out) (Kd.S_typed HO_3.out) (by decide)) (fun k_ hk => ⟨trivial,fun e_ => (hk.2) (by rw [e_];rfl)⟩))) (fun _ h_ => Or.inr (Or.inr (h_))))) (fun _ hk => hk) (fun k_ hk_ => hk_.elim (fun h_ => ((Kd.R_mono (ok' := fun k_ => ((fun _ => True)) k_ ∧ k_ ≠ go10) (Kd.R_apart' (HO110.out) (Kd.S_typed HO_3.out) (by decide)) (fun k_ hk => ⟨trivial,fun e_ => (hk.2) (by rw [e_];rfl)⟩))).1 k_ h_.symm) (fun h_ => ((Kd.R_mono (ok' := fun k_ => ((fun _ => True)) k_ ∧ k_ ≠ go10) (Kd.R_apart' (HO113.out) (Kd.S_typed HO_3.out) (by decide)) (fun k_ hk => ⟨trivial,fun e_ => (hk.2) (by rw [e_];rfl)⟩))).1 k_ h_.symm));have hx12_0 := hcc12 0 _ rfl;(try simp only [show (k27).sz = 5 from rfl,Nat.mul_one,Nat.add_zero] at hx12_0);have hf12_0 := hfr12 0;(try simp only [show (k27).sz = 5 from rfl,Nat.mul_one,Nat.add_zero] at hf12_0);have hx12_1 := hcc12 1 _ rfl;(try simp only [show (k27).sz = 5 from rfl,Nat.mul_one,Nat.add_zero] at hx12_1);have hf12_1 := hfr12 1;(try simp only [show (k27).sz = 5 from rfl,Nat.mul_one,Nat.add_zero] at hf12_1);have hx12_2 := hcc12 2 _ rfl;(try simp only [show (k27).sz = 5 from rfl,Nat.mul_one,Nat.add_zero] at hx12_2);have hf12_2 := hfr12 2;(try simp only [show (k27).sz = 5 from rfl,Nat.mul_one,Nat.add_zero] at hf12_2);have hx12_3 := hcc12 3 _ rfl;(try simp only [show (k27).sz = 5 from rfl,Nat.mul_one,Nat.add_zero] at hx12_3);have hf12_3 := hfr12 3;(try simp only [show (k27).sz = 5 from rfl,Nat.mul_one,Nat.add_zero] at hf12_3);have hx12_4 := hcc12 4 _ rfl;(try simp only [show (k27).sz = 5 from rfl,Nat.mul_one,Nat.add_zero] at hx12_4);have hf12_4 := hfr12 4;(try simp only [show (k27).sz = 5 from rfl,Nat.mul_one,Nat.add_zero] at hf12_4);clear hcl12 hcc12 hfr12 hoki12 hH12;(try clear hM12)) | ((with_reducible refine jw (t := 27) (p := 21) rfl ?_);refine jx (t := 27) (p := 21) (v := ?vo_w13) (w1 := (((((w11.setCell ⟨go10,(x4_1 : Int).toNat * 5,none⟩ (.int .i64 t105)).setCell ⟨go10,(x4_1 : Int).toNat * 5 + 1,none⟩ (.string t106)).setCell ⟨go10,(x4_1 : Int).toNat * 5 + 2,none⟩ (.string t107)).setCell ⟨go10,(x4_1 : Int).toNat * 5 + 3,none⟩ (v109)).setCell ⟨go10,(x4_1 : Int).toNat * 5 + 4,none⟩ (v112))) ?hg ?ho ?hn ?hr ?_;(case ho => rfl);(case hg => rfl);(case hn => rfl);(case hr => first | (go_simp;done) | (go_simp;rfl) | (obtain ⟨A0_,c0_,e0_⟩ := Kd.R_slice HO110.out;obtain ⟨A1_,c1_,e1_⟩ := Kd.R_slice HO113.out;subst e0_;subst e1_;first | (go_simp;done) | (go_simp;rfl)));intro w13 hw;have hg : w11.grownBy w13 (some go10) := (by rw [hw];exact HP12.2);have hp_ : Kd.S k27 27 w13 w.heap.size (fun _ => True) (.slice (some ⟨go10,0,none⟩) x3_1.length co10) y114 := (by rw [hw,Ny114.out];exact HP12.1);clear HP12;have n0_ := qq.mk (hp_);have n1_ := qq.mk ((by rw [hw];exact qx (qx (qx (qx (qx (HB.out) GB10.out) GB10.out) GB10.out) GB10.out) GB10.out : Below w.heap.size w w13));clear HO_3;clear HB;clear HO110;clear HO113;have HO_3 := n0_;have HB := n1_;clear n0_ n1_;clear hg hw hp_))
        go_roundg k1
        case measure => have := HK1.out;omega
        case rel => exact ⟨(y114),(wrap64 (x4_1 + 1)),(by first | rfl | (simp;done) | (simp [*];done)),H',⟨by have := HK1.out;omega⟩,⟨by (with_reducible repeat (first | apply Kd.kx | apply Kd.kw | apply Kd.vq));exact HO_3.out⟩,⟨by repeat (first | (with_reducible first | exact HB.out | apply qj | apply qz | apply qk) | exact HB.out)⟩⟩
       ·rw [if_neg c9] at H
        exact absurd H (by simp)
      ·rw [if_neg c7] at H
       exact absurd H (by simp)
     ·rw [if_neg c6] at H
      have c6b0 : decide (x4_1 < (l0.length : Int)) = false := decide_eq_false c6
      clear c6
      obtain rfl := Option.some.inj H
      go_wp2
      go_ret
      exact ⟨_,by first | rfl | (simp [*,jk,jj] <;> rfl),by (with_reducible repeat (first | apply Kd.kx | apply Kd.kw | apply Kd.vq));exact HO_3.out,by repeat (first | (with_reducible first | exact HB.out | apply qj | apply qz | apply qk) | exact HB.out)⟩
  ·rw [if_neg c3] at H
   exact absurd H (by simp)
 ·rw [if_neg c2] at H
  exact absurd H (by simp)
def qzj.l0 : Nat → List (S27) → List (S27) → Int → Option (Bool)
 | 0,_,_,_ => none
 | k + 1,x0,x1,x5 => if x5 < (x0.length : Int) then (if 0 ≤ x5 then (if x5 < (x1.length : Int) then ((qzz.f k ((wj x0 x5).f0) ((wj x0 x5).f1) ((wj x0 x5).f2) ((wj x0 x5).f3) ((wj x0 x5).f4) ((wj x1 x5).f0) ((wj x1 x5).f1) ((wj x1 x5).f2) ((wj x1 x5).f3) ((wj x1 x5).f4)).bind fun t103 => (if t103 = true then (qzj.l0 k x0 x1 (wrap64 (x5 + 1))) else (some false))) else (none)) else (none)) else (some true)
def qzj.f (k : Nat) (l0 : List (S27)) (l1 : List (S27)) : Option (Bool) := if (l0.length : Int) = (l1.length : Int) then (qzj.l0 k l0 l1 0) else (some false)
def qzj.T6 : Bool × List (List Nat × List Nat) := (true,[([],[]),([],[]),([0,1],[0,1]),([2],[2]),([],[]),([],[]),([4,5],[4,5]),([6],[6]),([3,7],[3,7]),([8],[8])])
def qzj.B6 : List Nat := [0,0,3,7,0,0,48,112,255,511]
theorem qzj.tab6 : rtab .any (opsOf Try.f37 6) = qzj.T6 := by kernel_rfl
theorem qzj.bits6 : waitsOk qzj.T6.2 qzj.B6 = true := by kernel_rfl
set_option maxHeartbeats 8000000 in
set_option maxRecDepth 100000 in
theorem qzj.calls (k : Nat) (A0 : Option Addr) (c0 : Nat) (l0 : List (S27)) (A1 : Option Addr) (c1 : Nat) (l1 : List (S27)) (r : Bool) (w : World) (hr0 : Kd.C k27 w A0 l0.length l0) (hc0 : l0.length ≤ c0) (hr1 : Kd.C k27 w A1 l1.length l1) (hc1 : l1.length ≤ c1) (h : qzj.f k l0 l1 = some r) :
  Calls Try.prog 37 #[.slice A0 l0.length c0,.slice A1 l1.length c1] w fun e w' => e = .returned (.bool r) ∧ Below w.heap.size w w' := by
 have hu27 := Try.underlying27
 have HR0 := qq.mk hr0
 have HC0 := qq.mk hc0
 clear hr0 hc0
 have HR1 := qq.mk hr1
 have HC1 := qq.mk hc1
 clear hr1 hc1
 have HB := qq.mk (Below.refl w.heap.size w)
 have H : (if (l0.length : Int) = (l1.length : Int) then (qzj.l0 k l0 l1 0) else (some false)) = some r := h
 clear h
 by_cases c3 : (l0.length : Int) = (l1.length : Int)
 ·rw [if_pos c3] at H
  have c3b0 : ((l0.length : Int) == (l1.length : Int)) = true := beq_iff_eq.mpr c3
  have c3b1 : ((l0.length : Int) != (l1.length : Int)) = false := bne_eq_false_iff_eq.mpr c3
  have c3b2 : (l0.length == l1.length) = true := by first | simpa using c3 | (simp at c3 ⊢;omega)
  clear c3
  have H' := qq.mk H
  clear H
  go_enter Try.func37,Try.ntmps37
  go_wp2
  go_loopg [5] k (fun kq v5 w' => ∃ (x5_1 : Int),v5 = .int .i64 x5_1 ∧ qq (qzj.l0 kq l0 l1 x5_1 = some r) ∧ qq (kq ≤ k) ∧ qq (Below w.heap.size w w'))
  case atStart => exact ⟨(0),(by first | rfl | (simp;done) | (simp [*];done)),H',⟨Nat.le_refl _⟩,⟨by repeat (first | (with_reducible first | exact HB.out | apply qj | apply qz | apply qk) | exact HB.out)⟩⟩
  case round =>
   clear H'
   try clear c1
   try clear p2
   try clear c3
   try clear c3b0
   try clear c3b1
   try clear c3b2
   obtain ⟨x5_1,rfl,HA,HK1,HB⟩ := hrel
   cases gk with
   | zero => exact absurd HA.out (by simp [qzj.l0])
   | succ k1 =>
    have H := HA.out
    clear HA
    simp only [qzj.l0] at H
    by_cases c4 : x5_1 < (l0.length : Int)
    ·rw [if_pos c4] at H
     have c4b0 : decide (x5_1 < (l0.length : Int)) = true := decide_eq_true c4
     clear c4
     by_cases c5 : 0 ≤ x5_1
     ·rw [if_pos c5] at H
      have c5b0 : decide (0 ≤ x5_1) = true := decide_eq_true c5
      clear c5
      by_cases c6 : x5_1 < (l1.length : Int)
      ·rw [if_pos c6] at H
       have c6b0 : decide (x5_1 < (l1.length : Int)) = true := decide_eq_true c6
       clear c6
       replace H := Option.bind_eq_some_iff.mp H
       obtain ⟨t103,A70,H⟩ := H
       replace H : (if t103 = true then (qzj.l0 k1 l0 l1 (wrap64 (x5_1 + 1))) else (some false)) = some r := H
       have A7 := qq.mk A70
       clear A70
       by_cases c8 : t103 = true
       ·subst c8
        have H1 : (qzj.l0 k1 l0 l1 (wrap64 (x5_1 + 1))) = some r := by rw [if_pos rfl] at H;exact H
        clear H
        have H := H1
        clear H1
        have H' := qq.mk H
        clear H
        try go_wp2
        have n0_ := qq.mk (qk HB.out)
        clear HB
        have HB := n0_
        clear n0_
        have p101 : 0 ≤ (x5_1 : Int) := of_decide_eq_true (by assumption)
        have q101 : x5_1 < (l0.length : Int) := of_decide_eq_true (by assumption)
        obtain ⟨ad101,A101_3,c101_3,A101_4,c101_4,e101,hx101_0,hx101_1,hx101_2,hx101_3,hx101_4,hl101_3,hi101_3,hl101_4,hi101_4⟩ := at_T27 HR0.out x5_1 p101 q101
        have hw101_4 := hx101_4
        have hw101_3 := hx101_3
        have hw101_2 := hx101_2
        have hw101_1 := hx101_1
        have hw101_0 := hx101_0
        cases e101
        replace hx101_0 := (HB.out.cell (World.block_lt_of_cell? w _ hx101_0)).trans hx101_0
        replace hx101_1 := (HB.out.cell (World.block_lt_of_cell? w _ hx101_1)).trans hx101_1
        replace hx101_2 := (HB.out.cell (World.block_lt_of_cell? w _ hx101_2)).trans hx101_2
        replace hx101_3 := (HB.out.cell (World.block_lt_of_cell? w _ hx101_3)).trans hx101_3
        replace hx101_4 := (HB.out.cell (World.block_lt_of_cell? w _ hx101_4)).trans hx101_4
        have HR101_3 := qq.mk hi101_3
        have HC101_3 := qq.mk hl101_3
        clear hi101_3 hl101_3
        have HR101_4 := qq.mk hi101_4
        have HC101_4 := qq.mk hl101_4
        clear hi101_4 hl101_4
        replace p101 := eq_true p101
        replace q101 := eq_true q101
        have p102 : 0 ≤ (x5_1 : Int) := of_decide_eq_true (by assumption)
        have q102 : x5_1 < (l1.length : Int) := of_decide_eq_true (by assumption)
        obtain ⟨ad102,A102_3,c102_3,A102_4,c102_4,e102,hx102_0,hx102_1,hx102_2,hx102_3,hx102_4,hl102_3,hi102_3,hl102_4,hi102_4⟩ := at_T27 HR1.out x5_1 p102 q102
        have hw102_4 := hx102_4
        have hw102_3 := hx102_3
        have hw102_2 := hx102_2
        have hw102_1 := hx102_1
        have hw102_0 := hx102_0
        cases e102
        replace hx102_0 := (HB.out.cell (World.block_lt_of_cell? w _ hx102_0)).trans hx102_0
        replace hx102_1 := (HB.out.cell (World.block_lt_of_cell? w _ hx102_1)).trans hx102_1
        replace hx102_2 := (HB.out.cell (World.block_lt_of_cell? w _ hx102_2)).trans hx102_2
        replace hx102_3 := (HB.out.cell (World.block_lt_of_cell? w _ hx102_3)).trans hx102_3
        replace hx102_4 := (HB.out.cell (World.block_lt_of_cell? w _ hx102_4)).trans hx102_4
        have HR102_3 := qq.mk hi102_3
        have HC102_3 := qq.mk hl102_3
        clear hi102_3 hl102_3
        have HR102_4 := qq.mk hi102_4
        have HC102_4 := qq.mk hl102_4
        clear hi102_4 hl102_4
        replace p102 := eq_true p102
        replace q102 := eq_true q102
        refine start_ (n := 10) (S := fun w' => w'.cell? (ad101.add ((x5_1).toNat * 5)) = some (.int .i64 ((wj l0 x5_1).f0)) ∧ w'.cell? ⟨(ad101.add ((x5_1).toNat * 5)).block,(ad101.add ((x5_1).toNat * 5)).off + 1,none⟩ = some (.string ((wj l0 x5_1).f1)) ∧ w'.cell? ⟨(ad101.add ((x5_1).toNat * 5)).block,(ad101.add ((x5_1).toNat * 5)).off + 2,none⟩ = some (.string ((wj l0 x5_1).f2)) ∧ w'.cell? ⟨(ad101.add ((x5_1).toNat * 5)).block,(ad101.add ((x5_1).toNat * 5)).off + 3,none⟩ = some (.slice A101_3 ((wj l0 x5_1).f3).length c101_3) ∧ w'.cell? ⟨(ad101.add ((x5_1).toNat * 5)).block,(ad101.add ((x5_1).toNat * 5)).off + 4,none⟩ = some (.slice A101_4 ((wj l0 x5_1).f4).length c101_4) ∧ w'.cell? (ad102.add ((x5_1).toNat * 5)) = some (.int .i64 ((wj l1 x5_1).f0)) ∧ w'.cell? ⟨(ad102.add ((x5_1).toNat * 5)).block,(ad102.add ((x5_1).toNat * 5)).off + 1,none⟩ = some (.string ((wj l1 x5_1).f1)) ∧ w'.cell? ⟨(ad102.add ((x5_1).toNat * 5)).block,(ad102.add ((x5_1).toNat * 5)).off + 2,none⟩ = some (.string ((wj l1 x5_1).f2)) ∧ w'.cell? ⟨(ad102.add ((x5_1).toNat * 5)).block,(ad102.add ((x5_1).toNat * 5)).off + 3,none⟩ = some (.slice A102_3 ((wj l1 x5_1).f3).length c102_3) ∧ w'.cell? ⟨(ad102.add ((x5_1).toNat * 5)).block,(ad102.add ((x5_1).toNat * 5)).off + 4,none⟩ = some (.slice A102_4 ((wj l1 x5_1).f4).length c102_4)) (ds := []) #[false,false,false,false,false,false,false,false,false,false] (by kernel_rfl) rfl rfl ⟨((HB.out.cell (World.block_lt_of_cell? w _ hw101_0)).trans hw101_0),((HB.out.cell (World.block_lt_of_cell? w _ hw101_1)).trans hw101_1),((HB.out.cell (World.block_lt_of_cell? w _ hw101_2)).trans hw101_2),((HB.out.cell (World.block_lt_of_cell? w _ hw101_3)).trans hw101_3),((HB.out.cell (World.block_lt_of_cell? w _ hw101_4)).trans hw101_4),((HB.out.cell (World.block_lt_of_cell? w _ hw102_0)).trans hw102_0),((HB.out.cell (World.block_lt_of_cell? w _ hw102_1)).trans hw102_1),((HB.out.cell (World.block_lt_of_cell? w _ hw102_2)).trans hw102_2),((HB.out.cell (World.block_lt_of_cell? w _ hw102_3)).trans hw102_3),((HB.out.cell (World.block_lt_of_cell? w _ hw102_4)).trans hw102_4)⟩ (fun hHeld => ?_);refine with_tabW qzj.tab6 qzj.bits6 (fun HT_ HW_ => ?_)
        generalize wr.drew = w9 at HB HR101_3 HR101_4 HR102_3 HR102_4 hx101_0 hx101_1 hx101_2 hx101_3 hx101_4 hx102_0 hx102_1 hx102_2 hx102_3 hx102_4 hHeld ⊢
        refine pure_ (i := 0) (N := some 17) (v := ?_) (a' := ?_) #[true,false,false,false,false,false,false,false,false,false] rfl rfl (any_of HT_.out (by kernel_rfl)) (fun _ _ _ h => h) (Or.inl ⟨by rfl,?_⟩) ?_ ?_
        rotate_left
        ·intro w'
         go_simp
         with_reducible rfl
        rotate_left
        ·simp only [Act.put,List.setIfInBounds_toArray,List.set_cons_zero,List.set_cons_succ,i64_w,i32_w]
         rfl
        refine pure_ (i := 1) (N := some 18) (v := ?_) (a' := ?_) #[true,true,false,false,false,false,false,false,false,false] rfl rfl (any_of HT_.out (by kernel_rfl)) (fun _ _ _ h => h) (Or.inl ⟨by rfl,?_⟩) ?_ ?_
        rotate_left
        ·intro w'
         go_simp
         with_reducible rfl
        rotate_left
        ·simp only [Act.put,List.setIfInBounds_toArray,List.set_cons_zero,List.set_cons_succ,i64_w,i32_w]
         rfl
        refine pure_ (i := 2) (N := some 19) (v := ?_) (a' := ?_) #[true,true,true,false,false,false,false,false,false,false] rfl rfl (any_of HT_.out (by kernel_rfl)) (fun _ _ _ h => h) (Or.inl ⟨by rfl,?_⟩) ?_ ?_
        rotate_left
        ·intro w'
         go_simp
         with_reducible rfl
        rotate_left
        ·simp only [Act.put,List.setIfInBounds_toArray,List.set_cons_zero,List.set_cons_succ,i64_w,i32_w]
         rfl
        refine pure_ (i := 4) (N := some 21) (v := ?_) (a' := ?_) #[true,true,true,false,true,false,false,false,false,false] rfl rfl (any_of HT_.out (by kernel_rfl)) (fun _ _ _ h => h) (Or.inl ⟨by rfl,?_⟩) ?_ ?_
        rotate_left
        ·intro w'
         go_simp
         with_reducible rfl
        rotate_left
        ·simp only [Act.put,List.setIfInBounds_toArray,List.set_cons_zero,List.set_cons_succ,i64_w,i32_w]
         rfl
        refine pure_ (i := 5) (N := some 22) (v := ?_) (a' := ?_) #[true,true,true,false,true,true,false,false,false,false] rfl rfl (any_of HT_.out (by kernel_rfl)) (fun _ _ _ h => h) (Or.inl ⟨by rfl,?_⟩) ?_ ?_
        rotate_left
        ·intro w'
         go_simp
         with_reducible rfl
        rotate_left
        ·simp only [Act.put,List.setIfInBounds_toArray,List.set_cons_zero,List.set_cons_succ,i64_w,i32_w]
         rfl
        refine pure_ (i := 6) (N := some 23) (v := ?_) (a' := ?_) #[true,true,true,false,true,true,true,false,false,false] rfl rfl (any_of HT_.out (by kernel_rfl)) (fun _ _ _ h => h) (Or.inl ⟨by rfl,?_⟩) ?_ ?_
        rotate_left
        ·intro w'
         go_simp
         with_reducible rfl
        rotate_left
        ·simp only [Act.put,List.setIfInBounds_toArray,List.set_cons_zero,List.set_cons_succ,i64_w,i32_w]
         rfl
        refine take_ (i := 3) (N := some 20) (v := ?_) (a' := ?_) #[true,true,true,true,true,true,true,false,false,false] rfl rfl (take_ofW HT_.out HW_.out (by kernel_rfl)) (fun _ _ _ h => h) (Or.inl ⟨by rfl,?_⟩) hHeld ?_ ?_
        rotate_left
        ·rintro w' ⟨s0,s1,s2,s3,s4,s5,s6,s7,s8,s9⟩
         go_simp
         with_reducible rfl
        rotate_left
        ·simp only [Act.put,List.setIfInBounds_toArray,List.set_cons_zero,List.set_cons_succ,i64_w,i32_w]
         rfl
        refine take_ (i := 7) (N := some 24) (v := ?_) (a' := ?_) #[true,true,true,true,true,true,true,true,false,false] rfl rfl (take_ofW HT_.out HW_.out (by kernel_rfl)) (fun _ _ _ h => h) (Or.inl ⟨by rfl,?_⟩) hHeld ?_ ?_
        rotate_left
        ·rintro w' ⟨s0,s1,s2,s3,s4,s5,s6,s7,s8,s9⟩
         go_simp
         with_reducible rfl
        rotate_left
        ·simp only [Act.put,List.setIfInBounds_toArray,List.set_cons_zero,List.set_cons_succ,i64_w,i32_w]
         rfl
        refine one_ (i := 8) (N := some 25) #[true,true,true,true,true,true,true,true,true,false] rfl rfl (one_of HT_.out (by kernel_rfl)) (by decide) (fun K hK => ?_)
        refine goes_ Try.func21 (by kernel_rfl) rfl #[.agg #[.int .i64 ((wj l0 x5_1).f0),.string ((wj l0 x5_1).f1),.string ((wj l0 x5_1).f2),.slice A101_3 ((wj l0 x5_1).f3).length c101_3,.slice A101_4 ((wj l0 x5_1).f4).length c101_4],.agg #[.int .i64 ((wj l1 x5_1).f0),.string ((wj l1 x5_1).f1),.string ((wj l1 x5_1).f2),.slice A102_3 ((wj l1 x5_1).f3).length c102_3,.slice A102_4 ((wj l1 x5_1).f4).length c102_4]] (by rfl) rfl rfl (by (try simp only [List.map_toArray,List.map_cons,List.map_nil]);first | done | rfl | (simp only [List.length_drop,List.length_take];rfl)) ?_
        with_reducible refine (qzz.calls k1 ((wj l0 x5_1).f0) ((wj l0 x5_1).f1) ((wj l0 x5_1).f2) _ _ ((wj l0 x5_1).f3) _ _ ((wj l0 x5_1).f4) ((wj l1 x5_1).f0) ((wj l1 x5_1).f1) ((wj l1 x5_1).f2) _ _ ((wj l1 x5_1).f3) _ _ ((wj l1 x5_1).f4) true _ ?side1 ?side2 ?side3 ?side4 ?side5 ?side6 ?side7 ?side8 A7.out).mono ?_
        (case side1 => repeat (first | exact (Kd.C_below HR101_3.out HB.out) | (with_reducible refine Kd.C_alloc ?_ _) | (with_reducible refine Kd.C_drewN ?_ _) | (with_reducible refine Kd.C_drew ?_)))
        (case side2 => exact HC101_3.out)
        (case side3 => repeat (first | exact (Kd.C_below HR101_4.out HB.out) | (with_reducible refine Kd.C_alloc ?_ _) | (with_reducible refine Kd.C_drewN ?_ _) | (with_reducible refine Kd.C_drew ?_)))
        (case side4 => exact HC101_4.out)
        (case side5 => repeat (first | exact (Kd.C_below HR102_3.out HB.out) | (with_reducible refine Kd.C_alloc ?_ _) | (with_reducible refine Kd.C_drewN ?_ _) | (with_reducible refine Kd.C_drew ?_)))
        (case side6 => exact HC102_3.out)
        (case side7 => repeat (first | exact (Kd.C_below HR102_4.out HB.out) | (with_reducible refine Kd.C_alloc ?_ _) | (with_reducible refine Kd.C_drewN ?_ _) | (with_reducible refine Kd.C_drew ?_)))
        (case side8 => exact HC102_4.out)
        rintro e w10 ⟨rfl,hb⟩
        refine ⟨_,rfl,?_⟩
        have n0_ := qq.mk (zv (by repeat (first | (with_reducible first | exact HB.out | apply qj | apply qz | apply qk) | exact HB.out)) hb)
        clear HB
        have HB := n0_
        clear n0_
        (try clear hb)
        (try clear hb2)
        (try clear hk)
        (try clear hi)
        refine hK.out _ _ ⟨((HB.out.cell (World.block_lt_of_cell? w _ hw101_0)).trans hw101_0),((HB.out.cell (World.block_lt_of_cell? w _ hw101_1)).trans hw101_1),((HB.out.cell (World.block_lt_of_cell? w _ hw101_2)).trans hw101_2),((HB.out.cell (World.block_lt_of_cell? w _ hw101_3)).trans hw101_3),((HB.out.cell (World.block_lt_of_cell? w _ hw101_4)).trans hw101_4),((HB.out.cell (World.block_lt_of_cell? w _ hw102_0)).trans hw102_0),((HB.out.cell (World.block_lt_of_cell? w _ hw102_1)).trans hw102_1),((HB.out.cell (World.block_lt_of_cell? w _ hw102_2)).trans hw102_2),((HB.out.cell (World.block_lt_of_cell? w _ hw102_3)).trans hw102_3),((HB.out.cell (World.block_lt_of_cell? w _ hw102_4)).trans hw102_4)⟩ (fun hHeld => ?_)
        clear hK K
        refine norm_ (a' := ?_) ?_ ?_
        rotate_left
        ·show Act.put _ (some 25) _ = _
         simp only [Act.put,List.setIfInBounds_toArray,List.set_cons_zero,List.set_cons_succ,i64_w,i32_w]
         rfl
        refine pure_ (i := 9) (N := some 26) (v := ?_) (a' := ?_) #[true,true,true,true,true,true,true,true,true,true] rfl rfl (any_of HT_.out (by kernel_rfl)) (fun _ _ _ h => h) (Or.inl ⟨by rfl,?_⟩) ?_ ?_
        rotate_left
        ·intro w'
         go_simp
         with_reducible rfl
        rotate_left
        ·simp only [Act.put,List.setIfInBounds_toArray,List.set_cons_zero,List.set_cons_succ,i64_w,i32_w]
         rfl
        refine done_ (done_of HT_.out (by kernel_rfl)) ?_
        try go_wp2
        go_roundg k1
        case measure => have := HK1.out;omega
        case rel => exact ⟨(wrap64 (x5_1 + 1)),(by first | rfl | (simp;done) | (simp [*];done)),H',⟨by have := HK1.out;omega⟩,⟨by repeat (first | (with_reducible first | exact HB.out | apply qj | apply qz | apply qk) | exact HB.out)⟩⟩
       ·replace c8 := Bool.eq_false_iff.mpr c8
        subst c8
        have H1 : (some false) = some r := by rw [if_neg (show ¬ (false = true) by decide)] at H;exact H
        clear H
        have H := H1
        clear H1
        obtain rfl := Option.some.inj H
        try go_wp2
        have n0_ := qq.mk (qk HB.out)
        clear HB
        have HB := n0_
        clear n0_
        have p101 : 0 ≤ (x5_1 : Int) := of_decide_eq_true (by assumption)
        have q101 : x5_1 < (l0.length : Int) := of_decide_eq_true (by assumption)
        obtain ⟨ad101,A101_3,c101_3,A101_4,c101_4,e101,hx101_0,hx101_1,hx101_2,hx101_3,hx101_4,hl101_3,hi101_3,hl101_4,hi101_4⟩ := at_T27 HR0.out x5_1 p101 q101
        have hw101_4 := hx101_4
        have hw101_3 := hx101_3
        have hw101_2 := hx101_2
        have hw101_1 := hx101_1
        have hw101_0 := hx101_0
        cases e101
        replace hx101_0 := (HB.out.cell (World.block_lt_of_cell? w _ hx101_0)).trans hx101_0
        replace hx101_1 := (HB.out.cell (World.block_lt_of_cell? w _ hx101_1)).trans hx101_1
        replace hx101_2 := (HB.out.cell (World.block_lt_of_cell? w _ hx101_2)).trans hx101_2
        replace hx101_3 := (HB.out.cell (World.block_lt_of_cell? w _ hx101_3)).trans hx101_3
        replace hx101_4 := (HB.out.cell (World.block_lt_of_cell? w _ hx101_4)).trans hx101_4
        have HR101_3 := qq.mk hi101_3
        have HC101_3 := qq.mk hl101_3
        clear hi101_3 hl101_3
        have HR101_4 := qq.mk hi101_4
        have HC101_4 := qq.mk hl101_4
        clear hi101_4 hl101_4
        replace p101 := eq_true p101
        replace q101 := eq_true q101
        have p102 : 0 ≤ (x5_1 : Int) := of_decide_eq_true (by assumption)
        have q102 : x5_1 < (l1.length : Int) := of_decide_eq_true (by assumption)
        obtain ⟨ad102,A102_3,c102_3,A102_4,c102_4,e102,hx102_0,hx102_1,hx102_2,hx102_3,hx102_4,hl102_3,hi102_3,hl102_4,hi102_4⟩ := at_T27 HR1.out x5_1 p102 q102
        have hw102_4 := hx102_4
        have hw102_3 := hx102_3
        have hw102_2 := hx102_2
        have hw102_1 := hx102_1
        have hw102_0 := hx102_0
        cases e102
        replace hx102_0 := (HB.out.cell (World.block_lt_of_cell? w _ hx102_0)).trans hx102_0
        replace hx102_1 := (HB.out.cell (World.block_lt_of_cell? w _ hx102_1)).trans hx102_1
        replace hx102_2 := (HB.out.cell (World.block_lt_of_cell? w _ hx102_2)).trans hx102_2
        replace hx102_3 := (HB.out.cell (World.block_lt_of_cell? w _ hx102_3)).trans hx102_3
        replace hx102_4 := (HB.out.cell (World.block_lt_of_cell? w _ hx102_4)).trans hx102_4
        have HR102_3 := qq.mk hi102_3
        have HC102_3 := qq.mk hl102_3
        clear hi102_3 hl102_3
        have HR102_4 := qq.mk hi102_4
        have HC102_4 := qq.mk hl102_4
        clear hi102_4 hl102_4
        replace p102 := eq_true p102
        replace q102 := eq_true q102
        refine start_ (n := 10) (S := fun w' => w'.cell? (ad101.add ((x5_1).toNat * 5)) = some (.int .i64 ((wj l0 x5_1).f0)) ∧ w'.cell? ⟨(ad101.add ((x5_1).toNat * 5)).block,(ad101.add ((x5_1).toNat * 5)).off + 1,none⟩ = some (.string ((wj l0 x5_1).f1)) ∧ w'.cell? ⟨(ad101.add ((x5_1).toNat * 5)).block,(ad101.add ((x5_1).toNat * 5)).off + 2,none⟩ = some (.string ((wj l0 x5_1).f2)) ∧ w'.cell? ⟨(ad101.add ((x5_1).toNat * 5)).block,(ad101.add ((x5_1).toNat * 5)).off + 3,none⟩ = some (.slice A101_3 ((wj l0 x5_1).f3).length c101_3) ∧ w'.cell? ⟨(ad101.add ((x5_1).toNat * 5)).block,(ad101.add ((x5_1).toNat * 5)).off + 4,none⟩ = some (.slice A101_4 ((wj l0 x5_1).f4).length c101_4) ∧ w'.cell? (ad102.add ((x5_1).toNat * 5)) = some (.int .i64 ((wj l1 x5_1).f0)) ∧ w'.cell? ⟨(ad102.add ((x5_1).toNat * 5)).block,(ad102.add ((x5_1).toNat * 5)).off + 1,none⟩ = some (.string ((wj l1 x5_1).f1)) ∧ w'.cell? ⟨(ad102.add ((x5_1).toNat * 5)).block,(ad102.add ((x5_1).toNat * 5)).off + 2,none⟩ = some (.string ((wj l1 x5_1).f2)) ∧ w'.cell? ⟨(ad102.add ((x5_1).toNat * 5)).block,(ad102.add ((x5_1).toNat * 5)).off + 3,none⟩ = some (.slice A102_3 ((wj l1 x5_1).f3).length c102_3) ∧ w'.cell? ⟨(ad102.add ((x5_1).toNat * 5)).block,(ad102.add ((x5_1).toNat * 5)).off + 4,none⟩ = some (.slice A102_4 ((wj l1 x5_1).f4).length c102_4)) (ds := []) #[false,false,false,false,false,false,false,false,false,false] (by kernel_rfl) rfl rfl ⟨((HB.out.cell (World.block_lt_of_cell? w _ hw101_0)).trans hw101_0),((HB.out.cell (World.block_lt_of_cell? w _ hw101_1)).trans hw101_1),((HB.out.cell (World.block_lt_of_cell? w _ hw101_2)).trans hw101_2),((HB.out.cell (World.block_lt_of_cell? w _ hw101_3)).trans hw101_3),((HB.out.cell (World.block_lt_of_cell? w _ hw101_4)).trans hw101_4),((HB.out.cell (World.block_lt_of_cell? w _ hw102_0)).trans hw102_0),((HB.out.cell (World.block_lt_of_cell? w _ hw102_1)).trans hw102_1),((HB.out.cell (World.block_lt_of_cell? w _ hw102_2)).trans hw102_2),((HB.out.cell (World.block_lt_of_cell? w _ hw102_3)).trans hw102_3),((HB.out.cell (World.block_lt_of_cell? w _ hw102_4)).trans hw102_4)⟩ (fun hHeld => ?_);refine with_tabW qzj.tab6 qzj.bits6 (fun HT_ HW_ => ?_)
        generalize wr.drew = w11 at HB HR101_3 HR101_4 HR102_3 HR102_4 hx101_0 hx101_1 hx101_2 hx101_3 hx101_4 hx102_0 hx102_1 hx102_2 hx102_3 hx102_4 hHeld ⊢
        refine pure_ (i := 0) (N := some 17) (v := ?_) (a' := ?_) #[true,false,false,false,false,false,false,false,false,false] rfl rfl (any_of HT_.out (by kernel_rfl)) (fun _ _ _ h => h) (Or.inl ⟨by rfl,?_⟩) ?_ ?_
        rotate_left
        ·intro w'
         go_simp
         with_reducible rfl
        rotate_left
        ·simp only [Act.put,List.setIfInBounds_toArray,List.set_cons_zero,List.set_cons_succ,i64_w,i32_w]
         rfl
        refine pure_ (i := 1) (N := some 18) (v := ?_) (a' := ?_) #[true,true,false,false,false,false,false,false,false,false] rfl rfl (any_of HT_.out (by kernel_rfl)) (fun _ _ _ h => h) (Or.inl ⟨by rfl,?_⟩) ?_ ?_
        rotate_left
        ·intro w'
         go_simp
         with_reducible rfl
        rotate_left
        ·simp only [Act.put,List.setIfInBounds_toArray,List.set_cons_zero,List.set_cons_succ,i64_w,i32_w]
         rfl
        refine pure_ (i := 2) (N := some 19) (v := ?_) (a' := ?_) #[true,true,true,false,false,false,false,false,false,false] rfl rfl (any_of HT_.out (by kernel_rfl)) (fun _ _ _ h => h) (Or.inl ⟨by rfl,?_⟩) ?_ ?_
        rotate_left
        ·intro w'
         go_simp
         with_reducible rfl
        rotate_left
        ·simp only [Act.put,List.setIfInBounds_toArray,List.set_cons_zero,List.set_cons_succ,i64_w,i32_w]
         rfl
        refine pure_ (i := 4) (N := some 21) (v := ?_) (a' := ?_) #[true,true,true,false,true,false,false,false,false,false] rfl rfl (any_of HT_.out (by kernel_rfl)) (fun _ _ _ h => h) (Or.inl ⟨by rfl,?_⟩) ?_ ?_
        rotate_left
        ·intro w'
         go_simp
         with_reducible rfl
        rotate_left
        ·simp only [Act.put,List.setIfInBounds_toArray,List.set_cons_zero,List.set_cons_succ,i64_w,i32_w]
         rfl
        refine pure_ (i := 5) (N := some 22) (v := ?_) (a' := ?_) #[true,true,true,false,true,true,false,false,false,false] rfl rfl (any_of HT_.out (by kernel_rfl)) (fun _ _ _ h => h) (Or.inl ⟨by rfl,?_⟩) ?_ ?_
        rotate_left
        ·intro w'
         go_simp
         with_reducible rfl
        rotate_left
        ·simp only [Act.put,List.setIfInBounds_toArray,List.set_cons_zero,List.set_cons_succ,i64_w,i32_w]
         rfl
        refine pure_ (i := 6) (N := some 23) (v := ?_) (a' := ?_) #[true,true,true,false,true,true,true,false,false,false] rfl rfl (any_of HT_.out (by kernel_rfl)) (fun _ _ _ h => h) (Or.inl ⟨by rfl,?_⟩) ?_ ?_
        rotate_left
        ·intro w'
         go_simp
         with_reducible rfl
        rotate_left
        ·simp only [Act.put,List.setIfInBounds_toArray,List.set_cons_zero,List.set_cons_succ,i64_w,i32_w]
         rfl
        refine take_ (i := 3) (N := some 20) (v := ?_) (a' := ?_) #[true,true,true,true,true,true,true,false,false,false] rfl rfl (take_ofW HT_.out HW_.out (by kernel_rfl)) (fun _ _ _ h => h) (Or.inl ⟨by rfl,?_⟩) hHeld ?_ ?_
        rotate_left
        ·rintro w' ⟨s0,s1,s2,s3,s4,s5,s6,s7,s8,s9⟩
         go_simp
         with_reducible rfl
        rotate_left
        ·simp only [Act.put,List.setIfInBounds_toArray,List.set_cons_zero,List.set_cons_succ,i64_w,i32_w]
         rfl
        refine take_ (i := 7) (N := some 24) (v := ?_) (a' := ?_) #[true,true,true,true,true,true,true,true,false,false] rfl rfl (take_ofW HT_.out HW_.out (by kernel_rfl)) (fun _ _ _ h => h) (Or.inl ⟨by rfl,?_⟩) hHeld ?_ ?_
        rotate_left
        ·rintro w' ⟨s0,s1,s2,s3,s4,s5,s6,s7,s8,s9⟩
         go_simp
         with_reducible rfl
        rotate_left
        ·simp only [Act.put,List.setIfInBounds_toArray,List.set_cons_zero,List.set_cons_succ,i64_w,i32_w]
         rfl
        refine one_ (i := 8) (N := some 25) #[true,true,true,true,true,true,true,true,true,false] rfl rfl (one_of HT_.out (by kernel_rfl)) (by decide) (fun K hK => ?_)
        refine goes_ Try.func21 (by kernel_rfl) rfl #[.agg #[.int .i64 ((wj l0 x5_1).f0),.string ((wj l0 x5_1).f1),.string ((wj l0 x5_1).f2),.slice A101_3 ((wj l0 x5_1).f3).length c101_3,.slice A101_4 ((wj l0 x5_1).f4).length c101_4],.agg #[.int .i64 ((wj l1 x5_1).f0),.string ((wj l1 x5_1).f1),.string ((wj l1 x5_1).f2),.slice A102_3 ((wj l1 x5_1).f3).length c102_3,.slice A102_4 ((wj l1 x5_1).f4).length c102_4]] (by rfl) rfl rfl (by (try simp only [List.map_toArray,List.map_cons,List.map_nil]);first | done | rfl | (simp only [List.length_drop,List.length_take];rfl)) ?_
        with_reducible refine (qzz.calls k1 ((wj l0 x5_1).f0) ((wj l0 x5_1).f1) ((wj l0 x5_1).f2) _ _ ((wj l0 x5_1).f3) _ _ ((wj l0 x5_1).f4) ((wj l1 x5_1).f0) ((wj l1 x5_1).f1) ((wj l1 x5_1).f2) _ _ ((wj l1 x5_1).f3) _ _ ((wj l1 x5_1).f4) false _ ?side1 ?side2 ?side3 ?side4 ?side5 ?side6 ?side7 ?side8 A7.out).mono ?_
        (case side1 => repeat (first | exact (Kd.C_below HR101_3.out HB.out) | (with_reducible refine Kd.C_alloc ?_ _) | (with_reducible refine Kd.C_drewN ?_ _) | (with_reducible refine Kd.C_drew ?_)))
        (case side2 => exact HC101_3.out)
        (case side3 => repeat (first | exact (Kd.C_below HR101_4.out HB.out) | (with_reducible refine Kd.C_alloc ?_ _) | (with_reducible refine Kd.C_drewN ?_ _) | (with_reducible refine Kd.C_drew ?_)))
        (case side4 => exact HC101_4.out)
        (case side5 => repeat (first | exact (Kd.C_below HR102_3.out HB.out) | (with_reducible refine Kd.C_alloc ?_ _) | (with_reducible refine Kd.C_drewN ?_ _) | (with_reducible refine Kd.C_drew ?_)))
        (case side6 => exact HC102_3.out)
        (case side7 => repeat (first | exact (Kd.C_below HR102_4.out HB.out) | (with_reducible refine Kd.C_alloc ?_ _) | (with_reducible refine Kd.C_drewN ?_ _) | (with_reducible refine Kd.C_drew ?_)))
        (case side8 => exact HC102_4.out)
        rintro e w12 ⟨rfl,hb⟩
        refine ⟨_,rfl,?_⟩
        have n0_ := qq.mk (zv (by repeat (first | (with_reducible first | exact HB.out | apply qj | apply qz | apply qk) | exact HB.out)) hb)
        clear HB
        have HB := n0_
        clear n0_
        (try clear hb)
        (try clear hb2)
        (try clear hk)
        (try clear hi)
        refine hK.out _ _ ⟨((HB.out.cell (World.block_lt_of_cell? w _ hw101_0)).trans hw101_0),((HB.out.cell (World.block_lt_of_cell? w _ hw101_1)).trans hw101_1),((HB.out.cell (World.block_lt_of_cell? w _ hw101_2)).trans hw101_2),((HB.out.cell (World.block_lt_of_cell? w _ hw101_3)).trans hw101_3),((HB.out.cell (World.block_lt_of_cell? w _ hw101_4)).trans hw101_4),((HB.out.cell (World.block_lt_of_cell? w _ hw102_0)).trans hw102_0),((HB.out.cell (World.block_lt_of_cell? w _ hw102_1)).trans hw102_1),((HB.out.cell (World.block_lt_of_cell? w _ hw102_2)).trans hw102_2),((HB.out.cell (World.block_lt_of_cell? w _ hw102_3)).trans hw102_3),((HB.out.cell (World.block_lt_of_cell? w _ hw102_4)).trans hw102_4)⟩ (fun hHeld => ?_)
        clear hK K
        refine norm_ (a' := ?_) ?_ ?_
        rotate_left
        ·show Act.put _ (some 25) _ = _
         simp only [Act.put,List.setIfInBounds_toArray,List.set_cons_zero,List.set_cons_succ,i64_w,i32_w]
         rfl
        refine pure_ (i := 9) (N := some 26) (v := ?_) (a' := ?_) #[true,true,true,true,true,true,true,true,true,true] rfl rfl (any_of HT_.out (by kernel_rfl)) (fun _ _ _ h => h) (Or.inl ⟨by rfl,?_⟩) ?_ ?_
        rotate_left
        ·intro w'
         go_simp
         with_reducible rfl
        rotate_left
        ·simp only [Act.put,List.setIfInBounds_toArray,List.set_cons_zero,List.set_cons_succ,i64_w,i32_w]
         rfl
        refine done_ (done_of HT_.out (by kernel_rfl)) ?_
        try go_wp2
        go_ret
        exact ⟨by first | rfl | (simp [*,jk,jj] <;> rfl),by repeat (first | (with_reducible first | exact HB.out | apply qj | apply qz | apply qk) | exact HB.out)⟩
      ·rw [if_neg c6] at H
       exact absurd H (by simp)
     ·rw [if_neg c5] at H
      exact absurd H (by simp)
    ·rw [if_neg c4] at H
     have c4b0 : decide (x5_1 < (l0.length : Int)) = false := decide_eq_false c4
     clear c4
     obtain rfl := Option.some.inj H
     go_wp2
     go_ret
     exact ⟨by first | rfl | (simp [*,jk,jj] <;> rfl),by repeat (first | (with_reducible first | exact HB.out | apply qj | apply qz | apply qk) | exact HB.out)⟩
 ·rw [if_neg c3] at H
  have c3b0 : ((l0.length : Int) == (l1.length : Int)) = false := beq_eq_false_iff_ne.mpr c3
  have c3b1 : ((l0.length : Int) != (l1.length : Int)) = true := bne_iff_ne.mpr c3
  have c3b2 : (l0.length == l1.length) = false := by first | simpa using c3 | (simp at c3 ⊢;omega)
  obtain rfl := Option.some.inj H
  go_enter Try.func37,Try.ntmps37
  go_wp2
  go_ret
  exact ⟨by first | rfl | (simp [*,jk,jj] <;> rfl),by repeat (first | (with_reducible first | exact HB.out | apply qj | apply qz | apply qk) | exact HB.out)⟩
theorem qkz.callsVBridge (k : Nat) (v : Value) (l0 : List (S27)) (a1 : Int) (r : List (List Int)) (w : World) {base : Nat} {ok : Nat → Prop} (hV : Kd.V k27 27 w base ok v l0) (h : qkz.f k l0 a1 = some r) :
  Calls Try.prog 44 #[v,.int .i64 a1] w fun e w' => ∃ v0_ : Value,e = .returned (v0_) ∧ Kd.N (Kd.slice 5 (Kd.int .u8)) 22 w' w.heap.size (fun k_ => (w.heap.size ≤ k_)) v0_ r ∧ Below w.heap.size w w' := by
 obtain ⟨A,c,rfl,hl,hf⟩ := hV
 exact qkz.calls k A c l0 a1 r w (Kd.F_now hf) hl h
theorem wx.callsVBridge (k : Nat) (v : Value) (l0 : List (S27)) (a1 : Int) (r : List (List Int)) (w : World) {base : Nat} {ok : Nat → Prop} (hV : Kd.V k27 27 w base ok v l0) (h : wx.f k l0 a1 = some r) :
  Calls Try.prog 45 #[v,.int .i64 a1] w fun e w' => ∃ v0_ : Value,e = .returned (v0_) ∧ Kd.S (Kd.slice 5 (Kd.int .u8)) 22 w' w.heap.size (fun _ => True) v0_ r ∧ Below w.heap.size w w' := by
 obtain ⟨A,c,rfl,hl,hf⟩ := hV
 exact wx.calls k A c l0 a1 r w (Kd.F_now hf) hl h
theorem qzq.callsVBridge (k : Nat) (v v2 : Value) (l0 l1 : List (List Int)) (r : Bool) (w : World) {base base2 : Nat} {ok ok2 : Nat → Prop} (hV : Kd.V (Kd.slice 5 (Kd.int .u8)) 22 w base ok v l0) (hV2 : Kd.V (Kd.slice 5 (Kd.int .u8)) 22 w base2 ok2 v2 l1) (h : qzq.f k l0 l1 = some r) :
  Calls Try.prog 41 #[v,v2] w fun e w' => e = .returned (.bool r) ∧ Drawn0 w w' := by
 obtain ⟨A,c,rfl,hl,hf⟩ := hV
 obtain ⟨A2,c2,rfl,hl2,hf2⟩ := hV2
 exact qzq.calls k A c l0 A2 c2 l1 r w (Kd.F_now hf) hl (Kd.F_now hf2) hl2 h
theorem qzj.callsVBridge (k : Nat) (v v2 : Value) (l0 l1 : List (S27)) (r : Bool) (w : World) {base base2 : Nat} {ok ok2 : Nat → Prop} (hV : Kd.V k27 27 w base ok v l0) (hV2 : Kd.V k27 27 w base2 ok2 v2 l1) (h : qzj.f k l0 l1 = some r) :
  Calls Try.prog 37 #[v,v2] w fun e w' => e = .returned (.bool r) ∧ Below w.heap.size w w' := by
 obtain ⟨A,c,rfl,hl,hf⟩ := hV
 obtain ⟨A2,c2,rfl,hl2,hf2⟩ := hV2
 exact qzj.calls k A c l0 A2 c2 l1 r w (Kd.F_now hf) hl (Kd.F_now hf2) hl2 h
theorem qzv.callsVBridge (k : Nat) (v : Value) (l0 : List (List Int)) (a1 r : Int) (w : World) {base : Nat} {ok : Nat → Prop} (hV : Kd.V (Kd.slice 5 (Kd.int .u8)) 22 w base ok v l0) (h : qzv.f k l0 a1 = some r) :
  Calls Try.prog 43 #[v,.int .i64 a1] w fun e w' => e = .returned (.int .i64 r) ∧ Drawn0 w w' := by
 obtain ⟨A,c,rfl,hl,hf⟩ := hV
 exact qzv.calls k A c l0 a1 r w (Kd.F_now hf) hl h
def qqw.f (k : Nat) (l0 : List (S24)) (a1 : Int) : Option (Bool) := (qjk.f k l0 1048576).bind fun t101 => (if t101 < 0 then (some true) else ((qjx.f k l0).bind fun t102 => ((qkz.f k t102 a1).bind fun t105 => ((qjx.f k l0).bind fun t108 => ((wx.f k t108 a1).bind fun t111 => ((qzq.f k t111 t105).bind fun t114 => (if t114 = true then ((qjx.f k l0).bind fun t115 => ((qzj.f k t108 t115).bind fun t118 => (if t118 = true then ((qzx.f t108 1).bind fun t119 => (if t119 < 0 then (none) else ((qzq.f k t111 t105).bind fun t120 => (if t120 = true then ((qzw.f t111 1).bind fun t121 => ((qzv.f k (markRows t111 1) 1).bind fun t122 => (if t122 < 0 then (none) else (if t122 = t121 then ((qjx.f k l0).bind fun t123 => ((wx.f k t123 a1).bind fun t126 => ((qzq.f k t126 t105).bind fun t129 => (if t129 = true then ((qzv.f k (markRows t111 1) 1).bind fun t130 => (if t130 < 0 then (none) else (if t130 = t121 then (some true) else (none)))) else (none))))) else (none))))) else (none))))) else (none)))) else (none))))))))
set_option maxHeartbeats 8000000 in
set_option maxRecDepth 100000 in
theorem qqw.calls (k : Nat) (A0 : Option Addr) (c0 : Nat) (l0 : List (S24)) (a1 : Int) (r : Bool) (w : World) (hr0 : Kd.C k24 w A0 l0.length l0) (hc0 : l0.length ≤ c0) (h : qqw.f k l0 a1 = some r) :
  Calls Try.prog 9 #[.slice A0 l0.length c0,.int .i64 a1] w fun e w' => e = .returned (.bool r) ∧ Below w.heap.size w w' := by
 have HR0 := qq.mk hr0
 have HC0 := qq.mk hc0
 clear hr0 hc0
 have HB := qq.mk (Below.refl w.heap.size w)
 have H : ((qjk.f k l0 1048576).bind fun t101 => (if t101 < 0 then (some true) else ((qjx.f k l0).bind fun t102 => ((qkz.f k t102 a1).bind fun t105 => ((qjx.f k l0).bind fun t108 => ((wx.f k t108 a1).bind fun t111 => ((qzq.f k t111 t105).bind fun t114 => (if t114 = true then ((qjx.f k l0).bind fun t115 => ((qzj.f k t108 t115).bind fun t118 => (if t118 = true then ((qzx.f t108 1).bind fun t119 => (if t119 < 0 then (none) else ((qzq.f k t111 t105).bind fun t120 => (if t120 = true then ((qzw.f t111 1).bind fun t121 => ((qzv.f k (markRows t111 1) 1).bind fun t122 => (if t122 < 0 then (none) else (if t122 = t121 then ((qjx.f k l0).bind fun t123 => ((wx.f k t123 a1).bind fun t126 => ((qzq.f k t126 t105).bind fun t129 => (if t129 = true then ((qzv.f k (markRows t111 1) 1).bind fun t130 => (if t130 < 0 then (none) else (if t130 = t121 then (some true) else (none)))) else (none))))) else (none))))) else (none))))) else (none)))) else (none))))))))) = some r := h
 clear h
 replace H := Option.bind_eq_some_iff.mp H
 obtain ⟨t101,A30,H⟩ := H
 replace H : (if t101 < 0 then (some true) else ((qjx.f k l0).bind fun t102 => ((qkz.f k t102 a1).bind fun t105 => ((qjx.f k l0).bind fun t108 => ((wx.f k t108 a1).bind fun t111 => ((qzq.f k t111 t105).bind fun t114 => (if t114 = true then ((qjx.f k l0).bind fun t115 => ((qzj.f k t108 t115).bind fun t118 => (if t118 = true then ((qzx.f t108 1).bind fun t119 => (if t119 < 0 then (none) else ((qzq.f k t111 t105).bind fun t120 => (if t120 = true then ((qzw.f t111 1).bind fun t121 => ((qzv.f k (markRows t111 1) 1).bind fun t122 => (if t122 < 0 then (none) else (if t122 = t121 then ((qjx.f k l0).bind fun t123 => ((wx.f k t123 a1).bind fun t126 => ((qzq.f k t126 t105).bind fun t129 => (if t129 = true then ((qzv.f k (markRows t111 1) 1).bind fun t130 => (if t130 < 0 then (none) else (if t130 = t121 then (some true) else (none)))) else (none))))) else (none))))) else (none))))) else (none)))) else (none)))))))) = some r := H
 have A3 := qq.mk A30
 clear A30
 by_cases c4 : t101 < 0
 ·rw [if_pos c4] at H
  have c4b0 : decide (t101 < 0) = true := decide_eq_true c4
  clear c4
  obtain rfl := Option.some.inj H
  go_enter Try.func9,Try.ntmps9
  go_wp2_with (first | ((with_reducible refine jv (f := 33) rfl ?_);refine goesL_ (some 15) rfl rfl Try.func33 (by kernel_rfl) rfl #[.slice A0 l0.length c0,.int .i64 1048576] rfl (by (try simp only [List.map_toArray,List.map_cons,List.map_nil]);first | done | rfl | (simp only [List.length_drop,List.length_take];rfl)) ?_;(with_reducible refine (qjk.calls k _ _ l0 1048576 t101 _ ?side1 ?side2 A3.out).mono ?_);(case side1 => repeat (first | exact HR0.out | (with_reducible refine Kd.C_alloc ?_ _) | (with_reducible refine Kd.C_drewN ?_ _) | (with_reducible refine Kd.C_drew ?_)));(case side2 => exact HC0.out);rintro e w5 ⟨rfl,hb⟩;refine ⟨_,rfl,?_⟩;have n0_ := qq.mk (zv (by repeat (first | (with_reducible first | exact HB.out | apply qj | apply qz | apply qk) | exact HB.out)) hb);clear HB;have HB := n0_;clear n0_;(try clear hb);(try clear hb2);(try clear hk);(try clear hi)))
  go_ret
  exact ⟨by first | rfl | (simp [*,jk,jj] <;> rfl),by repeat (first | (with_reducible first | exact HB.out | apply qj | apply qz | apply qk) | exact HB.out)⟩
 ·rw [if_neg c4] at H
  have c4b0 : decide (t101 < 0) = false := decide_eq_false c4
  clear c4
  replace H := Option.bind_eq_some_iff.mp H
  obtain ⟨t102,A60,H⟩ := H
  replace H : ((qkz.f k t102 a1).bind fun t105 => ((qjx.f k l0).bind fun t108 => ((wx.f k t108 a1).bind fun t111 => ((qzq.f k t111 t105).bind fun t114 => (if t114 = true then ((qjx.f k l0).bind fun t115 => ((qzj.f k t108 t115).bind fun t118 => (if t118 = true then ((qzx.f t108 1).bind fun t119 => (if t119 < 0 then (none) else ((qzq.f k t111 t105).bind fun t120 => (if t120 = true then ((qzw.f t111 1).bind fun t121 => ((qzv.f k (markRows t111 1) 1).bind fun t122 => (if t122 < 0 then (none) else (if t122 = t121 then ((qjx.f k l0).bind fun t123 => ((wx.f k t123 a1).bind fun t126 => ((qzq.f k t126 t105).bind fun t129 => (if t129 = true then ((qzv.f k (markRows t111 1) 1).bind fun t130 => (if t130 < 0 then (none) else (if t130 = t121 then (some true) else (none)))) else (none))))) else (none))))) else (none))))) else (none)))) else (none)))))) = some r := H
  have A6 := qq.mk A60
  clear A60
  replace H := Option.bind_eq_some_iff.mp H
  obtain ⟨t105,A70,H⟩ := H
  replace H : ((qjx.f k l0).bind fun t108 => ((wx.f k t108 a1).bind fun t111 => ((qzq.f k t111 t105).bind fun t114 => (if t114 = true then ((qjx.f k l0).bind fun t115 => ((qzj.f k t108 t115).bind fun t118 => (if t118 = true then ((qzx.f t108 1).bind fun t119 => (if t119 < 0 then (none) else ((qzq.f k t111 t105).bind fun t120 => (if t120 = true then ((qzw.f t111 1).bind fun t121 => ((qzv.f k (markRows t111 1) 1).bind fun t122 => (if t122 < 0 then (none) else (if t122 = t121 then ((qjx.f k l0).bind fun t123 => ((wx.f k t123 a1).bind fun t126 => ((qzq.f k t126 t105).bind fun t129 => (if t129 = true then ((qzv.f k (markRows t111 1) 1).bind fun t130 => (if t130 < 0 then (none) else (if t130 = t121 then (some true) else (none)))) else (none))))) else (none))))) else (none))))) else (none)))) else (none))))) = some r := H
  have A7 := qq.mk A70
  clear A70
  replace H := Option.bind_eq_some_iff.mp H
  obtain ⟨t108,A80,H⟩ := H
  replace H : ((wx.f k t108 a1).bind fun t111 => ((qzq.f k t111 t105).bind fun t114 => (if t114 = true then ((qjx.f k l0).bind fun t115 => ((qzj.f k t108 t115).bind fun t118 => (if t118 = true then ((qzx.f t108 1).bind fun t119 => (if t119 < 0 then (none) else ((qzq.f k t111 t105).bind fun t120 => (if t120 = true then ((qzw.f t111 1).bind fun t121 => ((qzv.f k (markRows t111 1) 1).bind fun t122 => (if t122 < 0 then (none) else (if t122 = t121 then ((qjx.f k l0).bind fun t123 => ((wx.f k t123 a1).bind fun t126 => ((qzq.f k t126 t105).bind fun t129 => (if t129 = true then ((qzv.f k (markRows t111 1) 1).bind fun t130 => (if t130 < 0 then (none) else (if t130 = t121 then (some true) else (none)))) else (none))))) else (none))))) else (none))))) else (none)))) else (none)))) = some r := H
  have A8 := qq.mk A80
  clear A80
  replace H := Option.bind_eq_some_iff.mp H
  obtain ⟨t111,A90,H⟩ := H
  replace H : ((qzq.f k t111 t105).bind fun t114 => (if t114 = true then ((qjx.f k l0).bind fun t115 => ((qzj.f k t108 t115).bind fun t118 => (if t118 = true then ((qzx.f t108 1).bind fun t119 => (if t119 < 0 then (none) else ((qzq.f k t111 t105).bind fun t120 => (if t120 = true then ((qzw.f t111 1).bind fun t121 => ((qzv.f k (markRows t111 1) 1).bind fun t122 => (if t122 < 0 then (none) else (if t122 = t121 then ((qjx.f k l0).bind fun t123 => ((wx.f k t123 a1).bind fun t126 => ((qzq.f k t126 t105).bind fun t129 => (if t129 = true then ((qzv.f k (markRows t111 1) 1).bind fun t130 => (if t130 < 0 then (none) else (if t130 = t121 then (some true) else (none)))) else (none))))) else (none))))) else (none))))) else (none)))) else (none))) = some r := H
  have A9 := qq.mk A90
  clear A90
  replace H := Option.bind_eq_some_iff.mp H
  obtain ⟨t114,A100,H⟩ := H
  replace H : (if t114 = true then ((qjx.f k l0).bind fun t115 => ((qzj.f k t108 t115).bind fun t118 => (if t118 = true then ((qzx.f t108 1).bind fun t119 => (if t119 < 0 then (none) else ((qzq.f k t111 t105).bind fun t120 => (if t120 = true then ((qzw.f t111 1).bind fun t121 => ((qzv.f k (markRows t111 1) 1).bind fun t122 => (if t122 < 0 then (none) else (if t122 = t121 then ((qjx.f k l0).bind fun t123 => ((wx.f k t123 a1).bind fun t126 => ((qzq.f k t126 t105).bind fun t129 => (if t129 = true then ((qzv.f k (markRows t111 1) 1).bind fun t130 => (if t130 < 0 then (none) else (if t130 = t121 then (some true) else (none)))) else (none))))) else (none))))) else (none))))) else (none)))) else (none)) = some r := H
  have A10 := qq.mk A100
  clear A100
  by_cases c11 : t114 = true
  ·subst c11
   have H1 : ((qjx.f k l0).bind fun t115 => ((qzj.f k t108 t115).bind fun t118 => (if t118 = true then ((qzx.f t108 1).bind fun t119 => (if t119 < 0 then (none) else ((qzq.f k t111 t105).bind fun t120 => (if t120 = true then ((qzw.f t111 1).bind fun t121 => ((qzv.f k (markRows t111 1) 1).bind fun t122 => (if t122 < 0 then (none) else (if t122 = t121 then ((qjx.f k l0).bind fun t123 => ((wx.f k t123 a1).bind fun t126 => ((qzq.f k t126 t105).bind fun t129 => (if t129 = true then ((qzv.f k (markRows t111 1) 1).bind fun t130 => (if t130 < 0 then (none) else (if t130 = t121 then (some true) else (none)))) else (none))))) else (none))))) else (none))))) else (none)))) = some r := by rw [if_pos rfl] at H;exact H
   clear H
   have H := H1
   clear H1
   replace H := Option.bind_eq_some_iff.mp H
   obtain ⟨t115,A120,H⟩ := H
   replace H : ((qzj.f k t108 t115).bind fun t118 => (if t118 = true then ((qzx.f t108 1).bind fun t119 => (if t119 < 0 then (none) else ((qzq.f k t111 t105).bind fun t120 => (if t120 = true then ((qzw.f t111 1).bind fun t121 => ((qzv.f k (markRows t111 1) 1).bind fun t122 => (if t122 < 0 then (none) else (if t122 = t121 then ((qjx.f k l0).bind fun t123 => ((wx.f k t123 a1).bind fun t126 => ((qzq.f k t126 t105).bind fun t129 => (if t129 = true then ((qzv.f k (markRows t111 1) 1).bind fun t130 => (if t130 < 0 then (none) else (if t130 = t121 then (some true) else (none)))) else (none))))) else (none))))) else (none))))) else (none))) = some r := H
   have A12 := qq.mk A120
   clear A120
   replace H := Option.bind_eq_some_iff.mp H
   obtain ⟨t118,A130,H⟩ := H
   replace H : (if t118 = true then ((qzx.f t108 1).bind fun t119 => (if t119 < 0 then (none) else ((qzq.f k t111 t105).bind fun t120 => (if t120 = true then ((qzw.f t111 1).bind fun t121 => ((qzv.f k (markRows t111 1) 1).bind fun t122 => (if t122 < 0 then (none) else (if t122 = t121 then ((qjx.f k l0).bind fun t123 => ((wx.f k t123 a1).bind fun t126 => ((qzq.f k t126 t105).bind fun t129 => (if t129 = true then ((qzv.f k (markRows t111 1) 1).bind fun t130 => (if t130 < 0 then (none) else (if t130 = t121 then (some true) else (none)))) else (none))))) else (none))))) else (none))))) else (none)) = some r := H
   have A13 := qq.mk A130
   clear A130
   by_cases c14 : t118 = true
   ·subst c14
    have H1 : ((qzx.f t108 1).bind fun t119 => (if t119 < 0 then (none) else ((qzq.f k t111 t105).bind fun t120 => (if t120 = true then ((qzw.f t111 1).bind fun t121 => ((qzv.f k (markRows t111 1) 1).bind fun t122 => (if t122 < 0 then (none) else (if t122 = t121 then ((qjx.f k l0).bind fun t123 => ((wx.f k t123 a1).bind fun t126 => ((qzq.f k t126 t105).bind fun t129 => (if t129 = true then ((qzv.f k (markRows t111 1) 1).bind fun t130 => (if t130 < 0 then (none) else (if t130 = t121 then (some true) else (none)))) else (none))))) else (none))))) else (none))))) = some r := by rw [if_pos rfl] at H;exact H
    clear H
    have H := H1
    clear H1
    replace H := Option.bind_eq_some_iff.mp H
    obtain ⟨t119,A150,H⟩ := H
    replace H : (if t119 < 0 then (none) else ((qzq.f k t111 t105).bind fun t120 => (if t120 = true then ((qzw.f t111 1).bind fun t121 => ((qzv.f k (markRows t111 1) 1).bind fun t122 => (if t122 < 0 then (none) else (if t122 = t121 then ((qjx.f k l0).bind fun t123 => ((wx.f k t123 a1).bind fun t126 => ((qzq.f k t126 t105).bind fun t129 => (if t129 = true then ((qzv.f k (markRows t111 1) 1).bind fun t130 => (if t130 < 0 then (none) else (if t130 = t121 then (some true) else (none)))) else (none))))) else (none))))) else (none)))) = some r := H
    have A15 := qq.mk A150
    clear A150
    by_cases c16 : t119 < 0
    ·rw [if_pos c16] at H
     exact absurd H (by simp)
    ·rw [if_neg c16] at H
     have c16b0 : decide (t119 < 0) = false := decide_eq_false c16
     clear c16
     replace H := Option.bind_eq_some_iff.mp H
     obtain ⟨t120,A170,H⟩ := H
     replace H : (if t120 = true then ((qzw.f t111 1).bind fun t121 => ((qzv.f k (markRows t111 1) 1).bind fun t122 => (if t122 < 0 then (none) else (if t122 = t121 then ((qjx.f k l0).bind fun t123 => ((wx.f k t123 a1).bind fun t126 => ((qzq.f k t126 t105).bind fun t129 => (if t129 = true then ((qzv.f k (markRows t111 1) 1).bind fun t130 => (if t130 < 0 then (none) else (if t130 = t121 then (some true) else (none)))) else (none))))) else (none))))) else (none)) = some r := H
     have A17 := qq.mk A170
     clear A170
     by_cases c18 : t120 = true
     ·subst c18
      have H1 : ((qzw.f t111 1).bind fun t121 => ((qzv.f k (markRows t111 1) 1).bind fun t122 => (if t122 < 0 then (none) else (if t122 = t121 then ((qjx.f k l0).bind fun t123 => ((wx.f k t123 a1).bind fun t126 => ((qzq.f k t126 t105).bind fun t129 => (if t129 = true then ((qzv.f k (markRows t111 1) 1).bind fun t130 => (if t130 < 0 then (none) else (if t130 = t121 then (some true) else (none)))) else (none))))) else (none))))) = some r := by rw [if_pos rfl] at H;exact H
      clear H
      have H := H1
      clear H1
      replace H := Option.bind_eq_some_iff.mp H
      obtain ⟨t121,A190,H⟩ := H
      replace H : ((qzv.f k (markRows t111 1) 1).bind fun t122 => (if t122 < 0 then (none) else (if t122 = t121 then ((qjx.f k l0).bind fun t123 => ((wx.f k t123 a1).bind fun t126 => ((qzq.f k t126 t105).bind fun t129 => (if t129 = true then ((qzv.f k (markRows t111 1) 1).bind fun t130 => (if t130 < 0 then (none) else (if t130 = t121 then (some true) else (none)))) else (none))))) else (none)))) = some r := H
      have A19 := qq.mk A190
      clear A190
      replace H := Option.bind_eq_some_iff.mp H
      obtain ⟨t122,A200,H⟩ := H
      replace H : (if t122 < 0 then (none) else (if t122 = t121 then ((qjx.f k l0).bind fun t123 => ((wx.f k t123 a1).bind fun t126 => ((qzq.f k t126 t105).bind fun t129 => (if t129 = true then ((qzv.f k (markRows t111 1) 1).bind fun t130 => (if t130 < 0 then (none) else (if t130 = t121 then (some true) else (none)))) else (none))))) else (none))) = some r := H
      have A20 := qq.mk A200
      clear A200
      by_cases c21 : t122 < 0
      ·rw [if_pos c21] at H
       exact absurd H (by simp)
      ·rw [if_neg c21] at H
       have c21b0 : decide (t122 < 0) = false := decide_eq_false c21
       clear c21
       by_cases c22 : t122 = t121
       ·rw [if_pos c22] at H
        have c22b0 : (t122 == t121) = true := beq_iff_eq.mpr c22
        have c22b1 : (t122 != t121) = false := bne_eq_false_iff_eq.mpr c22
        clear c22
        replace H := Option.bind_eq_some_iff.mp H
        obtain ⟨t123,A230,H⟩ := H
        replace H : ((wx.f k t123 a1).bind fun t126 => ((qzq.f k t126 t105).bind fun t129 => (if t129 = true then ((qzv.f k (markRows t111 1) 1).bind fun t130 => (if t130 < 0 then (none) else (if t130 = t121 then (some true) else (none)))) else (none)))) = some r := H
        have A23 := qq.mk A230
        clear A230
        replace H := Option.bind_eq_some_iff.mp H
        obtain ⟨t126,A240,H⟩ := H
        replace H : ((qzq.f k t126 t105).bind fun t129 => (if t129 = true then ((qzv.f k (markRows t111 1) 1).bind fun t130 => (if t130 < 0 then (none) else (if t130 = t121 then (some true) else (none)))) else (none))) = some r := H
        have A24 := qq.mk A240
        clear A240
        replace H := Option.bind_eq_some_iff.mp H
        obtain ⟨t129,A250,H⟩ := H
        replace H : (if t129 = true then ((qzv.f k (markRows t111 1) 1).bind fun t130 => (if t130 < 0 then (none) else (if t130 = t121 then (some true) else (none)))) else (none)) = some r := H
        have A25 := qq.mk A250
        clear A250
        by_cases c26 : t129 = true
        ·subst c26
         have H1 : ((qzv.f k (markRows t111 1) 1).bind fun t130 => (if t130 < 0 then (none) else (if t130 = t121 then (some true) else (none)))) = some r := by rw [if_pos rfl] at H;exact H
         clear H
         have H := H1
         clear H1
         replace H := Option.bind_eq_some_iff.mp H
         obtain ⟨t130,A270,H⟩ := H
         replace H : (if t130 < 0 then (none) else (if t130 = t121 then (some true) else (none))) = some r := H
         have A27 := qq.mk A270
         clear A270
         by_cases c28 : t130 < 0
         ·rw [if_pos c28] at H
          exact absurd H (by simp)
         ·rw [if_neg c28] at H
          have c28b0 : decide (t130 < 0) = false := decide_eq_false c28
          clear c28
          by_cases c29 : t130 = t121
          ·rw [if_pos c29] at H
           have c29b0 : (t130 == t121) = true := beq_iff_eq.mpr c29
           have c29b1 : (t130 != t121) = false := bne_eq_false_iff_eq.mpr c29
           clear c29
           obtain rfl := Option.some.inj H
           go_enter Try.func9,Try.ntmps9
           go_wp2_with (first | ((with_reducible refine jv (f := 33) rfl ?_);refine goesL_ (some 15) rfl rfl Try.func33 (by kernel_rfl) rfl #[.slice A0 l0.length c0,.int .i64 1048576] rfl (by (try simp only [List.map_toArray,List.map_cons,List.map_nil]);first | done | rfl | (simp only [List.length_drop,List.length_take];rfl)) ?_;(with_reducible refine (qjk.calls k _ _ l0 1048576 t101 _ ?s1 ?s2 A3.out).mono ?_);(case s1 => exact HR0.out);(case s2 => exact HC0.out);rintro e wz0 ⟨rfl,hb⟩;refine ⟨_,rfl,?_⟩;have nB := qq.mk (zv (by repeat (first | (with_reducible first | exact HB.out | apply qj | apply qz | apply qk) | exact HB.out)) hb);clear HB;have HB := nB;clear nB;clear hb) | ((with_reducible refine jv (f := 35) rfl ?_);refine goesL_ (some 19) rfl rfl Try.func35 (by kernel_rfl) rfl #[.slice A0 l0.length c0] rfl (by (try simp only [List.map_toArray,List.map_cons,List.map_nil]);first | done | rfl | (simp only [List.length_drop,List.length_take];rfl)) ?_;(with_reducible refine (qjx.calls k _ _ l0 t102 _ ?s1 ?s2 A6.out).mono ?_);(case s1 => exact (Kd.C_below HR0.out (by repeat (first | (with_reducible first | exact HB.out | apply qj | apply qz | apply qk) | exact HB.out))));(case s2 => exact HC0.out);rintro e wz1 ⟨vv0,rfl,ho,hb⟩;refine ⟨_,rfl,?_⟩;have VV0 := qq.mk (Kd.S_V (base' := 0) ho);have nB := qq.mk (zv (by repeat (first | (with_reducible first | exact HB.out | apply qj | apply qz | apply qk) | exact HB.out)) hb);clear HB;have HB := nB;clear nB;clear hb ho) | ((with_reducible refine jv (f := 44) rfl ?_);refine goesL_ (some 21) rfl rfl Try.func44 (by kernel_rfl) rfl #[vv0,.int .i64 a1] rfl (by (try simp only [List.map_toArray,List.map_cons,List.map_nil]);first | done | rfl | (simp only [List.length_drop,List.length_take];rfl)) ?_;(with_reducible refine (qkz.callsVBridge k _ t102 a1 t105 _ VV0.out A7.out).mono ?_);rintro e wz2 ⟨v105,rfl,ho,hb⟩;refine ⟨_,rfl,?_⟩;have V105 := qq.mk (Kd.V_mono (ok' := fun k => k < wz2.heap.size) (Kd.V_bound (Kd.N_V (base' := 0) ho)) (fun k hk => hk.2));have nB := qq.mk (zv (by repeat (first | (with_reducible first | exact HB.out | apply qj | apply qz | apply qk) | exact HB.out)) hb);clear HB;have HB := nB;clear nB;clear hb ho VV0;have LB := qq.mk (zw HB.out)) | ((with_reducible refine jv (f := 35) rfl ?_);refine goesL_ (some 23) rfl rfl Try.func35 (by kernel_rfl) rfl #[.slice A0 l0.length c0] rfl (by (try simp only [List.map_toArray,List.map_cons,List.map_nil]);first | done | rfl | (simp only [List.length_drop,List.length_take];rfl)) ?_;(with_reducible refine (qjx.calls k _ _ l0 t108 _ ?s1 ?s2 A8.out).mono ?_);(case s1 => exact (Kd.C_below HR0.out (by repeat (first | (with_reducible first | exact HB.out | apply qj | apply qz | apply qk) | exact HB.out))));(case s2 => exact HC0.out);rintro e wz3 ⟨vv1,rfl,ho,hb⟩;refine ⟨_,rfl,?_⟩;have nS := qq.mk (Kd.S_mono (ok' := fun k => wz2.heap.size ≤ k ∧ k < wz3.heap.size) (Kd.S_bound ho) (fun k hk => ⟨hk.2.1,hk.2.2.1⟩));have nV := qq.mk (Kd.V_below V105.out hb);clear V105;have V105 := nV;clear nV;have S108 := nS;clear nS;have LE1 := qq.mk hb.size;have nB := qq.mk (zv (by repeat (first | (with_reducible first | exact HB.out | apply qj | apply qz | apply qk) | exact HB.out)) hb);clear HB;have HB := nB;clear nB;clear hb ho) | ((with_reducible refine jv (f := 45) rfl ?_);refine goesL_ (some 26) rfl rfl Try.func45 (by kernel_rfl) rfl #[vv1,.int .i64 a1] rfl (by (try simp only [List.map_toArray,List.map_cons,List.map_nil]);first | done | rfl | (simp only [List.length_drop,List.length_take];rfl)) ?_;(with_reducible refine (wx.callsVBridge k _ t108 a1 t111 _ (Kd.S_V (base' := 0) S108.out) A9.out).mono ?_);rintro e wz4 ⟨v111,rfl,ho,hb⟩;refine ⟨_,rfl,?_⟩;have S111 := qq.mk (Kd.S_mono (ok' := fun k => wz3.heap.size ≤ k ∧ k < wz4.heap.size) (Kd.S_bound ho) (fun k hk => ⟨hk.2.1,hk.2.2.1⟩));have nV := qq.mk (Kd.V_below V105.out hb);clear V105;have V105 := nV;clear nV;have nS := qq.mk (Kd.S_below S108.out hb);clear S108;have S108 := nS;clear nS;have U := qq.mk (Below.refl wz4.heap.size wz4);have nB := qq.mk (zv (by repeat (first | (with_reducible first | exact HB.out | apply qj | apply qz | apply qk) | exact HB.out)) hb);clear HB;have HB := nB;clear nB;clear hb ho) | ((with_reducible refine jv (f := 41) rfl ?_);refine goesL_ (some 29) rfl rfl Try.func41 (by kernel_rfl) rfl #[v111,v105] rfl (by (try simp only [List.map_toArray,List.map_cons,List.map_nil]);first | done | rfl | (simp only [List.length_drop,List.length_take];rfl)) ?_;(with_reducible refine (qzq.callsVBridge k _ _ t111 t105 true _ (Kd.V_below (Kd.S_V (base' := 0) S111.out) (by repeat (first | (with_reducible first | exact U.out | apply qj | apply qz | apply qk) | exact U.out))) (Kd.V_below V105.out (by repeat (first | (with_reducible first | exact U.out | apply qj | apply qz | apply qk) | exact U.out))) A10.out).mono ?_);rintro e w' ⟨rfl,⟨nd,rfl⟩⟩;refine ⟨_,rfl,?_⟩) | ((with_reducible refine jv (f := 35) rfl ?_);refine goesL_ (some 33) rfl rfl Try.func35 (by kernel_rfl) rfl #[.slice A0 l0.length c0] rfl (by (try simp only [List.map_toArray,List.map_cons,List.map_nil]);first | done | rfl | (simp only [List.length_drop,List.length_take];rfl)) ?_;(with_reducible refine (qjx.calls k _ _ l0 t115 _ ?s1 ?s2 A12.out).mono ?_);(case s1 => exact (Kd.C_below HR0.out (by repeat (first | (with_reducible first | exact HB.out | apply qj | apply qz | apply qk) | exact HB.out))));(case s2 => exact HC0.out);rintro e wz6 ⟨vv2,rfl,ho,hb⟩;refine ⟨_,rfl,?_⟩;have VV2 := qq.mk (Kd.S_V (base' := 0) ho);have nU := qq.mk (zv (by repeat (first | (with_reducible first | exact U.out | apply qj | apply qz | apply qk) | exact U.out)) hb);clear U;have U := nU;clear nU;have nB := qq.mk (zv (by repeat (first | (with_reducible first | exact HB.out | apply qj | apply qz | apply qk) | exact HB.out)) hb);clear HB;have HB := nB;clear nB;clear hb ho) | ((with_reducible refine jv (f := 37) rfl ?_);refine goesL_ (some 34) rfl rfl Try.func37 (by kernel_rfl) rfl #[vv1,vv2] rfl (by (try simp only [List.map_toArray,List.map_cons,List.map_nil]);first | done | rfl | (simp only [List.length_drop,List.length_take];rfl)) ?_;(with_reducible refine (qzj.callsVBridge k _ _ t108 t115 true _ (Kd.V_below (Kd.S_V (base' := 0) S108.out) (by repeat (first | (with_reducible first | exact U.out | apply qj | apply qz | apply qk) | exact U.out))) VV2.out A13.out).mono ?_);rintro e wz7 ⟨rfl,hb⟩;refine ⟨_,rfl,?_⟩;have nU := qq.mk (zv (by repeat (first | (with_reducible first | exact U.out | apply qj | apply qz | apply qk) | exact U.out)) hb);clear U;have U := nU;clear nU;have nB := qq.mk (zv (by repeat (first | (with_reducible first | exact HB.out | apply qj | apply qz | apply qk) | exact HB.out)) hb);clear HB;have HB := nB;clear nB;clear hb VV2) | ((with_reducible refine jv (f := 38) rfl ?_);refine goesL_ (some 38) rfl rfl Try.func38 (by kernel_rfl) rfl #[vv1,.int .i64 1] rfl (by (try simp only [List.map_toArray,List.map_cons,List.map_nil]);first | done | rfl | (simp only [List.length_drop,List.length_take];rfl)) ?_;(with_reducible refine (qzx.callsR (fun k => wz2.heap.size ≤ k ∧ k < wz3.heap.size) _ _ t108 1 _ _ (Kd.R_below (Kd.S_R S108.out) (by repeat (first | (with_reducible first | exact U.out | apply qj | apply qz | apply qk) | exact U.out))) A15.out).mono ?_);rintro e wz8 ⟨rfl,hm⟩;refine ⟨_,rfl,?_⟩;have KK := qq.mk (show kz wz4 wz8 (fun k => wz2.heap.size ≤ k ∧ k < wz3.heap.size) from (kz.of_below (by repeat (first | (with_reducible first | exact U.out | apply qj | apply qz | apply qk) | exact U.out)) _).then_ hm.keptS (fun k hk => .inl hk));have nB := qq.mk (Below.trans (B := w.heap.size) (by repeat (first | (with_reducible first | exact HB.out | apply qj | apply qz | apply qk) | exact HB.out)) (hm.bel (zw (by repeat (first | (with_reducible first | exact HB.out | apply qj | apply qz | apply qk) | exact HB.out))) (fun k hk => Nat.le_trans LB.out hk.1)));clear HB;have HB := nB;clear nB hm U) | (go_at_call 41;(with_reducible refine (qzq.callsVBridge k _ _ t111 t105 true _ (Kd.V_kept (S := fun k => wz2.heap.size ≤ k ∧ k < wz3.heap.size) (Kd.S_V (base' := 0) S111.out) (by first | exact KK.out | (repeat (first | exact KK.out | apply kz.drewN))) (fun k hk hn => absurd hn.2 (Nat.not_lt.2 hk.1))) (Kd.V_kept (S := fun k => wz2.heap.size ≤ k ∧ k < wz3.heap.size) V105.out (by first | exact KK.out | (repeat (first | exact KK.out | apply kz.drewN))) (fun k hk hn => absurd hn.1 (Nat.not_le.2 hk))) A17.out).mono ?_);rintro e w' ⟨rfl,⟨nd,rfl⟩⟩) | ((with_reducible refine jv (f := 42) rfl ?_);refine goesL_ (some 49) rfl rfl Try.func42 (by kernel_rfl) rfl #[v111,.int .i64 1] rfl (by (try simp only [List.map_toArray,List.map_cons,List.map_nil]);first | done | rfl | (simp only [List.length_drop,List.length_take];rfl)) ?_;(with_reducible refine (qzw.callsS (fun k => wz3.heap.size ≤ k ∧ k < wz4.heap.size) _ _ t111 1 _ _ (Kd.S_kept (S := fun k => wz2.heap.size ≤ k ∧ k < wz3.heap.size) S111.out (by first | exact KK.out | (repeat (first | exact KK.out | apply kz.drewN))) (fun k hk hn => absurd hn.2 (Nat.not_lt.2 hk.1))) A19.out).mono ?_);rintro e wz10 ⟨rfl,hm,hv⟩;refine ⟨_,rfl,?_⟩;have VM := qq.mk hv;have nK := qq.mk (show kz wz4 wz10 (fun k => (wz2.heap.size ≤ k ∧ k < wz3.heap.size) ∨ (wz3.heap.size ≤ k ∧ k < wz4.heap.size)) from ((show kz wz4 _ _ from (by first | exact KK.out | (repeat (first | exact KK.out | apply kz.drewN)))).mono (fun k hk => .inl hk)).then_ hm.keptS (fun k hk => .inl (.inr hk)));clear KK;have KK := nK;clear nK;have nB := qq.mk (Below.trans (B := w.heap.size) (by repeat (first | (with_reducible first | exact HB.out | apply qj | apply qz | apply qk) | exact HB.out)) (hm.bel (zw (by repeat (first | (with_reducible first | exact HB.out | apply qj | apply qz | apply qk) | exact HB.out))) (fun k hk => Nat.le_trans LB.out (Nat.le_trans LE1.out hk.1))));clear HB;have HB := nB;clear nB hm hv;have UM := qq.mk (Below.refl wz10.heap.size wz10)) | ((with_reducible refine jv (f := 43) rfl ?_);refine goesL_ (some 52) rfl rfl Try.func43 (by kernel_rfl) rfl #[v111,.int .i64 1] rfl (by (try simp only [List.map_toArray,List.map_cons,List.map_nil]);first | done | rfl | (simp only [List.length_drop,List.length_take];rfl)) ?_;(with_reducible refine (qzv.callsVBridge k _ (markRows t111 1) 1 t122 _ (Kd.V_below VM.out (by repeat (first | (with_reducible first | exact UM.out | apply qj | apply qz | apply qk) | exact UM.out))) A20.out).mono ?_);rintro e w' ⟨rfl,⟨nd,rfl⟩⟩;refine ⟨_,rfl,?_⟩) | ((with_reducible refine jv (f := 35) rfl ?_);refine goesL_ (some 59) rfl rfl Try.func35 (by kernel_rfl) rfl #[.slice A0 l0.length c0] rfl (by (try simp only [List.map_toArray,List.map_cons,List.map_nil]);first | done | rfl | (simp only [List.length_drop,List.length_take];rfl)) ?_;(with_reducible refine (qjx.calls k _ _ l0 t123 _ ?s1 ?s2 A23.out).mono ?_);(case s1 => exact (Kd.C_below HR0.out (by repeat (first | (with_reducible first | exact HB.out | apply qj | apply qz | apply qk) | exact HB.out))));(case s2 => exact HC0.out);rintro e wz12 ⟨vv3,rfl,ho,hb⟩;refine ⟨_,rfl,?_⟩;have VV3 := qq.mk (Kd.S_V (base' := 0) ho);have nK := qq.mk (kz.below (by first | exact KK.out | (repeat (first | exact KK.out | apply kz.drewN))) hb);clear KK;have KK := nK;clear nK;have nM := qq.mk (zv (by repeat (first | (with_reducible first | exact UM.out | apply qj | apply qz | apply qk) | exact UM.out)) hb);clear UM;have UM := nM;clear nM;have nB := qq.mk (zv (by repeat (first | (with_reducible first | exact HB.out | apply qj | apply qz | apply qk) | exact HB.out)) hb);clear HB;have HB := nB;clear nB;clear hb ho) | ((with_reducible refine jv (f := 45) rfl ?_);refine goesL_ (some 61) rfl rfl Try.func45 (by kernel_rfl) rfl #[vv3,.int .i64 a1] rfl (by (try simp only [List.map_toArray,List.map_cons,List.map_nil]);first | done | rfl | (simp only [List.length_drop,List.length_take];rfl)) ?_;(with_reducible refine (wx.callsVBridge k _ t123 a1 t126 _ VV3.out A24.out).mono ?_);rintro e wz13 ⟨v126,rfl,ho,hb⟩;refine ⟨_,rfl,?_⟩;have V126 := qq.mk (Kd.S_V (base' := 0) ho);have nK := qq.mk (kz.below (by first | exact KK.out | (repeat (first | exact KK.out | apply kz.drewN))) hb);clear KK;have KK := nK;clear nK;have nM := qq.mk (zv (by repeat (first | (with_reducible first | exact UM.out | apply qj | apply qz | apply qk) | exact UM.out)) hb);clear UM;have UM := nM;clear nM;have nB := qq.mk (zv (by repeat (first | (with_reducible first | exact HB.out | apply qj | apply qz | apply qk) | exact HB.out)) hb);clear HB;have HB := nB;clear nB;clear hb ho VV3) | ((with_reducible refine jv (f := 41) rfl ?_);refine goesL_ (some 64) rfl rfl Try.func41 (by kernel_rfl) rfl #[v126,v105] rfl (by (try simp only [List.map_toArray,List.map_cons,List.map_nil]);first | done | rfl | (simp only [List.length_drop,List.length_take];rfl)) ?_;(with_reducible refine (qzq.callsVBridge k _ _ t126 t105 true _ (by (repeat (first | exact V126.out | apply Kd.vz | apply Kd.vv))) (Kd.V_kept (S := fun k => (wz2.heap.size ≤ k ∧ k < wz3.heap.size) ∨ (wz3.heap.size ≤ k ∧ k < wz4.heap.size)) V105.out (by first | exact KK.out | (repeat (first | exact KK.out | apply kz.drewN))) (fun k hk hn => hn.elim (fun h1 => absurd h1.1 (Nat.not_le.2 hk)) (fun h1 => absurd (Nat.le_trans LE1.out h1.1) (Nat.not_le.2 hk)))) A25.out).mono ?_);rintro e w' ⟨rfl,⟨nd,rfl⟩⟩;refine ⟨_,rfl,?_⟩) | ((with_reducible refine jv (f := 43) rfl ?_);refine goesL_ (some 68) rfl rfl Try.func43 (by kernel_rfl) rfl #[v111,.int .i64 1] rfl (by (try simp only [List.map_toArray,List.map_cons,List.map_nil]);first | done | rfl | (simp only [List.length_drop,List.length_take];rfl)) ?_;(with_reducible refine (qzv.callsVBridge k _ (markRows t111 1) 1 t130 _ (Kd.V_below VM.out (by repeat (first | (with_reducible first | exact UM.out | apply qj | apply qz | apply qk) | exact UM.out))) A27.out).mono ?_);rintro e w' ⟨rfl,⟨nd,rfl⟩⟩;refine ⟨_,rfl,?_⟩))
           go_ret
           exact ⟨by first | rfl | (simp [*,jk,jj] <;> rfl),by repeat (first | (with_reducible first | exact HB.out | apply qj | apply qz | apply qk) | exact HB.out)⟩
          ·rw [if_neg c29] at H
           exact absurd H (by simp)
        ·replace c26 := Bool.eq_false_iff.mpr c26
         subst c26
         have H1 : (none) = some r := by rw [if_neg (show ¬ (false = true) by decide)] at H;exact H
         clear H
         have H := H1
         clear H1
         exact absurd H (by simp)
       ·rw [if_neg c22] at H
        exact absurd H (by simp)
     ·replace c18 := Bool.eq_false_iff.mpr c18
      subst c18
      have H1 : (none) = some r := by rw [if_neg (show ¬ (false = true) by decide)] at H;exact H
      clear H
      have H := H1
      clear H1
      exact absurd H (by simp)
   ·replace c14 := Bool.eq_false_iff.mpr c14
    subst c14
    have H1 : (none) = some r := by rw [if_neg (show ¬ (false = true) by decide)] at H;exact H
    clear H
    have H := H1
    clear H1
    exact absurd H (by simp)
  ·replace c11 := Bool.eq_false_iff.mpr c11
   subst c11
   have H1 : (none) = some r := by rw [if_neg (show ¬ (false = true) by decide)] at H;exact H
   clear H
   have H := H1
   clear H1
   exact absurd H (by simp)
open Go.RowKit Go.Proofs.Ytipdkendfcopiaa.Read Go.Proofs.YtipdkendfcopiaaW.PrintWords
def ok24 (x : S24) : Prop := okI x.f0 ∧ okS x.f1 ∧ okS x.f2 ∧ (okL okB) x.f3 ∧ (okL okB) x.f4
theorem tells24 : Tells Try.prog 24 k24 ok24 :=
 tells_iso (fun x : S24 => (x.f0,x.f1,x.f2,x.f3,x.f4)) (fun a => ⟨a.1,a.2.1,a.2.2.1,a.2.2.2.1,a.2.2.2.2⟩) (fun _ => rfl) (tells_struct Try.underlying24 (by kernel_rfl) (fs_cons rfl (tellsI Try.underlying3 (by kernel_rfl)) (fs_cons rfl (tellsS Try.underlying9 (by kernel_rfl)) (fs_cons rfl (tellsS Try.underlying9 (by kernel_rfl)) (fs_cons rfl (tellsL Try.underlying22 (by kernel_rfl) (tellsB Try.underlying5 (by kernel_rfl))) (fs_one rfl (tellsL Try.underlying22 (by kernel_rfl) (tellsB Try.underlying5 (by kernel_rfl)))))))))
def qqw.Pure : Prop := ∀ (l0 : (List S24)) (a1 : Int),(okL ok24) l0 → okI a1 → ∃ k,qqw.f k l0 a1 = some true
theorem w64 {n : Int} (h0 : -9223372036854775808 ≤ n) (h1 : n ≤ 9223372036854775807) : wrap64 n = n := by unfold wrap64;omega
theorem rd_nat {l : List Int} {i : Nat} (h : i < l.length) : rd l (i : Int) = l[i] := by
 simp [rd,List.getD_eq_getElem?_getD,List.getElem?_eq_getElem h]
theorem szByteS_eq (l : List Int) (n : Int) : qjz.f l n = some (if wrap64 (n - l.length) < 0 then -1 else wrap64 (n - l.length)) := by
 unfold qjz.f;split <;> rfl
theorem toByteS_l0 (x0 : List Int) (hl : x0.length ≤ 281474976710656) (d : Nat) : ∀ (k i : Nat) (x3 : List Int),x0.length - i = d → i ≤ x0.length → x3.length = x0.length → d < k → qjv.l0 k x0 x3 i = some (x3.take i ++ x0.drop i) := by
 induction d with
 | zero =>
  intro k i x3 hd hi h3 hk
  obtain ⟨k,rfl⟩ : ∃ m,k = m + 1 := ⟨k - 1,by omega⟩
  simp only [qjv.l0]
  rw [if_neg (by omega),List.take_of_length_le (by omega),List.drop_of_length_le (by omega),List.append_nil]
 | succ d ih =>
  intro k i x3 hd hi h3 hk
  obtain ⟨k,rfl⟩ : ∃ m,k = m + 1 := ⟨k - 1,by omega⟩
  simp only [qjv.l0]
  rw [if_pos (by omega),if_pos (by omega),if_pos (by omega),w64 (by omega) (by omega)]
  have e := ih k (i + 1) (x3.set i (rd x0 i)) (by omega) (by omega) (by simpa using h3) (by omega)
  rw [Int.toNat_natCast]
  rw [show ((i : Int) + 1) = ((i + 1 : Nat) : Int) from rfl,e]
  congr 1
  have hlt : i < x0.length := by omega
  rw [List.take_succ_eq_append_getElem (by simp;omega),List.getElem_set_self,List.take_set_of_le (by omega),rd_nat hlt,List.append_assoc,List.singleton_append,← List.drop_eq_getElem_cons hlt]
theorem toByteS_ev (l : List Int) (hl : l.length ≤ 281474976710656) : Ev (fun k => qjv.f k l) l :=
 ⟨l.length + 1,fun k hk => by
  show qjv.f k l = some l
  unfold qjv.f
  rw [if_pos (by omega),if_pos (by omega)]
  have := toByteS_l0 l hl l.length k 0 (List.replicate ((l.length : Int)).toNat 0) (by omega) (by omega) (by simp) (by omega)
  simpa using this⟩
theorem eqByteS_l0 (x0 x1 : List Int) (hl : x0.length = x1.length) (hm : x0.length ≤ 281474976710656) (d : Nat) : ∀ (k i : Nat),x0.length - i = d → i ≤ x0.length → d < k → qqx.l0 k x0 x1 i = some (decide (x0.drop i = x1.drop i)) := by
 induction d with
 | zero =>
  intro k i hd hi hk
  obtain ⟨k,rfl⟩ : ∃ m,k = m + 1 := ⟨k - 1,by omega⟩
  simp only [qqx.l0]
  rw [if_neg (by omega),List.drop_of_length_le (by omega),List.drop_of_length_le (by omega)];simp
 | succ d ih =>
  intro k i hd hi hk
  obtain ⟨k,rfl⟩ : ∃ m,k = m + 1 := ⟨k - 1,by omega⟩
  simp only [qqx.l0]
  have h0 : i < x0.length := by omega
  have h1 : i < x1.length := by omega
  rw [if_pos (by omega),if_pos (by omega),if_pos (by omega),w64 (by omega) (by omega),rd_nat h0,rd_nat h1,List.drop_eq_getElem_cons h0,List.drop_eq_getElem_cons h1]
  have e := ih k (i + 1) (by omega) (by omega) (by omega)
  rw [show ((i : Int) + 1) = ((i + 1 : Nat) : Int) from rfl,e]
  by_cases hx : x0[i] = x1[i]
  ·rw [if_pos hx];congr 1;rw [decide_eq_decide,hx,List.cons.injEq];exact ⟨fun h => ⟨rfl,h⟩,fun h => h.2⟩
  ·rw [if_neg hx];congr 1;symm;rw [decide_eq_false_iff_not,List.cons.injEq];exact fun h => hx h.1
theorem eqByteS_ev (a b : List Int) (hl : a.length ≤ 281474976710656) : Ev (fun k => qqx.f k a b) (decide (a = b)) :=
 ⟨a.length + 1,fun k hk => by
  show qqx.f k a b = _
  unfold qqx.f
  by_cases h : a.length = b.length
  ·rw [if_pos (by omega)]
   have := eqByteS_l0 a b h hl a.length k 0 (by omega) (by omega) (by omega)
   simpa using this
  ·rw [if_neg (by omega)]
   have : a ≠ b := fun e => h (by rw [e])
   simp [this]⟩
theorem eqByteS_refl (a : List Int) (hl : a.length ≤ 281474976710656) : Ev (fun k => qqx.f k a a) true := by
 have := eqByteS_ev a a hl
 simpa using this
def markL : Nat → Int → List Int
 | 0,_ => []
 | n + 1,k => k % 256 :: markL n (k + 1)
theorem markL_len : ∀ (n : Nat) (k : Int),(markL n k).length = n
 | 0,_ => rfl
 | n + 1,k => by simp [markL,markL_len n]
theorem heldByteS_l0 (n : Nat) : ∀ (k i : Nat) (c : Int) (x0 : List Int),x0.drop i = markL n c → i ≤ x0.length → x0.length ≤ 281474976710656 → 0 ≤ c → c + n ≤ 9000000000000000000 → n < k → qzk.l0 k x0 c i = some (c + n) := by
 induction n with
 | zero =>
  intro k i c x0 hd hi hl hc hc2 hk
  obtain ⟨k,rfl⟩ : ∃ m,k = m + 1 := ⟨k - 1,by omega⟩
  have hlen := congrArg List.length hd
  rw [List.length_drop,markL_len] at hlen
  simp only [qzk.l0]
  rw [if_neg (by omega)];simp
 | succ n ih =>
  intro k i c x0 hd hi hl hc hc2 hk
  obtain ⟨k,rfl⟩ : ∃ m,k = m + 1 := ⟨k - 1,by omega⟩
  have hlen := congrArg List.length hd
  rw [List.length_drop,markL_len] at hlen
  have hlt : i < x0.length := by omega
  rw [List.drop_eq_getElem_cons hlt,markL] at hd
  injection hd with h1 h2
  simp only [qzk.l0]
  rw [if_pos (by omega),if_pos (by omega),rd_nat hlt,if_pos h1,w64 (by omega) (by omega),w64 (by omega) (by omega),show ((i : Int) + 1) = ((i + 1 : Nat) : Int) from rfl,ih k (i + 1) (c + 1) x0 h2 (by omega) hl (by omega) (by omega) (by omega)]
  congr 1;omega
theorem heldByteS_ev (n : Nat) (c : Int) (hl : n ≤ 281474976710656) (hc : 0 ≤ c) (hc2 : c ≤ 8000000000000000000) : Ev (fun k => qzk.f k (markL n c) c) (c + n) :=
 ⟨n + 1,fun k hk => by
  have := heldByteS_l0 n k 0 c (markL n c) (by simp) (by omega) (by rw [markL_len];exact hl) hc (by omega) (by omega)
  simpa [qzk.f] using this⟩
def prtN (s : ByteArray) : Nat → Bool
 | 0 => true
 | d + 1 => if bt s ((s.size - (d + 1) : Nat) : Int) < 32 then false else if bt s ((s.size - (d + 1) : Nat) : Int) > 126 then false else prtN s d
def prt (s : ByteArray) : Bool := prtN s s.size
theorem l1Printed_l0 (s : ByteArray) (hs : s.size ≤ 9223372036854775807) (d : Nat) : ∀ (k i : Nat),s.size - i = d → i ≤ s.size → d < k → qkk.l0 k s i = some (prtN s d) := by
 induction d with
 | zero =>
  intro k i hd hi hk
  obtain ⟨k,rfl⟩ : ∃ m,k = m + 1 := ⟨k - 1,by omega⟩
  simp only [qkk.l0]
  rw [if_neg (by omega)];rfl
 | succ d ih =>
  intro k i hd hi hk
  obtain ⟨k,rfl⟩ : ∃ m,k = m + 1 := ⟨k - 1,by omega⟩
  have e0 : s.size - (d + 1) = i := by omega
  simp only [qkk.l0,prtN,e0]
  rw [if_pos (by omega),if_pos (by omega),w64 (by omega) (by omega),show ((i : Int) + 1) = ((i + 1 : Nat) : Int) from rfl,ih k (i + 1) (by omega) (by omega) (by omega)]
  split
  ·rfl
  ·split <;> rfl
theorem l1Printed_eq (s : ByteArray) (hs : s.size ≤ 9223372036854775807) (k : Nat) (hk : s.size < k) : qkk.f k s = some (prt s) :=
 l1Printed_l0 s hs s.size k 0 (by omega) (by omega) hk
theorem yprinted_l0 (s : ByteArray) (hs : s.size ≤ 9223372036854775807) (d : Nat) : ∀ (k i : Nat),s.size - i = d → i ≤ s.size → d < k → qqk.l0 k s (s.size : Int) i = some (prtN s d) := by
 induction d with
 | zero =>
  intro k i hd hi hk
  obtain ⟨k,rfl⟩ : ∃ m,k = m + 1 := ⟨k - 1,by omega⟩
  simp only [qqk.l0]
  rw [if_neg (by omega)];rfl
 | succ d ih =>
  intro k i hd hi hk
  obtain ⟨k,rfl⟩ : ∃ m,k = m + 1 := ⟨k - 1,by omega⟩
  have e0 : s.size - (d + 1) = i := by omega
  simp only [qqk.l0,prtN,e0]
  rw [if_pos (by omega),if_pos (by omega),if_pos (by omega),w64 (by omega) (by omega),show ((i : Int) + 1) = ((i + 1 : Nat) : Int) from rfl,ih k (i + 1) (by omega) (by omega) (by omega)]
  split
  ·rfl
  ·split <;> rfl
theorem yprinted_eq (s : ByteArray) (lo hi : Int) (hs : s.size ≤ 9223372036854775807) (k : Nat) (hk : s.size + 1 < k) : qqk.f k s lo hi = some (decide (lo ≤ s.size) && decide ((s.size : Int) ≤ hi) && prt s) := by
 obtain ⟨k,rfl⟩ : ∃ m,k = m + 1 := ⟨k - 1,by omega⟩
 unfold qqk.f
 have e := yprinted_l0 s hs s.size k 0 (by omega) (by omega) (by omega)
 by_cases h1 : (s.size : Int) < lo
 ·rw [if_pos h1]
  simp only [qqk.j0,if_true]
  simp;omega
 ·rw [if_neg h1]
  have h1' : decide (lo ≤ (s.size : Int)) = true := decide_eq_true (by omega)
  by_cases h2 : (s.size : Int) ≤ hi
  ·have h2' : decide ((s.size : Int) > hi) = false := decide_eq_false (by omega)
   have h2'' : decide ((s.size : Int) ≤ hi) = true := decide_eq_true h2
   rw [h1',h2',h2'']
   simp only [qqk.j0,Bool.false_eq_true,if_false,Bool.true_and]
   exact e
  ·have h2' : decide ((s.size : Int) > hi) = true := decide_eq_true (by omega)
   have h2'' : decide ((s.size : Int) ≤ hi) = false := decide_eq_false h2
   rw [h1',h2',h2'']
   simp [qqk.j0]
def goodEntry (t : Int) (who what : ByteArray) (salt cover : List Int) : Bool :=
 if t < 0 then false else if t > 100000000000 then false else if (who.size : Int) > 60 then false else if prt who = false then false else
 if cover.length = 0 then (decide ((what.size : Int) ≤ 200) && prt what && decide ((salt.length : Int) ≤ 20))
 else decide (cover.length = 16) && decide (what.toList = ([] : List UInt8)) && decide (salt.length = 0)
theorem specGood_eq (t : Int) (who what : ByteArray) (salt cover : List Int) (h1 : okS who) (h2 : okS what) (k : Nat) (hk : who.size + what.size + 1 < k) : qkj.f k t who what salt cover = some (goodEntry t who what salt cover) := by
 unfold okS at h1 h2
 obtain ⟨k,rfl⟩ : ∃ m,k = m + 1 := ⟨k - 1,by omega⟩
 unfold qkj.f goodEntry
 have bad : qkj.j0 (k + 1) true t who what salt cover = some false := by simp [qkj.j0]
 rw [bad]
 split;· rfl
 split;· rfl
 split;· rfl
 rw [l1Printed_eq who h1 (k + 1) (by omega)]
 simp only [Option.bind_some]
 cases prt who with
 | false => exact bad
 | true =>
  simp only [Bool.not_true,qkj.j0,Bool.false_eq_true,if_false,qvv.f,Option.bind_some,beq_iff_eq,reduceCtorEq]
  by_cases hc : cover.length = 0
  ·rw [if_pos (by omega),if_pos hc]
   by_cases hw : (what.size : Int) ≤ 200
   ·rw [if_pos hw,l1Printed_eq what h2 k (by omega)]
    simp only [Option.bind_some]
    cases prt what <;> simp [hw]
   ·rw [if_neg hw];simp [hw]
  ·rw [if_neg (by omega),if_neg hc]
   by_cases hc2 : cover.length = 16
   ·rw [if_pos (by omega)]
    by_cases hw : what.toList = []
    ·rw [if_pos hw]
     simp only [hc2,hw,decide_true,Bool.true_and,Option.some.injEq]
     rw [Bool.eq_iff_iff];simp
    ·rw [if_neg hw];simp [hw]
   ·rw [if_neg (by omega)];simp [hc2]
theorem implGood_eq (t : Int) (who what : ByteArray) (salt cover : List Int) (h1 : okS who) (h2 : okS what) (k : Nat) (hk : who.size + what.size + 3 < k) : xj.f k t who what salt cover = some (goodEntry t who what salt cover) := by
 unfold okS at h1 h2
 obtain ⟨k,rfl⟩ : ∃ m,k = m + 1 := ⟨k - 1,by omega⟩
 unfold xj.f goodEntry
 have bad : xj.j0 (k + 1) true t who what salt cover = some false := by simp [xj.j0]
 rw [bad]
 split;· rfl
 split;· rfl
 rw [yprinted_eq who 0 60 h1 (k + 1) (by omega)]
 simp only [Option.bind_some]
 by_cases h60 : (who.size : Int) > 60
 ·rw [if_pos h60]
  have : decide ((who.size : Int) ≤ 60) = false := decide_eq_false (by omega)
  rw [this]
  simpa using bad
 rw [if_neg h60]
 have e60 : decide ((who.size : Int) ≤ 60) = true := decide_eq_true (by omega)
 have e0 : decide ((0 : Int) ≤ (who.size : Int)) = true := decide_eq_true (by omega)
 rw [e60,e0]
 simp only [Bool.true_and]
 cases prt who with
 | false => exact bad
 | true =>
  simp only [Bool.not_true,xj.j0,Bool.false_eq_true,if_false,reduceCtorEq]
  by_cases hc : cover.length = 0
  ·rw [if_pos (by omega),if_pos hc,yprinted_eq what 0 200 h2 k (by omega)]
   simp only [Option.bind_some]
   have e0 : decide ((0 : Int) ≤ (what.size : Int)) = true := decide_eq_true (by omega)
   rw [e0,Bool.true_and]
   cases hh : (decide ((what.size : Int) ≤ 200) && prt what) <;> simp
  ·rw [if_neg (by omega),if_neg hc]
   by_cases hc2 : cover.length = 16
   ·rw [if_pos (by omega)]
    by_cases hw : what.toList = []
    ·rw [if_pos hw]
     simp only [hc2,hw,decide_true,Bool.true_and,Option.some.injEq]
     rw [Bool.eq_iff_iff];simp
    ·rw [if_neg hw];simp [hw]
   ·rw [if_neg (by omega)];simp [hc2]
theorem toLogEntry_ev (t : Int) (who what : ByteArray) (salt cover : List Int) (h3 : salt.length ≤ 1048576) (h4 : cover.length ≤ 1048576) : Ev (fun k => qjw.f k t who what salt cover) (t,who,what,salt,cover) := by
 refine Ev.congr (f := fun k => (qjv.f k salt).bind fun t104 => ((qjv.f k cover).bind fun t107 => (some (t,who,what,t104,t107)))) (fun k => rfl) ?_
 refine Ev.bind (toByteS_ev salt (by omega)) ?_
 exact Ev.bind (toByteS_ev cover (by omega)) (Ev.now _)
theorem eqLogEntry_refl (t : Int) (who what : ByteArray) (salt cover : List Int) (h3 : salt.length ≤ 1048576) (h4 : cover.length ≤ 1048576) : Ev (fun k => qzz.f k t who what salt cover t who what salt cover) true := by
 refine Ev.congr (f := fun k => (qqx.f k salt salt).bind fun t103 => (if t103 = true then ((qqx.f k cover cover).bind fun t104 => (if t104 = true then (some true) else (some false))) else (some false))) (fun k => by simp [qzz.f]) ?_
 refine Ev.bind (eqByteS_refl salt (by omega)) ?_
 refine Ev.congr (fun k => if_pos rfl) ?_
 refine Ev.bind (eqByteS_refl cover (by omega)) ?_
 exact Ev.congr (fun k => if_pos rfl) (Ev.now _)
def inP (a : List Int) : Prop := a.length = 4 ∧ ∀ j,j < 4 → 0 ≤ a.getD j 0 ∧ a.getD j 0 < 2147483579
theorem inP_start : inP [11,22,33,44] := ⟨rfl,by decide⟩
theorem inP_mix {a : List Int} (h : inP a) (x : Int) (hx : 0 ≤ x) : inP (dgMix a x) := ⟨by rw [dgMix,mix_len,h.1],mix_bd a x hx h.1 h.2 4 (by omega)⟩
theorem dgAll_cons (a : List Int) (x : Int) (l : List Int) : dgAll a (x :: l) = dgAll (dgMix a x) l := rfl
theorem mt_at (i : Nat) (h : i < 4) : rd [1103515245,69069,1664525,22695477] (i : Int) = mulT.getD i 0 := by
 match i,h with
 | 0,_ => rfl
 | 1,_ => rfl
 | 2,_ => rfl
 | 3,_ => rfl
theorem rd_getD (l : List Int) (i : Nat) : rd l (i : Int) = l.getD i 0 := by simp [rd]
theorem specMix_step (l : List Int) (h : inP l) (x : Int) (hx : 0 ≤ x ∧ x ≤ 255) (i : Nat) (hi : i < 4) (k : Nat) :
  qwj.l0 (k + 1) (mixN l x i) x [1103515245,69069,1664525,22695477] i = qwj.l0 k (mixN l x (i + 1)) x [1103515245,69069,1664525,22695477] ((i + 1 : Nat) : Int) := by
 have hlen : (mixN l x i).length = 4 := by rw [mix_len,h.1]
 have b1 := mix_bd l x hx.1 h.1 h.2 i (by omega) i hi
 have b2 := mix_bd l x hx.1 h.1 h.2 i (by omega) ((i + 1) % 4) (by omega)
 have b3 := mulOk i hi
 simp only [qwj.l0]
 rw [w64 (n := (i : Int) + 1) (by omega) (by omega)]
 have e6 : Int.tmod ((i : Int) + 1) 4 = ((i + 1) % 4 : Nat) := by rw [Int.tmod_eq_emod_of_nonneg (by omega)];omega
 rw [e6,mt_at i hi,rd_getD,rd_getD]
 obtain ⟨p1,e1⟩ : ∃ p,p = (mixN l x i).getD i 0 := ⟨_,rfl⟩
 obtain ⟨p2,e2⟩ : ∃ p,p = (mixN l x i).getD ((i + 1) % 4) 0 := ⟨_,rfl⟩
 obtain ⟨p3,e3⟩ : ∃ p,p = mulT.getD i 0 := ⟨_,rfl⟩
 have e5 : mixN l x (i + 1) = (mixN l x i).set i ((p1 * p3 + x + 1 + p2) % 2147483579) := by rw [e1,e2,e3];rfl
 rw [e5,← e1,← e2,← e3]
 rw [← e1] at b1;rw [← e2] at b2;rw [← e3] at b3
 have b4 := prod_bd b1.1 b1.2 b3.1 b3.2
 rw [if_pos (by omega),if_pos (by omega),if_pos (by omega),if_pos (by simp;omega),if_pos (by omega),if_pos (by omega),w64 (n := p1 * p3) (by omega) (by omega),w64 (n := p1 * p3 + x) (by omega) (by omega),w64 (n := p1 * p3 + x + 1) (by omega) (by omega),w64 (by omega) (by omega),Int.tmod_eq_emod_of_nonneg (by omega),Int.toNat_natCast]
 rfl
theorem specMix_eq (l : List Int) (h : inP l) (x : Int) (hx : 0 ≤ x ∧ x ≤ 255) (k : Nat) (hk : 5 ≤ k) : qwj.f k l x = some (dgMix l x) := by
 obtain ⟨k,rfl⟩ : ∃ m,k = m + 5 := ⟨k - 5,by omega⟩
 unfold qwj.f
 have e0 := specMix_step l h x hx 0 (by omega) (k + 4)
 have e1 := specMix_step l h x hx 1 (by omega) (k + 3)
 have e2 := specMix_step l h x hx 2 (by omega) (k + 2)
 have e3 := specMix_step l h x hx 3 (by omega) (k + 1)
 have e4 : qwj.l0 (k + 1) (mixN l x 4) x [1103515245,69069,1664525,22695477] ((3 + 1 : Nat) : Int) = some (mixN l x 4) := by
  simp only [qwj.l0];rw [if_neg (by omega)]
 exact e0.trans (e1.trans (e2.trans (e3.trans e4)))
theorem tm256 (n : Int) (h : 0 ≤ n) : Int.tmod n 256 % 256 = n % 256 := by rw [Int.tmod_eq_emod_of_nonneg h];omega
theorem td256 (n : Int) (h : 0 ≤ n) (h2 : n ≤ 9223372036854775807) : wrap64 (Int.tdiv n 256) = n / 256 := by
 rw [Int.tdiv_eq_ediv_of_nonneg h,w64 (by omega) (by omega)]
theorem specBytes_eq (n : Int) (h : 0 ≤ n) (h2 : n ≤ 9223372036854775807) (k : Nat) (hk : 5 ≤ k) : qvx.f k n = some (yb n) := by
 obtain ⟨k,rfl⟩ : ∃ m,k = m + 5 := ⟨k - 5,by omega⟩
 unfold qvx.f
 rw [if_pos (by omega)]
 simp only [Option.bind_some,List.length_replicate]
 simp only [qvx.l0]
 have a1 := td256 n h h2
 have a2 := td256 (n / 256) (by omega) (by omega)
 have a3 := td256 (n / 256 / 256) (by omega) (by omega)
 have w1 : wrap64 ((0 : Int) + 1) = 1 := by unfold wrap64;omega
 have w2 : wrap64 ((1 : Int) + 1) = 2 := by unfold wrap64;omega
 have w3 : wrap64 ((2 : Int) + 1) = 3 := by unfold wrap64;omega
 have w4 : wrap64 ((3 : Int) + 1) = 4 := by unfold wrap64;omega
 rw [w1,w2,w3,w4,a1,a2,a3,tm256 n h,tm256 _ (by omega),tm256 _ (by omega),tm256 _ (by omega)]
 simp [yb,List.replicate]
 omega
theorem specDig_l3 (a : List Int) (h : inP a) : ∀ (k : Nat),10 ≤ k → qwq.l3 k [] a (a.length : Int) 0 = some (a.flatMap yb) := by
 intro k hk
 obtain ⟨k,rfl⟩ : ∃ m,k = m + 10 := ⟨k - 10,by omega⟩
 obtain ⟨hl,hb⟩ := h
 match a,hl with
 | [b0,b1,b2,b3],_ =>
  have h0 := hb 0 (by omega)
  have h1 := hb 1 (by omega)
  have h2 := hb 2 (by omega)
  have h3 := hb 3 (by omega)
  simp only [List.getD_cons_zero,List.getD_cons_succ] at h0 h1 h2 h3
  have w1 : wrap64 ((0 : Int) + 1) = 1 := by unfold wrap64;omega
  have w2 : wrap64 ((1 : Int) + 1) = 2 := by unfold wrap64;omega
  have w3 : wrap64 ((2 : Int) + 1) = 3 := by unfold wrap64;omega
  have w4 : wrap64 ((3 : Int) + 1) = 4 := by unfold wrap64;omega
  have r0 : rd [b0,b1,b2,b3] 0 = b0 := rfl
  have r1 : rd [b0,b1,b2,b3] 1 = b1 := rfl
  have r2 : rd [b0,b1,b2,b3] 2 = b2 := rfl
  have r3 : rd [b0,b1,b2,b3] 3 = b3 := rfl
  simp only [qwq.l3,w1,w2,w3,w4,r0,r1,r2,r3]
  rw [specBytes_eq b0 (by omega) (by omega) _ (by omega),specBytes_eq b1 (by omega) (by omega) _ (by omega),specBytes_eq b2 (by omega) (by omega) _ (by omega),specBytes_eq b3 (by omega) (by omega) _ (by omega)]
  simp [yb]
theorem specDig_l2 (d : Nat) : ∀ (a : List Int) (k i : Nat),inP a → i + d = 8 → d + 12 ≤ k → qwq.l2 k a i = some ((dgAll a (List.replicate d 0)).flatMap yb) := by
 induction d with
 | zero =>
  intro a k i h hi hk
  obtain ⟨k,rfl⟩ : ∃ m,k = m + 1 := ⟨k - 1,by omega⟩
  simp only [qwq.l2]
  rw [if_neg (by omega),specDig_l3 a h k (by omega)];rfl
 | succ d ih =>
  intro a k i h hi hk
  obtain ⟨k,rfl⟩ : ∃ m,k = m + 1 := ⟨k - 1,by omega⟩
  simp only [qwq.l2]
  rw [if_pos (by omega),specMix_eq a h 0 (by omega) k (by omega)]
  simp only [Option.bind_some]
  rw [w64 (by omega) (by omega),show ((i : Int) + 1) = ((i + 1 : Nat) : Int) from rfl,ih (dgMix a 0) k (i + 1) (inP_mix h 0 (by omega)) (by omega) (by omega)]
  rfl
theorem wbyte {x : Int} (h : 0 ≤ x ∧ x ≤ 255) : wrap64 x = x := w64 (by omega) (by omega)
theorem drop_rd {l : List Int} {i : Nat} (h : i < l.length) : l.drop i = rd l i :: l.drop (i + 1) := by rw [List.drop_eq_getElem_cons h,rd_nat h]
theorem specDig_l1 (xs : List Int) (hx : isBytes xs) (hl : xs.length ≤ 1000000000) (d : Nat) : ∀ (a : List Int) (k i : Nat),inP a → i + d = xs.length → d + 24 ≤ k →
  qwq.l1 k a xs (xs.length : Int) i = some ((dgAll (dgAll a (xs.drop i)) (List.replicate 8 0)).flatMap yb) := by
 induction d with
 | zero =>
  intro a k i h hi hk
  obtain ⟨k,rfl⟩ : ∃ m,k = m + 1 := ⟨k - 1,by omega⟩
  simp only [qwq.l1]
  rw [if_neg (by omega),List.drop_of_length_le (by omega)]
  exact specDig_l2 8 a k 0 h (by omega) (by omega)
 | succ d ih =>
  intro a k i h hi hk
  obtain ⟨k,rfl⟩ : ∃ m,k = m + 1 := ⟨k - 1,by omega⟩
  have hlt : i < xs.length := by omega
  have hb := hx (rd xs i) (rd_mem hlt)
  simp only [qwq.l1]
  rw [if_pos (by omega),if_pos (by omega),if_pos (by omega),wbyte hb,specMix_eq a h _ hb k (by omega)]
  simp only [Option.bind_some]
  rw [w64 (by omega) (by omega),show ((i : Int) + 1) = ((i + 1 : Nat) : Int) from rfl,ih _ k (i + 1) (inP_mix h _ hb.1) (by omega) (by omega),drop_rd hlt,dgAll_cons]
theorem specDig_l0 (xs ys : List Int) (hx : isBytes xs) (hl : xs.length ≤ 1000000000) (hly : ys.length ≤ 1000000000) (d : Nat) : ∀ (a : List Int) (k i : Nat),inP a → i + d = xs.length → d + 40 ≤ k →
  qwq.l0 k ys a xs (xs.length : Int) i = some ((dgAll (dgAll (dgAll a (xs.drop i)) (yb ys.length)) (List.replicate 8 0)).flatMap yb) := by
 induction d with
 | zero =>
  intro a k i h hi hk
  obtain ⟨k,rfl⟩ : ∃ m,k = m + 1 := ⟨k - 1,by omega⟩
  simp only [qwq.l0]
  rw [if_neg (by omega),List.drop_of_length_le (by omega),specBytes_eq _ (by omega) (by omega) k (by omega)]
  exact specDig_l1 (yb ys.length) (yb_bytes _) (by rw [yb_len];omega) 4 a k 0 h (by rw [yb_len]) (by omega)
 | succ d ih =>
  intro a k i h hi hk
  obtain ⟨k,rfl⟩ : ∃ m,k = m + 1 := ⟨k - 1,by omega⟩
  have hlt : i < xs.length := by omega
  have hb := hx (rd xs i) (rd_mem hlt)
  simp only [qwq.l0]
  rw [if_pos (by omega),if_pos (by omega),if_pos (by omega),wbyte hb,specMix_eq a h _ hb k (by omega)]
  simp only [Option.bind_some]
  rw [w64 (by omega) (by omega),show ((i : Int) + 1) = ((i + 1 : Nat) : Int) from rfl,ih _ k (i + 1) (inP_mix h _ hb.1) (by omega) (by omega),drop_rd hlt,dgAll_cons]
theorem specDigest_eq (l : List Int) (h : isBytes l) (hl : l.length ≤ 1000000000) (k : Nat) (hk : l.length + 40 ≤ k) : qwq.f k l = some (dg l) := by
 have := specDig_l0 l l h hl hl l.length [11,22,33,44] k 0 inP_start (by omega) hk
 simpa [qwq.f,dg,dgS] using this
theorem specDigest_ev (l : List Int) (h : isBytes l) (hl : l.length ≤ 1000000000) : Ev (fun k => qwq.f k l) (dg l) := ⟨_,fun k hk => specDigest_eq l h hl k hk⟩
theorem isBytes_flatMap_yb (a : List Int) : isBytes (a.flatMap yb) := by
 intro x hx
 obtain ⟨n,_,hn⟩ := List.mem_flatMap.1 hx
 exact yb_bytes n x hn
theorem dg_bytes (l : List Int) : isBytes (dg l) := isBytes_flatMap_yb _
theorem dgAll_len : ∀ (l a : List Int),(dgAll a l).length = a.length
 | [],_ => rfl
 | x :: l,a => by rw [dgAll_cons,dgAll_len l,dgMix,mix_len]
theorem dg_len (l : List Int) : (dg l).length = 16 := by
 have h : (dgS l).length = 4 := by simp [dgS,dgAll_len]
 unfold dg
 match dgS l,h with
 | [b0,b1,b2,b3],_ => rfl
theorem isBytes_append {a b : List Int} (h : isBytes a) (h2 : isBytes b) : isBytes (a ++ b) := fun x hx => (List.mem_append.1 hx).elim (h x) (h2 x)
theorem implDigest_eq (l : List Int) (h : isBytes l) (hl : l.length ≤ 20000) : xz.f l = some (dg l) := by
 unfold xz.f;rw [if_pos h,if_neg (by omega)]
theorem isBytes_okL {l : List Int} (h : okL okB l) : isBytes l := fun x hx => h.2 x hx
theorem bytesOf_isBytes (s : ByteArray) : isBytes (bytesOf s) := by
 intro x hx
 simp only [bytesOf,List.mem_map] at hx
 obtain ⟨b,_,rfl⟩ := hx
 have := b.toNat_lt
 omega
def macL (key data : List Int) : List Int := dg (dg key ++ dg data)
theorem specTwo_ev (a b : List Int) (ha : isBytes a) (hb : isBytes b) (la : a.length ≤ 100000000) (lb : b.length ≤ 100000000) : Ev (fun k => qwk.f k a b) (dg (a ++ b)) := by
 simp only [qwk.f,List.length_nil,Nat.zero_add,List.nil_append,if_pos (show a.length < 140737488355328 by omega),Option.bind_some,if_pos (show a.length + b.length < 140737488355328 by omega)]
 exact Ev.bind (specDigest_ev _ (isBytes_append ha hb) (by simp;omega)) (Ev.now _)
theorem specMac_ev (a b : List Int) (ha : isBytes a) (hb : isBytes b) (la : a.length ≤ 100000000) (lb : b.length ≤ 100000000) : Ev (fun k => qwz.f k a b) (macL a b) := by
 simp only [qwz.f]
 refine Ev.bind (specDigest_ev a ha (by omega)) ?_
 refine Ev.bind (specDigest_ev b hb (by omega)) ?_
 exact Ev.bind (specTwo_ev _ _ (dg_bytes a) (dg_bytes b) (by rw [dg_len];omega) (by rw [dg_len];omega)) (Ev.now _)
theorem implMac_ev (a b : List Int) (ha : isBytes a) (hb : isBytes b) (la : a.length ≤ 20000) (lb : b.length ≤ 20000) : Ev (fun k => xv.f k a b) (macL a b) := by
 refine ⟨1,fun k hk => ?_⟩
 obtain ⟨k,rfl⟩ : ∃ m,k = m + 1 := ⟨k - 1,by omega⟩
 show xv.f (k + 1) a b = _
 unfold xv.f
 rw [if_neg (by omega),decide_eq_false (by omega)]
 simp only [xv.j0,Bool.false_eq_true,if_false]
 rw [implDigest_eq a ha la]
 simp only [Option.bind_some]
 rw [implDigest_eq b hb lb]
 simp only [Option.bind_some]
 rw [if_pos (by rw [dg_len,dg_len];omega),implDigest_eq _ (isBytes_append (dg_bytes a) (dg_bytes b)) (by rw [List.length_append,dg_len,dg_len];omega)]
 rfl
theorem bytesOfS_eq (s : ByteArray) (h : s.size ≤ 9223372036854775807) : bytesOfS.f s = some (bytesOf s) := by unfold bytesOfS.f;rw [if_pos h]
def coverL (what : ByteArray) (salt cover : List Int) : List Int := if cover.length = 0 then macL salt (bytesOf what) else cover
theorem good_open {t : Int} {who what : ByteArray} {salt cover : List Int} (h : goodEntry t who what salt cover = true) (hc : cover.length = 0) : what.size ≤ 200 ∧ salt.length ≤ 20 := by
 unfold goodEntry at h
 split at h;· cases h
 split at h;· cases h
 split at h;· cases h
 split at h;· cases h
 simp only [Bool.and_eq_true,decide_eq_true_eq] at h
 omega
theorem good_who {t : Int} {who what : ByteArray} {salt cover : List Int} (h : goodEntry t who what salt cover = true) : 0 ≤ t ∧ t ≤ 100000000000 ∧ who.size ≤ 60 := by
 unfold goodEntry at h
 split at h;· cases h
 split at h;· cases h
 split at h;· cases h
 omega
theorem good_closed {t : Int} {who what : ByteArray} {salt cover : List Int} (h : goodEntry t who what salt cover = true) (hc : cover.length ≠ 0) : cover.length = 16 := by
 unfold goodEntry at h
 split at h;· cases h
 split at h;· cases h
 split at h;· cases h
 split at h;· cases h
 simp only [Bool.and_eq_true,decide_eq_true_eq] at h
 exact h.1.1
theorem coverL_len {t : Int} {who what : ByteArray} {salt cover : List Int} (h : goodEntry t who what salt cover = true) : (coverL what salt cover).length = 16 := by
 unfold coverL
 split
 ·rw [macL,dg_len]
 ·exact good_closed h (by assumption)
theorem coverL_bytes (what : ByteArray) (salt : List Int) {cover : List Int} (h : isBytes cover) : isBytes (coverL what salt cover) := by
 unfold coverL
 split
 ·exact dg_bytes _
 ·exact h
theorem specCover_ev (t : Int) (who what : ByteArray) (salt cover : List Int) (hg : goodEntry t who what salt cover = true) (hs : isBytes salt) : Ev (fun k => qkx.f k t who what salt cover) (coverL what salt cover) := by
 unfold coverL
 by_cases hc : cover.length = 0
 ·obtain ⟨h1,h2⟩ := good_open hg hc
  simp only [qkx.f,qvv.f,hc,Option.bind_some,bytesOfS_eq what (by omega),if_true,beq_self_eq_true,Int.natCast_zero]
  exact Ev.bind (specMac_ev salt (bytesOf what) hs (bytesOf_isBytes what) (by omega) (by rw [bytesOf_length];omega)) (Ev.now _)
 ·have h16 := good_closed hg hc
  simp only [qkx.f,qvv.f,Option.bind_some,beq_iff_eq,List.length_nil,Nat.zero_add,List.nil_append,if_neg (show ¬ ((cover.length : Int) = 0) by omega),if_pos (show cover.length < 140737488355328 by omega),if_neg hc]
  exact Ev.now _
theorem implCoverOf_ev (t : Int) (who what : ByteArray) (salt cover : List Int) (h1 : okS who) (h2 : okS what) (hs : isBytes salt) :
  Ev (fun k => xq.f k t who what salt cover) (if goodEntry t who what salt cover = true then coverL what salt cover else []) := by
 simp only [xq.f]
 refine Ev.bind ⟨_,fun k hk => implGood_eq t who what salt cover h1 h2 k hk⟩ ?_
 by_cases hg : goodEntry t who what salt cover = true
 ·simp only [if_pos hg]
  unfold coverL
  by_cases hc : cover.length = 0
  ·obtain ⟨h3,h4⟩ := good_open hg hc
   simp only [if_pos hc,if_neg (show ¬ ((cover.length : Int) > 0) by omega),bytesOfS_eq what (by omega),Option.bind_some]
   exact Ev.bind (implMac_ev salt (bytesOf what) hs (bytesOf_isBytes what) (by omega) (by rw [bytesOf_length];omega)) (Ev.now _)
  ·have h16 := good_closed hg hc
   simp only [if_neg hc,if_pos (show (cover.length : Int) > 0 by omega),wk.f,if_pos (show cover.length ≤ 140737488355328 by omega),Option.bind_some]
   exact Ev.now _
 ·simp only [if_neg hg]
  exact Ev.now _
def leafL (t : Int) (who what : ByteArray) (salt cover : List Int) : List Int := dg ([0] ++ yb t ++ yb (t / 4294967296) ++ dg (bytesOf who) ++ coverL what salt cover)
theorem leafL_len (t : Int) (who what : ByteArray) (salt cover : List Int) : (leafL t who what salt cover).length = 16 := dg_len _
theorem leafL_bytes (t : Int) (who what : ByteArray) (salt cover : List Int) : isBytes (leafL t who what salt cover) := dg_bytes _
theorem yb_low (t : Int) (h0 : 0 ≤ t) : yb (Int.tmod t 4294967296) = yb t := by
 rw [Int.tmod_eq_emod_of_nonneg h0]
 simp only [yb,List.cons.injEq,and_true]
 omega
theorem high_eq (t : Int) (h0 : 0 ≤ t) (h1 : t ≤ 100000000000) : wrap64 (Int.tdiv t 4294967296) = t / 4294967296 := by
 rw [Int.tdiv_eq_ediv_of_nonneg h0]
 exact w64 (by omega) (by omega)
theorem zero_bytes : isBytes [0] := by
 intro x hx
 simp at hx
 omega
theorem leaf_parts (t : Int) (who what : ByteArray) {salt cover : List Int} (hc : isBytes cover) : isBytes ([0] ++ yb t ++ yb (t / 4294967296) ++ dg (bytesOf who) ++ coverL what salt cover) :=
 isBytes_append (isBytes_append (isBytes_append (isBytes_append zero_bytes (yb_bytes _)) (yb_bytes _)) (dg_bytes _)) (coverL_bytes what salt hc)
theorem specLeaf_ev (t : Int) (who what : ByteArray) (salt cover : List Int) (hg : goodEntry t who what salt cover = true) (hs : isBytes salt) (hc : isBytes cover) : Ev (fun k => qvz.f k t who what salt cover) (leafL t who what salt cover) := by
 obtain ⟨g0,g1,g2⟩ := good_who hg
 have hl := coverL_len hg
 have hd := dg_len (bytesOf who)
 have hy := fun n => yb_len n
 simp only [qvz.f,Option.bind_some,high_eq t g0 g1]
 have b1 : Ev (fun k => qvx.f k (Int.tmod t 4294967296)) (yb t) := ⟨5,fun k hk => by show qvx.f k (Int.tmod t 4294967296) = _;rw [specBytes_eq _ (by rw [Int.tmod_eq_emod_of_nonneg g0];omega) (by rw [Int.tmod_eq_emod_of_nonneg g0];omega) k hk,yb_low t g0]⟩
 refine Ev.bind b1 ?_
 simp only [if_pos (show ([0] : List Int).length + (yb t).length < 140737488355328 by rw [hy];simp)]
 refine Ev.bind ⟨5,fun k hk => specBytes_eq (t / 4294967296) (by omega) (by omega) k hk⟩ ?_
 simp only [if_pos (show (([0] : List Int) ++ yb t).length + (yb (t / 4294967296)).length < 140737488355328 by rw [List.length_append,hy,hy];simp),bytesOfS_eq who (by omega),Option.bind_some]
 refine Ev.bind (specDigest_ev (bytesOf who) (bytesOf_isBytes who) (by rw [bytesOf_length];omega)) ?_
 simp only [if_pos (show (([0] : List Int) ++ yb t ++ yb (t / 4294967296)).length + (dg (bytesOf who)).length < 140737488355328 by simp only [List.length_append,hy,hd];simp)]
 refine Ev.bind (specCover_ev t who what salt cover hg hs) ?_
 simp only [if_pos (show (([0] : List Int) ++ yb t ++ yb (t / 4294967296) ++ dg (bytesOf who)).length + (coverL what salt cover).length < 140737488355328 by simp only [List.length_append,hy,hd,hl];simp)]
 exact Ev.bind (specDigest_ev _ (leaf_parts t who what hc) (by simp only [List.length_append,hy,hd,hl];simp)) (Ev.now _)
theorem concat_eq (ls : List (List Int)) (h : ls.flatten.length ≤ 140737488355328) : qkq.f ls = some ls.flatten := by
 unfold qkq.f
 rw [if_pos h]
theorem implLeafOf_ev (t : Int) (who what : ByteArray) (salt cover : List Int) (h1 : okS who) (h2 : okS what) (hs : isBytes salt) (hc : isBytes cover) :
  Ev (fun k => xk.f k t who what salt cover) (if goodEntry t who what salt cover = true then leafL t who what salt cover else []) := by
 simp only [xk.f]
 refine Ev.bind ⟨_,fun k hk => implGood_eq t who what salt cover h1 h2 k hk⟩ ?_
 by_cases hg : goodEntry t who what salt cover = true
 ·obtain ⟨g0,g1,g2⟩ := good_who hg
  have hl := coverL_len hg
  have hd := dg_len (bytesOf who)
  have hy := fun n => yb_len n
  have y1 : ∀ n,qqq.f n = some (yb n) := fun n => rfl
  have hco := implCoverOf_ev t who what salt cover h1 h2 hs
  rw [if_pos hg] at hco
  have hfl : ([[0],yb t,yb (t / 4294967296),dg (bytesOf who),coverL what salt cover] : List (List Int)).flatten = [0] ++ yb t ++ yb (t / 4294967296) ++ dg (bytesOf who) ++ coverL what salt cover := by simp
  have hcat := concat_eq [[0],yb t,yb (t / 4294967296),dg (bytesOf who),coverL what salt cover] (by rw [hfl];simp only [List.length_append,hy,hd,hl];simp)
  rw [hfl] at hcat
  simp only [if_pos hg,y1,Option.bind_some,bytesOfS_eq who (by omega),implDigest_eq (bytesOf who) (bytesOf_isBytes who) (by rw [bytesOf_length];omega)]
  refine Ev.bind hco ?_
  simp only [hcat,Option.bind_some,implDigest_eq _ (leaf_parts t who what (salt := salt) hc) (by simp only [List.length_append,hy,hd,hl];simp)]
  exact Ev.now _
 ·simp only [if_neg hg]
  exact Ev.now _
open Go.RowKit Go.Proofs.Ytipdkendfcopiaa.Read Go.Proofs.YtipdkendfcopiaaW.PrintWords Go.Proofs.YtipdkendfcopiaaW.PrintLast Go.Proofs.YtipdkendfcopiaaW.PrintMore
def cutL (n : Int) : Int := (qqz.f 300 n).getD 1
theorem cut_fin : ∀ n : Fin 201,2 ≤ n.val → qvq.f 300 (n.val : Int) = some (cutL n.val) ∧ qqz.f 300 (n.val : Int) = some (cutL n.val) ∧ 1 ≤ cutL n.val ∧ cutL n.val < n.val := by decide +kernel
theorem cut_facts (n : Int) (h0 : 2 ≤ n) (h1 : n ≤ 200) : qvq.f 300 n = some (cutL n) ∧ qqz.f 300 n = some (cutL n) ∧ 1 ≤ cutL n ∧ cutL n < n := by
 obtain ⟨m,rfl⟩ : ∃ m : Nat,n = m := ⟨n.toNat,by omega⟩
 exact cut_fin ⟨m,by omega⟩ (by show 2 ≤ m;omega)
def nodeL (a b : List Int) : List Int := dg ([1] ++ a ++ b)
def six (b : List Int) : Prop := isBytes b ∧ b.length ≤ 16
theorem one_bytes : isBytes [1] := by
 intro x hx
 simp at hx
 omega
theorem node_six (a b : List Int) : six (nodeL a b) := ⟨dg_bytes _,by unfold nodeL;rw [dg_len];omega⟩
theorem node_len (a b : List Int) : (nodeL a b).length = 16 := dg_len _
theorem specNode_eq (a b : List Int) (ha : six a) (hb : six b) : qvk.f 1000 a b = some (nodeL a b) := by
 have h1 := ha.2
 have h2 := hb.2
 unfold qvk.f
 simp only [Option.bind_some,if_pos (show ([1] : List Int).length + a.length < 140737488355328 by simp;omega),if_pos (show (([1] : List Int) ++ a).length + b.length < 140737488355328 by simp;omega)]
 rw [specDigest_eq _ (isBytes_append (isBytes_append one_bytes ha.1) hb.1) (by simp;omega) 1000 (by simp;omega)]
 rfl
theorem implNode_eq (a b : List Int) (ha : six a) (hb : six b) : xw.f a b = some (nodeL a b) := by
 have h1 := ha.2
 have h2 := hb.2
 have hf : ([[1],a,b] : List (List Int)).flatten = [1] ++ a ++ b := by simp
 have e : qkq.f [[1],a,b] = some ([1] ++ a ++ b) := by
  unfold qkq.f
  rw [hf,if_pos (by simp;omega)]
 unfold xw.f
 rw [e,Option.bind_some,implDigest_eq _ (isBytes_append (isBytes_append one_bytes ha.1) hb.1) (by simp;omega)]
 rfl
attribute [irreducible] nodeL
def upL (leaf : List Int) (path : List (List Int)) : Nat → Int → Int → List Int × Bool
 | 0,_,size => if size = 1 then (leaf,true) else ([],false)
 | n + 1,at_,size => if size = 1 then (leaf,false) else if at_ < cutL size then (nodeL (upL leaf path n at_ (cutL size)).1 (rd_L2 path n),(upL leaf path n at_ (cutL size)).2) else (nodeL (rd_L2 path n) (upL leaf path n (at_ - cutL size) (size - cutL size)).1,(upL leaf path n (at_ - cutL size) (size - cutL size)).2)
theorem Ev.upR {α : Type} {g : Nat → Option α} {r : α} (h : Ev (fun k => g (k + 1)) r) : Ev g r := by
 obtain ⟨n,h⟩ := h
 refine ⟨n + 1,fun k hk => ?_⟩
 obtain ⟨k,rfl⟩ : ∃ m,k = m + 1 := ⟨k - 1,by omega⟩
 exact h k (by omega)
def okR (e : S27) : Prop := okS e.f1 ∧ okS e.f2 ∧ isBytes e.f3 ∧ isBytes e.f4
def goodS (e : S27) : Bool := goodEntry e.f0 e.f1 e.f2 e.f3 e.f4
def leafS (e : S27) : List Int := leafL e.f0 e.f1 e.f2 e.f3 e.f4
def goodLog (l : List S27) : Prop := l.length ≤ 200 ∧ ∀ e ∈ l,goodS e = true
instance (l : List S27) : Decidable (goodLog l) := by unfold goodLog;infer_instance
def leavesL (l : List S27) : List (List Int) × Bool := if goodLog l then (l.map leafS,true) else ([],false)
theorem leafS_len (e : S27) : (leafS e).length = 16 := leafL_len _ _ _ _ _
theorem leafS_bytes (e : S27) : isBytes (leafS e) := leafL_bytes _ _ _ _ _
attribute [irreducible] leafS goodS
theorem implLeafS_ev (e : S27) (h : okR e) : Ev (fun k => xk.f k e.f0 e.f1 e.f2 e.f3 e.f4) (if goodS e = true then leafS e else []) := by
 unfold goodS leafS
 exact implLeafOf_ev e.f0 e.f1 e.f2 e.f3 e.f4 h.1 h.2.1 h.2.2.1 h.2.2.2
theorem specGoodS_ev (e : S27) (h : okR e) : Ev (fun k => qkj.f k e.f0 e.f1 e.f2 e.f3 e.f4) (goodS e) := by
 unfold goodS
 exact ⟨_,fun k hk => specGood_eq e.f0 e.f1 e.f2 e.f3 e.f4 h.1 h.2.1 k hk⟩
theorem specLeafS_ev (e : S27) (h : okR e) (hg : goodS e = true) : Ev (fun k => qvz.f k e.f0 e.f1 e.f2 e.f3 e.f4) (leafS e) := by
 unfold leafS
 unfold goodS at hg
 exact specLeaf_ev e.f0 e.f1 e.f2 e.f3 e.f4 hg h.2.2.1 h.2.2.2
theorem rdT_nat {l : List S27} {i : Nat} (h : i < l.length) : wj l (i : Int) = l[i] := by simp [wj,List.getD_eq_getElem?_getD,List.getElem?_eq_getElem h]
theorem map_take_succ {l : List S27} {i : Nat} (h : i < l.length) : (l.take i).map leafS ++ [leafS l[i]] = (l.take (i + 1)).map leafS := by
 rw [List.take_succ_eq_append_getElem h,List.map_append,List.map_singleton]
theorem leaves_bad {l : List S27} {i : Nat} (h : i < l.length) (hg : ¬ goodS l[i] = true) : leavesL l = ([],false) := if_neg (fun g => hg (g.2 _ (List.getElem_mem h)))
theorem leaves_all {l : List S27} (hl : l.length ≤ 200) (h : ∀ e ∈ l,goodS e = true) : leavesL l = (l.map leafS,true) := if_pos ⟨hl,h⟩
theorem taken_good {l : List S27} {i : Nat} (h : i < l.length) (hg : ∀ e ∈ l.take i,goodS e = true) (hi : goodS l[i] = true) : ∀ e ∈ l.take (i + 1),goodS e = true := by
 intro e he
 rw [List.take_succ_eq_append_getElem h] at he
 rcases List.mem_append.1 he with he | he
 ·exact hg e he
 ·obtain rfl := List.mem_singleton.1 he
  exact hi
theorem implLeaves_l0 (l : List S27) (hl : l.length ≤ 200) (hok : ∀ e ∈ l,okR e) (d : Nat) : ∀ i,i + d = l.length → (∀ e ∈ l.take i,goodS e = true) → Ev (fun k => qqj.l0 k ((l.take i).map leafS) l (l.length : Int) (i : Int)) (leavesL l) := by
 induction d with
 | zero =>
  intro i hi hg
  obtain rfl : i = l.length := by omega
  rw [List.take_length] at hg ⊢
  refine Ev.upR ?_
  simp only [qqj.l0,if_neg (show ¬ ((l.length : Int) < (l.length : Int)) by omega)]
  rw [leaves_all hl hg]
  exact Ev.now _
 | succ d ih =>
  intro i hi hg
  have hlt : i < l.length := by omega
  refine Ev.upR ?_
  have ew : wrap64 ((i : Int) + 1) = ((i + 1 : Nat) : Int) := by rw [w64 (by omega) (by omega)];rfl
  have hlen : ((l.take i).map leafS).length < 5864062014805 := by rw [List.length_map,List.length_take];omega
  simp only [qqj.l0,if_pos (show (i : Int) < (l.length : Int) by omega),if_pos (Int.natCast_nonneg i),ew,rdT_nat hlt]
  refine Ev.bind (implLeafS_ev l[i] (hok _ (List.getElem_mem hlt))) ?_
  by_cases hgi : goodS l[i] = true
  ·simp only [if_pos hgi,nilS.f,Option.bind_some]
   rw [decide_eq_false (by rw [leafS_len];omega)]
   simp only [Bool.false_eq_true,if_false,if_pos hlen]
   rw [map_take_succ hlt]
   exact ih (i + 1) (by omega) (taken_good hlt hg hgi)
  ·simp only [if_neg hgi,nilS.f,Option.bind_some,List.length_nil,decide_true,if_true]
   rw [leaves_bad hlt hgi]
   exact Ev.now _
theorem implLeaves_ev (l : List S27) (hok : ∀ e ∈ l,okR e) : Ev (fun k => qqj.f k l) (leavesL l) := by
 simp only [qqj.f]
 by_cases h : (l.length : Int) > 200
 ·simp only [if_pos h]
  rw [show leavesL l = ([],false) from if_neg (fun g => by have := g.1;omega)]
  exact Ev.now _
 ·simp only [if_neg h]
  exact implLeaves_l0 l (by omega) hok l.length 0 (by omega) (fun e he => by simp at he)
theorem specLeaves_l0 (l : List S27) (hl : l.length ≤ 200) (hok : ∀ e ∈ l,okR e) (d : Nat) : ∀ i,i + d = l.length → (∀ e ∈ l.take i,goodS e = true) → Ev (fun k => qvj.l0 k ((l.take i).map leafS) l (l.length : Int) (i : Int)) (leavesL l) := by
 induction d with
 | zero =>
  intro i hi hg
  obtain rfl : i = l.length := by omega
  rw [List.take_length] at hg ⊢
  refine Ev.upR ?_
  simp only [qvj.l0,if_neg (show ¬ ((l.length : Int) < (l.length : Int)) by omega)]
  rw [leaves_all hl hg]
  exact Ev.now _
 | succ d ih =>
  intro i hi hg
  have hlt : i < l.length := by omega
  refine Ev.upR ?_
  have ew : wrap64 ((i : Int) + 1) = ((i + 1 : Nat) : Int) := by rw [w64 (by omega) (by omega)];rfl
  have hlen : ((l.take i).map leafS).length < 5864062014805 := by rw [List.length_map,List.length_take];omega
  simp only [qvj.l0,if_pos (show (i : Int) < (l.length : Int) by omega),if_pos (Int.natCast_nonneg i),ew,rdT_nat hlt]
  refine Ev.bind (specGoodS_ev l[i] (hok _ (List.getElem_mem hlt))) ?_
  by_cases hgi : goodS l[i] = true
  ·simp only [hgi,if_true]
   refine Ev.bind (specLeafS_ev l[i] (hok _ (List.getElem_mem hlt)) hgi) ?_
   simp only [if_pos hlen]
   rw [map_take_succ hlt]
   exact ih (i + 1) (by omega) (taken_good hlt hg hgi)
  ·simp only [if_neg hgi]
   rw [leaves_bad hlt hgi]
   exact Ev.now _
theorem specLeaves_ev (l : List S27) (hok : ∀ e ∈ l,okR e) : Ev (fun k => qvj.f k l) (leavesL l) := by
 simp only [qvj.f]
 by_cases h : (l.length : Int) > 200
 ·simp only [if_pos h]
  rw [show leavesL l = ([],false) from if_neg (fun g => by have := g.1;omega)]
  exact Ev.now _
 ·simp only [if_neg h]
  exact specLeaves_l0 l (by omega) hok l.length 0 (by omega) (fun e he => by simp at he)
def cutN (n : Nat) : Nat := (cutL (n : Int)).toNat
theorem cutN_facts {n : Nat} (h0 : 2 ≤ n) (h1 : n ≤ 200) : (cutL (n : Int)) = (cutN n : Int) ∧ 1 ≤ cutN n ∧ cutN n < n := by
 obtain ⟨_,_,h2,h3⟩ := cut_facts (n : Int) (by omega) (by omega)
 unfold cutN
 omega
def rootF : Nat → List (List Int) → List Int
 | 0,_ => []
 | n + 1,l => if l.length = 0 then dg [] else if l.length = 1 then rd_L2 l 0 else nodeL (rootF n (l.take (cutN l.length))) (rootF n (l.drop (cutN l.length)))
theorem rootF_fuel (n : Nat) : ∀ (m : Nat) (l : List (List Int)),l.length ≤ 200 → l.length < n → l.length < m → rootF n l = rootF m l := by
 induction n with
 | zero => intro m l _ h;omega
 | succ n ih =>
  intro m l h200 h1 h2
  obtain ⟨m,rfl⟩ : ∃ k,m = k + 1 := ⟨m - 1,by omega⟩
  simp only [rootF]
  by_cases c0 : l.length = 0
  ·rw [if_pos c0,if_pos c0]
  by_cases c1 : l.length = 1
  ·rw [if_neg c0,if_neg c0,if_pos c1,if_pos c1]
  rw [if_neg c0,if_neg c0,if_neg c1,if_neg c1]
  obtain ⟨_,q1,q2⟩ := cutN_facts (n := l.length) (by omega) h200
  rw [ih m (l.take (cutN l.length)) (by rw [List.length_take];omega) (by rw [List.length_take];omega) (by rw [List.length_take];omega),ih m (l.drop (cutN l.length)) (by rw [List.length_drop];omega) (by rw [List.length_drop];omega) (by rw [List.length_drop];omega)]
def rootL (l : List (List Int)) : List Int := rootF 201 l
theorem rootL_nil {l : List (List Int)} (h : l.length = 0) : rootL l = dg [] := by
 show rootF (200 + 1) l = _
 rw [rootF,if_pos h]
theorem rootL_one {l : List (List Int)} (h : l.length = 1) : rootL l = rd_L2 l 0 := by
 show rootF (200 + 1) l = _
 rw [rootF,if_neg (by omega),if_pos h]
theorem rootL_node {l : List (List Int)} (h : 2 ≤ l.length) (h2 : l.length ≤ 200) : rootL l = nodeL (rootL (l.take (cutN l.length))) (rootL (l.drop (cutN l.length))) := by
 obtain ⟨_,q1,q2⟩ := cutN_facts h h2
 show rootF (200 + 1) l = _
 rw [rootF,if_neg (by omega),if_neg (by omega)]
 unfold rootL
 rw [rootF_fuel 200 201 (l.take (cutN l.length)) (by rw [List.length_take];omega) (by rw [List.length_take];omega) (by rw [List.length_take];omega),rootF_fuel 200 201 (l.drop (cutN l.length)) (by rw [List.length_drop];omega) (by rw [List.length_drop];omega) (by rw [List.length_drop];omega)]
def sixt (l : List (List Int)) : Prop := ∀ b ∈ l,isBytes b ∧ b.length = 16
theorem sixt_take {l : List (List Int)} (h : sixt l) (n : Nat) : sixt (l.take n) := fun b hb => h b (List.mem_of_mem_take hb)
theorem sixt_drop {l : List (List Int)} (h : sixt l) (n : Nat) : sixt (l.drop n) := fun b hb => h b (List.mem_of_mem_drop hb)
theorem sixt_rd {l : List (List Int)} (h : sixt l) {i : Nat} (hi : i < l.length) : isBytes (rd_L2 l (i : Int)) ∧ (rd_L2 l (i : Int)).length = 16 := by
 have : rd_L2 l (i : Int) = l[i] := by simp [rd_L2,List.getD_eq_getElem?_getD,List.getElem?_eq_getElem hi]
 rw [this]
 exact h _ (List.getElem_mem hi)
theorem rootL_six (n : Nat) : ∀ l : List (List Int),l.length ≤ n → l.length ≤ 200 → sixt l → isBytes (rootL l) ∧ (rootL l).length = 16 := by
 induction n with
 | zero =>
  intro l hn _ _
  rw [rootL_nil (by omega)]
  exact ⟨dg_bytes _,dg_len _⟩
 | succ n ih =>
  intro l hn h200 hs
  by_cases c0 : l.length = 0
  ·rw [rootL_nil c0]
   exact ⟨dg_bytes _,dg_len _⟩
  by_cases c1 : l.length = 1
  ·rw [rootL_one c1]
   exact sixt_rd hs (i := 0) (by omega)
  ·rw [rootL_node (by omega) h200]
   exact ⟨(node_six _ _).1,node_len _ _⟩
theorem root_ok {l : List (List Int)} (h200 : l.length ≤ 200) (hs : sixt l) : isBytes (rootL l) ∧ (rootL l).length = 16 := rootL_six l.length l (Nat.le_refl _) h200 hs
theorem root_six {l : List (List Int)} (h200 : l.length ≤ 200) (hs : sixt l) : six (rootL l) := ⟨(root_ok h200 hs).1,by rw [(root_ok h200 hs).2];omega⟩
theorem half_ev {n : Nat} (h0 : 2 ≤ n) (h1 : n ≤ 200) : Ev (fun k => qqz.f k (n : Int)) (cutN n : Int) := by
 obtain ⟨_,h2,_,_⟩ := cut_facts (n : Int) (by omega) (by omega)
 rw [(cutN_facts h0 h1).1] at h2
 exact Ev.of (fun k => qqz.mono _ k) h2
theorem cut_ev {n : Nat} (h0 : 2 ≤ n) (h1 : n ≤ 200) : Ev (fun k => qvq.f k (n : Int)) (cutN n : Int) := by
 obtain ⟨h2,_,_,_⟩ := cut_facts (n : Int) (by omega) (by omega)
 rw [(cutN_facts h0 h1).1] at h2
 exact Ev.of (fun k => qvq.mono _ k) h2
theorem node_ev {a b : List Int} (ha : six a) (hb : six b) : Ev (fun k => qvk.f k a b) (nodeL a b) := Ev.of (fun k => qvk.mono _ _ k) (specNode_eq a b ha hb)
theorem empty_dg : xz.f [] = some (dg []) := implDigest_eq [] (fun x hx => absurd hx List.not_mem_nil) (by simp)
theorem implRoot_aux (n : Nat) : ∀ l : List (List Int),l.length ≤ n → l.length ≤ 200 → sixt l → Ev (fun k => qqv.f k l) (rootL l) := by
 induction n with
 | zero =>
  intro l hn _ _
  refine Ev.upR ?_
  simp only [qqv.f,if_pos (show (l.length : Int) = 0 by omega),empty_dg,Option.bind_some]
  rw [rootL_nil (by omega)]
  exact Ev.now _
 | succ n ih =>
  intro l hn h200 hs
  refine Ev.upR ?_
  by_cases c0 : l.length = 0
  ·simp only [qqv.f,if_pos (show (l.length : Int) = 0 by omega),empty_dg,Option.bind_some]
   rw [rootL_nil c0]
   exact Ev.now _
  by_cases c1 : l.length = 1
  ·have h16 := (sixt_rd hs (i := 0) (by omega)).2
   simp only [qqv.f,if_neg (show ¬ (l.length : Int) = 0 by omega),if_pos (show (l.length : Int) = 1 by omega),if_pos (show (0 : Int) < (l.length : Int) by omega),wk.f,if_pos (show (rd_L2 l 0).length ≤ 140737488355328 by rw [show ((0 : Int)) = ((0 : Nat) : Int) from rfl,h16];omega),Option.bind_some]
   rw [rootL_one c1]
   exact Ev.now _
  ·obtain ⟨_,q1,q2⟩ := cutN_facts (n := l.length) (by omega) h200
   simp only [qqv.f,if_neg (show ¬ (l.length : Int) = 0 by omega),if_neg (show ¬ (l.length : Int) = 1 by omega)]
   refine Ev.bind (half_ev (n := l.length) (by omega) h200) ?_
   simp only [if_pos (Int.natCast_nonneg (cutN l.length)),if_pos (show ((cutN l.length : Nat) : Int) ≤ (l.length : Int) by omega),Int.toNat_natCast]
   have e1 := ih (l.take (cutN l.length)) (by rw [List.length_take];omega) (by rw [List.length_take];omega) (sixt_take hs _)
   have e2 := ih (l.drop (cutN l.length)) (by rw [List.length_drop];omega) (by rw [List.length_drop];omega) (sixt_drop hs _)
   refine Ev.bind e1 ?_
   refine Ev.bind e2 ?_
   simp only [implNode_eq _ _ (root_six (l := l.take (cutN l.length)) (by rw [List.length_take];omega) (sixt_take hs _)) (root_six (l := l.drop (cutN l.length)) (by rw [List.length_drop];omega) (sixt_drop hs _)),Option.bind_some]
   rw [rootL_node (by omega) h200]
   exact Ev.now _
theorem specRoot_aux (n : Nat) : ∀ l : List (List Int),l.length ≤ n → l.length ≤ 200 → sixt l → Ev (fun k => qvw.f k l) (rootL l) := by
 induction n with
 | zero =>
  intro l hn _ _
  refine Ev.upR ?_
  simp only [qvw.f,if_pos (show (l.length : Int) = 0 by omega)]
  rw [rootL_nil (by omega)]
  exact Ev.bind (specDigest_ev [] (fun x hx => absurd hx List.not_mem_nil) (by simp)) (Ev.now _)
 | succ n ih =>
  intro l hn h200 hs
  refine Ev.upR ?_
  by_cases c0 : l.length = 0
  ·simp only [qvw.f,if_pos (show (l.length : Int) = 0 by omega)]
   rw [rootL_nil c0]
   exact Ev.bind (specDigest_ev [] (fun x hx => absurd hx List.not_mem_nil) (by simp)) (Ev.now _)
  by_cases c1 : l.length = 1
  ·simp only [qvw.f,if_neg (show ¬ (l.length : Int) = 0 by omega),if_pos (show (l.length : Int) = 1 by omega),if_pos (show (0 : Int) < (l.length : Int) by omega)]
   rw [rootL_one c1]
   exact Ev.now _
  ·obtain ⟨_,q1,q2⟩ := cutN_facts (n := l.length) (by omega) h200
   simp only [qvw.f,if_neg (show ¬ (l.length : Int) = 0 by omega),if_neg (show ¬ (l.length : Int) = 1 by omega)]
   refine Ev.bind (cut_ev (n := l.length) (by omega) h200) ?_
   simp only [if_pos (Int.natCast_nonneg (cutN l.length)),if_pos (show ((cutN l.length : Nat) : Int) ≤ (l.length : Int) by omega),Int.toNat_natCast]
   have e1 := ih (l.take (cutN l.length)) (by rw [List.length_take];omega) (by rw [List.length_take];omega) (sixt_take hs _)
   have e2 := ih (l.drop (cutN l.length)) (by rw [List.length_drop];omega) (by rw [List.length_drop];omega) (sixt_drop hs _)
   refine Ev.bind e1 ?_
   refine Ev.bind e2 ?_
   refine Ev.bind (node_ev (root_six (l := l.take (cutN l.length)) (by rw [List.length_take];omega) (sixt_take hs _)) (root_six (l := l.drop (cutN l.length)) (by rw [List.length_drop];omega) (sixt_drop hs _))) ?_
   rw [rootL_node (by omega) h200]
   exact Ev.now _
theorem sixt_leaves (l : List S27) : sixt (l.map leafS) := by
 intro b hb
 obtain ⟨e,he,rfl⟩ := List.mem_map.1 hb
 exact ⟨leafS_bytes e,leafS_len e⟩
theorem rd2_nat {l : List (List Int)} {i : Nat} (h : i < l.length) : rd_L2 l (i : Int) = l[i] := by
 simp [rd_L2,List.getD_eq_getElem?_getD,List.getElem?_eq_getElem h]
theorem rows_ev {α : Type} (f : Nat → List Int → Option α) (g : List Int → α) : ∀ (l : List (List Int)),(∀ b ∈ l,Ev (fun k => f k b) (g b)) → ∃ N : Nat,∀ k,N ≤ k → ∀ b ∈ l,f k b = some (g b)
 | [],_ => ⟨0,fun _ _ b hb => absurd hb List.not_mem_nil⟩
 | x :: l,h => by
  obtain ⟨n,hn⟩ := h x List.mem_cons_self
  obtain ⟨m,hm⟩ := rows_ev f g l fun b hb => h b (List.mem_cons_of_mem _ hb)
  refine ⟨n + m,fun k hk b hb => ?_⟩
  rcases List.mem_cons.1 hb with rfl | hb
  ·exact hn k (by omega)
  ·exact hm k (by omega) b hb
theorem eqByteSS_l0 (l : List (List Int)) (hl : l.length ≤ 1048576) (N : Nat) (hN : ∀ k,N ≤ k → ∀ b ∈ l,qqx.f k b b = some true) (d : Nat) : ∀ (k i : Nat),i + d = l.length → N + d < k → qzq.l0 k l l i = some true := by
 induction d with
 | zero =>
  intro k i hi hk
  obtain ⟨k,rfl⟩ : ∃ m,k = m + 1 := ⟨k - 1,by omega⟩
  simp only [qzq.l0]
  rw [if_neg (by omega)]
 | succ d ih =>
  intro k i hi hk
  obtain ⟨k,rfl⟩ : ∃ m,k = m + 1 := ⟨k - 1,by omega⟩
  have hlt : i < l.length := by omega
  have e2 : wrap64 ((i : Int) + 1) = ((i + 1 : Nat) : Int) := by rw [w64 (by omega) (by omega)];rfl
  simp only [qzq.l0]
  rw [if_pos (by omega),if_pos (by omega),if_pos (by omega),rd2_nat hlt,hN k (by omega) _ (List.getElem_mem hlt),Option.bind_some,if_pos rfl,e2,ih k (i + 1) (by omega) (by omega)]
theorem eqByteSS_refl (l : List (List Int)) (hl : l.length ≤ 1048576) (hb : ∀ b ∈ l,b.length ≤ 1048576) : Ev (fun k => qzq.f k l l) true := by
 obtain ⟨N,hN⟩ := rows_ev (fun k b => qqx.f k b b) (fun _ => true) l fun b h => eqByteS_refl b (by have := hb b h;omega)
 refine ⟨N + l.length + 1,fun k hk => ?_⟩
 show qzq.f k l l = some true
 unfold qzq.f
 rw [if_pos rfl]
 exact eqByteSS_l0 l hl N hN l.length k 0 (by omega) (by omega)
def bridgeF : Nat → List (List Int) → Nat → Bool → List (List Int)
 | 0,_,_,_ => []
 | n + 1,l,a,b => if a = l.length then (if b = true then [] else [rootL l]) else if a ≤ cutN l.length then bridgeF n (l.take (cutN l.length)) a b ++ [rootL (l.drop (cutN l.length))] else bridgeF n (l.drop (cutN l.length)) (a - cutN l.length) false ++ [rootL (l.take (cutN l.length))]
theorem bridgeF_len (n : Nat) : ∀ (l : List (List Int)) (a : Nat) (b : Bool),(bridgeF n l a b).length ≤ n := by
 induction n with
 | zero => intro l a b;simp [bridgeF]
 | succ n ih =>
  intro l a b
  simp only [bridgeF]
  split
  ·split <;> simp
  split
  ·rw [List.length_append,List.length_singleton]
   have := ih (l.take (cutN l.length)) a b
   omega
  ·rw [List.length_append,List.length_singleton]
   have := ih (l.drop (cutN l.length)) (a - cutN l.length) false
   omega
theorem bridgeF_six (n : Nat) : ∀ (l : List (List Int)) (a : Nat) (b : Bool),l.length ≤ n → l.length ≤ 200 → 1 ≤ a → a ≤ l.length → sixt l → sixt (bridgeF n l a b) := by
 induction n with
 | zero => intro l a b h1 _ h2 h3;omega
 | succ n ih =>
  intro l a b hn h200 h1 ha hs
  simp only [bridgeF]
  by_cases c1 : a = l.length
  ·rw [if_pos c1]
   cases b with
   | true => exact fun x hx => absurd hx List.not_mem_nil
   | false =>
    intro x hx
    obtain rfl : x = rootL l := by simpa using hx
    exact root_ok h200 hs
  obtain ⟨_,q1,q2⟩ := cutN_facts (n := l.length) (by omega) h200
  rw [if_neg c1]
  have r1 := root_ok (l := l.take (cutN l.length)) (by rw [List.length_take];omega) (sixt_take hs _)
  have r2 := root_ok (l := l.drop (cutN l.length)) (by rw [List.length_drop];omega) (sixt_drop hs _)
  by_cases c2 : a ≤ cutN l.length
  ·rw [if_pos c2]
   intro x hx
   rcases List.mem_append.1 hx with hx | hx
   ·exact ih (l.take (cutN l.length)) a b (by rw [List.length_take];omega) (by rw [List.length_take];omega) h1 (by rw [List.length_take];omega) (sixt_take hs _) x hx
   ·obtain rfl := List.mem_singleton.1 hx
    exact r2
  ·rw [if_neg c2]
   intro x hx
   rcases List.mem_append.1 hx with hx | hx
   ·exact ih (l.drop (cutN l.length)) (a - cutN l.length) false (by rw [List.length_drop];omega) (by rw [List.length_drop];omega) (by omega) (by rw [List.length_drop];omega) (sixt_drop hs _) x hx
   ·obtain rfl := List.mem_singleton.1 hx
    exact r1
theorem implBridge_aux (n : Nat) (hn200 : n ≤ 1000) : ∀ (l : List (List Int)) (a : Nat) (b : Bool),l.length ≤ n → l.length ≤ 200 → 1 ≤ a → a ≤ l.length → sixt l → Ev (fun k => xx.f k l (a : Int) b) (bridgeF n l a b) := by
 induction n with
 | zero => intro l a b h1 _ h2 h3;omega
 | succ n ih =>
  intro l a b hn h200 h1 ha hs
  refine Ev.upR ?_
  simp only [bridgeF]
  by_cases c1 : a = l.length
  ·simp only [xx.f,if_pos (show (a : Int) = (l.length : Int) by omega),if_pos c1]
   cases b with
   | true => simp only [if_true];exact Ev.now _
   | false =>
    simp only [if_neg (show ¬ (false = true) by decide)]
    exact Ev.bind (implRoot_aux _ l (Nat.le_refl _) h200 hs) (Ev.now _)
  obtain ⟨_,q1,q2⟩ := cutN_facts (n := l.length) (by omega) h200
  simp only [xx.f,if_neg (show ¬ (a : Int) = (l.length : Int) by omega),if_neg c1]
  refine Ev.bind (half_ev (n := l.length) (by omega) h200) ?_
  have r1 := implRoot_aux _ (l.take (cutN l.length)) (Nat.le_refl _) (by rw [List.length_take];omega) (sixt_take hs _)
  have r2 := implRoot_aux _ (l.drop (cutN l.length)) (Nat.le_refl _) (by rw [List.length_drop];omega) (sixt_drop hs _)
  by_cases c2 : a ≤ cutN l.length
  ·simp only [if_pos (show (a : Int) ≤ ((cutN l.length : Nat) : Int) by omega),if_pos c2,if_pos (Int.natCast_nonneg (cutN l.length)),if_pos (show ((cutN l.length : Nat) : Int) ≤ (l.length : Int) by omega),Int.toNat_natCast]
   refine Ev.bind (ih (by omega) (l.take (cutN l.length)) a b (by rw [List.length_take];omega) (by rw [List.length_take];omega) h1 (by rw [List.length_take];omega) (sixt_take hs _)) ?_
   refine Ev.bind r2 ?_
   have := bridgeF_len n (l.take (cutN l.length)) a b
   simp only [if_pos (show (bridgeF n (l.take (cutN l.length)) a b).length < 5864062014805 by omega)]
   exact Ev.now _
  ·have ew : wrap64 ((a : Int) - ((cutN l.length : Nat) : Int)) = ((a - cutN l.length : Nat) : Int) := by rw [w64 (by omega) (by omega)];omega
   simp only [if_neg (show ¬ (a : Int) ≤ ((cutN l.length : Nat) : Int) by omega),if_neg c2,if_pos (Int.natCast_nonneg (cutN l.length)),if_pos (show ((cutN l.length : Nat) : Int) ≤ (l.length : Int) by omega),Int.toNat_natCast,ew]
   refine Ev.bind (ih (by omega) (l.drop (cutN l.length)) (a - cutN l.length) false (by rw [List.length_drop];omega) (by rw [List.length_drop];omega) (by omega) (by rw [List.length_drop];omega) (sixt_drop hs _)) ?_
   refine Ev.bind r1 ?_
   have := bridgeF_len n (l.drop (cutN l.length)) (a - cutN l.length) false
   simp only [if_pos (show (bridgeF n (l.drop (cutN l.length)) (a - cutN l.length) false).length < 5864062014805 by omega)]
   exact Ev.now _
theorem specBridge_aux (n : Nat) (hn200 : n ≤ 1000) : ∀ (l : List (List Int)) (a : Nat) (b : Bool),l.length ≤ n → l.length ≤ 200 → 1 ≤ a → a ≤ l.length → sixt l → Ev (fun k => qkv.f k l (a : Int) b) (bridgeF n l a b) := by
 induction n with
 | zero => intro l a b h1 _ h2 h3;omega
 | succ n ih =>
  intro l a b hn h200 h1 ha hs
  refine Ev.upR ?_
  simp only [bridgeF]
  by_cases c1 : a = l.length
  ·simp only [qkv.f,if_pos (show (a : Int) = (l.length : Int) by omega),if_pos c1]
   cases b with
   | true => simp only [if_true];exact Ev.now _
   | false =>
    simp only [if_neg (show ¬ (false = true) by decide)]
    exact Ev.bind (specRoot_aux _ l (Nat.le_refl _) h200 hs) (Ev.now _)
  obtain ⟨_,q1,q2⟩ := cutN_facts (n := l.length) (by omega) h200
  simp only [qkv.f,if_neg (show ¬ (a : Int) = (l.length : Int) by omega),if_neg c1]
  refine Ev.bind (cut_ev (n := l.length) (by omega) h200) ?_
  have r1 := specRoot_aux _ (l.take (cutN l.length)) (Nat.le_refl _) (by rw [List.length_take];omega) (sixt_take hs _)
  have r2 := specRoot_aux _ (l.drop (cutN l.length)) (Nat.le_refl _) (by rw [List.length_drop];omega) (sixt_drop hs _)
  by_cases c2 : a ≤ cutN l.length
  ·simp only [if_pos (show (a : Int) ≤ ((cutN l.length : Nat) : Int) by omega),if_pos c2,if_pos (Int.natCast_nonneg (cutN l.length)),if_pos (show ((cutN l.length : Nat) : Int) ≤ (l.length : Int) by omega),Int.toNat_natCast]
   refine Ev.bind (ih (by omega) (l.take (cutN l.length)) a b (by rw [List.length_take];omega) (by rw [List.length_take];omega) h1 (by rw [List.length_take];omega) (sixt_take hs _)) ?_
   refine Ev.bind r2 ?_
   have := bridgeF_len n (l.take (cutN l.length)) a b
   simp only [if_pos (show (bridgeF n (l.take (cutN l.length)) a b).length < 5864062014805 by omega)]
   exact Ev.now _
  ·have ew : wrap64 ((a : Int) - ((cutN l.length : Nat) : Int)) = ((a - cutN l.length : Nat) : Int) := by rw [w64 (by omega) (by omega)];omega
   simp only [if_neg (show ¬ (a : Int) ≤ ((cutN l.length : Nat) : Int) by omega),if_neg c2,if_pos (Int.natCast_nonneg (cutN l.length)),if_pos (show ((cutN l.length : Nat) : Int) ≤ (l.length : Int) by omega),Int.toNat_natCast,ew]
   refine Ev.bind (ih (by omega) (l.drop (cutN l.length)) (a - cutN l.length) false (by rw [List.length_drop];omega) (by rw [List.length_drop];omega) (by omega) (by rw [List.length_drop];omega) (sixt_drop hs _)) ?_
   refine Ev.bind r1 ?_
   have := bridgeF_len n (l.drop (cutN l.length)) (a - cutN l.length) false
   simp only [if_pos (show (bridgeF n (l.drop (cutN l.length)) (a - cutN l.length) false).length < 5864062014805 by omega)]
   exact Ev.now _
theorem copies_l0 (l : List (List Int)) (hl : l.length ≤ 1048576) (hb : ∀ b ∈ l,b.length ≤ 1048576) (d : Nat) : ∀ (k i : Nat),i + d = l.length → d < k → qkw.l0 k (l.take i) l (l.length : Int) (i : Int) = some l := by
 induction d with
 | zero =>
  intro k i hi hk
  obtain ⟨k,rfl⟩ : ∃ m,k = m + 1 := ⟨k - 1,by omega⟩
  simp only [qkw.l0]
  rw [if_neg (by omega),List.take_of_length_le (by omega)]
 | succ d ih =>
  intro k i hi hk
  obtain ⟨k,rfl⟩ : ∃ m,k = m + 1 := ⟨k - 1,by omega⟩
  have hlt : i < l.length := by omega
  have e2 : wrap64 ((i : Int) + 1) = ((i + 1 : Nat) : Int) := by rw [w64 (by omega) (by omega)];rfl
  have h3 := hb _ (List.getElem_mem hlt)
  simp only [qkw.l0,rd2_nat hlt,List.nil_append,List.length_nil]
  rw [if_pos (by omega),if_pos (by omega),if_pos (by omega),if_pos (by omega),if_pos (by rw [List.length_take];omega),e2,← List.take_succ_eq_append_getElem hlt]
  exact ih k (i + 1) (by omega) (by omega)
theorem copies_ev (l : List (List Int)) (hl : l.length ≤ 1048576) (hb : ∀ b ∈ l,b.length ≤ 1048576) : Ev (fun k => qkw.f k l) l :=
 ⟨l.length + 1,fun k hk => copies_l0 l hl hb l.length k 0 (by omega) (by omega)⟩
def bridgeR (l : List S27) (a : Int) : List (List Int) := if goodLog l ∧ 1 ≤ a ∧ a ≤ (l.length : Int) then bridgeF 200 (l.map leafS) a.toNat true else []
theorem bridgeR_ok (l : List S27) (a : Int) : (bridgeR l a).length ≤ 200 ∧ sixt (bridgeR l a) := by
 unfold bridgeR
 split
 ·rename_i h
  have h2 := h.1.1
  exact ⟨bridgeF_len 200 _ _ _,bridgeF_six 200 _ _ _ (by rw [List.length_map];omega) (by rw [List.length_map];omega) (by omega) (by rw [List.length_map];omega) (sixt_leaves l)⟩
 ·exact ⟨by simp,fun b hb => absurd hb List.not_mem_nil⟩
theorem implBridgeOf_any (l : List S27) (hok : ∀ e ∈ l,okR e) (a : Int) : Ev (fun k => wx.f k l a) (bridgeR l a) := by
 simp only [wx.f]
 refine Ev.bind (implLeaves_ev l hok) ?_
 unfold leavesL bridgeR
 by_cases hg : goodLog l
 ·have h200 := hg.1
  simp only [if_pos hg,if_true,List.length_map]
  by_cases h0 : a < 1
  ·rw [if_neg (by omega)];simp only [if_pos h0];exact Ev.now _
  simp only [if_neg h0]
  by_cases h1 : a > (l.length : Int)
  ·rw [if_neg (by omega)];simp only [if_pos h1];exact Ev.now _
  rw [if_pos ⟨hg,by omega,by omega⟩]
  simp only [if_neg h1]
  have h := implBridge_aux 200 (by omega) (l.map leafS) a.toNat true (by rw [List.length_map];exact h200) (by rw [List.length_map];exact h200) (by omega) (by rw [List.length_map];omega) (sixt_leaves l)
  rw [show ((a.toNat : Nat) : Int) = a by omega] at h
  exact Ev.bind h (Ev.now _)
 ·rw [if_neg (show ¬ (goodLog l ∧ 1 ≤ a ∧ a ≤ (l.length : Int)) from fun h => hg h.1)]
  simp only [if_neg hg,if_neg (show ¬ (false = true) by decide)]
  exact Ev.now _
theorem specBridgeOf_any (l : List S27) (hok : ∀ e ∈ l,okR e) (a : Int) : Ev (fun k => qkz.f k l a) (bridgeR l a) := by
 have hp := bridgeR_ok l a
 have hc := copies_ev (bridgeR l a) (by omega) (fun b hb => by rw [(hp.2 b hb).2];omega)
 clear hp
 simp only [qkz.f]
 refine Ev.bind (specLeaves_ev l hok) ?_
 unfold leavesL
 unfold bridgeR at hc ⊢
 by_cases hg : goodLog l
 ·have h200 := hg.1
  simp only [if_pos hg,if_true,List.length_map]
  by_cases h0 : a < 1
  ·rw [if_neg (by omega)];simp only [if_pos h0];refine Ev.upR ?_;simp only [qkz.j0,if_true];exact Ev.now _
  simp only [if_neg h0]
  by_cases h1 : a > (l.length : Int)
  ·rw [if_neg (by omega)];refine Ev.upR ?_;simp only [qkz.j0,decide_eq_true h1,if_true];exact Ev.now _
  rw [if_pos ⟨hg,by omega,by omega⟩] at hc ⊢
  refine Ev.upR ?_
  simp only [qkz.j0,decide_eq_false h1,if_neg (show ¬ (false = true) by decide)]
  have h := specBridge_aux 200 (by omega) (l.map leafS) a.toNat true (by rw [List.length_map];exact h200) (by rw [List.length_map];exact h200) (by omega) (by rw [List.length_map];omega) (sixt_leaves l)
  rw [show ((a.toNat : Nat) : Int) = a by omega] at h
  exact Ev.bind h (Ev.bind hc (Ev.now _))
 ·rw [if_neg (show ¬ (goodLog l ∧ 1 ≤ a ∧ a ≤ (l.length : Int)) from fun h => hg h.1)]
  simp only [if_neg hg,if_neg (show ¬ (false = true) by decide)]
  refine Ev.upR ?_
  simp only [qkz.j0,if_true]
  exact Ev.now _
theorem marks_markL (n : Nat) : ∀ c : Int,(List.range n).map (markAt c) = markL n c := by
 induction n with
 | zero => intro c;rfl
 | succ n ih =>
  intro c
  rw [List.range_succ_eq_map,List.map_cons,List.map_map]
  show (c + (0 : Nat)) % 256 :: _ = c % 256 :: markL n (c + 1)
  rw [← ih (c + 1),show c + ((0 : Nat) : Int) = c by omega]
  congr 1
  apply List.map_congr_left
  intro q _
  show (c + ((q + 1 : Nat) : Int)) % 256 = (c + 1 + (q : Int)) % 256
  rw [show c + ((q + 1 : Nat) : Int) = c + 1 + (q : Int) by omega]
theorem totL_bound (ln : Nat → Nat) (B : Nat) (n : Nat) (h : ∀ i,i < n → ln i ≤ B) : totL ln n ≤ n * B := by
 induction n with
 | zero => exact Nat.zero_le _
 | succ n ih =>
  have h1 := ih (fun i hi => h i (by omega))
  have h2 := h n (by omega)
  show totL ln n + ln n ≤ (n + 1) * B
  rw [Nat.add_mul]
  omega
theorem heldRows_l0 (l : List (List Int)) (hl : l.length ≤ 200) (hb : ∀ i,i < l.length → (l.getD i []).length ≤ 16) (d : Nat) : ∀ (i : Nat),i + d = l.length → Ev (fun k => qzv.l0 k (markRows l 1) (1 + totL (lenSS l) i) (i : Int)) (1 + totL (lenSS l) l.length) := by
 have hlen : (markRows l 1).length = l.length := by simp [markRows]
 induction d with
 | zero =>
  intro i hi
  obtain rfl : i = l.length := by omega
  refine Ev.upR ?_
  simp only [qzv.l0,if_neg (show ¬ (l.length : Int) < ((markRows l 1).length : Int) by omega)]
  exact Ev.now _
 | succ d ih =>
  intro i hi
  have hlt : i < l.length := by omega
  have e2 : wrap64 ((i : Int) + 1) = ((i + 1 : Nat) : Int) := by rw [w64 (by omega) (by omega)];rfl
  have et : rd_L2 (markRows l 1) (i : Int) = markL (lenSS l i) (1 + totL (lenSS l) i) := by
   rw [rd2_nat (by omega),← marks_markL]
   simp [markRows,lenSS]
   intro q _
   rw [show (fun i => (l[i]?.getD []).length) = lenSS l from by funext j;simp [lenSS]]
  have h2 := hb i hlt
  have h3 := totL_bound (lenSS l) 16 i (fun q hq => hb q (by omega))
  have h4 : i * 16 ≤ 200 * 16 := Nat.mul_le_mul_right _ (by omega)
  refine Ev.upR ?_
  simp only [qzv.l0,if_pos (show (i : Int) < ((markRows l 1).length : Int) by omega),if_pos (Int.natCast_nonneg i),et]
  have h5 : lenSS l i ≤ 16 := h2
  refine Ev.bind (heldByteS_ev (lenSS l i) (1 + totL (lenSS l) i) (by omega) (by omega) (by omega)) ?_
  simp only [if_neg (show ¬ (1 : Int) + (totL (lenSS l) i : Nat) + (lenSS l i : Nat) < 0 by omega),e2]
  have := ih (i + 1) (by omega)
  rw [show (1 : Int) + (totL (lenSS l) (i + 1) : Nat) = 1 + (totL (lenSS l) i : Nat) + (lenSS l i : Nat) by show (1 : Int) + ((totL (lenSS l) i + lenSS l i : Nat) : Int) = _;omega] at this
  exact this
theorem six_rows {l : List (List Int)} (h : sixt l) : ∀ i,i < l.length → (l.getD i []).length ≤ 16 := by
 intro i hi
 rw [List.getD_eq_getElem?_getD,List.getElem?_eq_getElem hi,Option.getD_some,(h _ (List.getElem_mem hi)).2]
 omega
theorem markRows_f (l : List (List Int)) (hl : l.length ≤ 200) (hs : sixt l) : ∃ r : Int,qzw.f l 1 = some r ∧ 0 ≤ r ∧ Ev (fun k => qzv.f k (markRows l 1) 1) r := by
 have h3 := totL_bound (lenSS l) 16 l.length (six_rows hs)
 refine ⟨1 + totL (lenSS l) l.length,?_,by omega,?_⟩
 ·unfold qzw.f
  rw [if_pos ⟨by omega,by omega,by omega,fun i hi => Nat.le_trans (six_rows hs i hi) (by omega)⟩]
 ·have := heldRows_l0 l hl (six_rows hs) l.length 0 (by omega)
  rw [show (1 : Int) + ((totL (lenSS l) 0 : Nat) : Int) = 1 by simp [totL]] at this
  exact this
theorem Ev.upL {α : Type} {g : Nat → Option α} {r : α} (h : Ev (fun k => g (k + 1)) r) : Ev g r := by
 obtain ⟨n,h⟩ := h
 refine ⟨n + 1,fun k hk => ?_⟩
 obtain ⟨k,rfl⟩ : ∃ m,k = m + 1 := ⟨k - 1,by omega⟩
 exact h k (by omega)
def toL (e : S24) : S27 := ⟨e.f0,e.f1,e.f2,e.f3,e.f4⟩
def okX (e : S24) : Prop := okS e.f1 ∧ okS e.f2 ∧ okL okB e.f3 ∧ okL okB e.f4
def smallX (e : S24) : Prop := e.f3.length ≤ 1048576 ∧ e.f4.length ≤ 1048576
theorem szLogEntry_gen (t : Int) (who what : ByteArray) (salt cover : List Int) (h1 : okS who) (h2 : okS what) (h3 : okL okB salt) (h4 : okL okB cover) (left : Int) (l0 : 0 ≤ left) (l1 : left ≤ 1048576) :
  ∃ r,qjj.f t who what salt cover left = some r ∧ r ≤ 1048576 ∧ (¬ r < 0 → salt.length ≤ 1048576 ∧ cover.length ≤ 1048576) := by
 unfold okS at h1 h2
 have h3 := h3.1
 have h4 := h4.1
 unfold qjj.f
 rw [w64 (by omega) (by omega)]
 by_cases e1 : left - who.size < 0
 ·exact ⟨_,by rw [if_pos e1],by omega,by omega⟩
 rw [if_neg e1,w64 (by omega) (by omega)]
 by_cases e2 : left - who.size - what.size < 0
 ·exact ⟨_,by rw [if_pos e2],by omega,by omega⟩
 rw [if_neg e2,szByteS_eq,w64 (by omega) (by omega)]
 simp only [Option.bind_some]
 by_cases e3 : left - who.size - what.size - salt.length < 0
 ·rw [if_pos e3];exact ⟨_,rfl,by omega,by omega⟩
 rw [if_neg e3,if_neg e3,szByteS_eq,w64 (by omega) (by omega)]
 simp only [Option.bind_some]
 by_cases e4 : left - who.size - what.size - salt.length - cover.length < 0
 ·rw [if_pos e4];exact ⟨_,rfl,by omega,by omega⟩
 rw [if_neg e4,if_neg e4];exact ⟨_,rfl,by omega,by omega⟩
theorem rd24_nat {l : List S24} {i : Nat} (h : i < l.length) : wz l (i : Int) = l[i] := by simp [wz,List.getD_eq_getElem?_getD,List.getElem?_eq_getElem h]
theorem szS_l0 (l : List S24) (hok : ∀ e ∈ l,okX e) (hlen : l.length ≤ 1048576) (d : Nat) : ∀ (i : Nat) (left : Int),i + d = l.length → 0 ≤ left → left ≤ 1048576 → ∃ r : Int,Ev (fun k => qjk.l0 k l left (i : Int)) r ∧ (¬ r < 0 → ∀ j (h : j < l.length),i ≤ j → smallX l[j]) := by
 induction d with
 | zero =>
  intro i left hi h0 h1
  refine ⟨left,Ev.upL ?_,fun _ j hj hij => by omega⟩
  simp only [qjk.l0,if_neg (show ¬ ((i : Int) < (l.length : Int)) by omega)]
  exact Ev.now _
 | succ d ih =>
  intro i left hi h0 h1
  have hlt : i < l.length := by omega
  obtain ⟨k1,k2,k3,k4⟩ := hok _ (List.getElem_mem hlt)
  obtain ⟨r1,e1,hr1,hs1⟩ := szLogEntry_gen l[i].f0 l[i].f1 l[i].f2 l[i].f3 l[i].f4 k1 k2 k3 k4 left h0 h1
  have ew : wrap64 ((i : Int) + 1) = ((i + 1 : Nat) : Int) := by rw [w64 (by omega) (by omega)];rfl
  by_cases hneg : r1 < 0
  ·refine ⟨-1,Ev.upL ?_,fun h => by omega⟩
   simp only [qjk.l0,if_pos (show (i : Int) < (l.length : Int) by omega),if_pos (Int.natCast_nonneg i),rd24_nat hlt,e1,Option.bind_some,if_pos hneg]
   exact Ev.now _
  ·obtain ⟨r,er,hr⟩ := ih (i + 1) r1 (by omega) (by omega) hr1
   refine ⟨r,Ev.upL ?_,fun hn j hj hij => ?_⟩
   ·simp only [qjk.l0,if_pos (show (i : Int) < (l.length : Int) by omega),if_pos (Int.natCast_nonneg i),rd24_nat hlt,e1,Option.bind_some,if_neg hneg,ew]
    exact er
   ·by_cases hji : j = i
    ·subst hji;exact hs1 hneg
    ·exact hr hn j hj (by omega)
theorem szS_ev (l : List S24) (hok : ∀ e ∈ l,okX e) (hmax : l.length ≤ 9223372036854775807) : ∃ r : Int,Ev (fun k => qjk.f k l 1048576) r ∧ (¬ r < 0 → l.length ≤ 1048576 ∧ ∀ e ∈ l,smallX e) := by
 by_cases h : l.length ≤ 1048576
 ·have ew : wrap64 (1048576 - (l.length : Int)) = 1048576 - (l.length : Int) := w64 (by omega) (by omega)
  obtain ⟨r,er,hr⟩ := szS_l0 l hok h l.length 0 (1048576 - (l.length : Int)) (by omega) (by omega) (by omega)
  refine ⟨r,?_,fun hn => ⟨h,fun e he => ?_⟩⟩
  ·simp only [qjk.f,ew,if_neg (show ¬ (1048576 : Int) - (l.length : Int) < 0 by omega)]
   exact er
  ·obtain ⟨j,hj,rfl⟩ := List.getElem_of_mem he
   exact hr hn j hj (by omega)
 ·have ew : wrap64 (1048576 - (l.length : Int)) = 1048576 - (l.length : Int) := w64 (by omega) (by omega)
  refine ⟨-1,?_,fun hn => by omega⟩
  simp only [qjk.f,ew,if_pos (show (1048576 : Int) - (l.length : Int) < 0 by omega)]
  exact Ev.now _
theorem set_mid {α : Type} (A : List α) (z v : α) (m i : Nat) (h : A.length = i) : (A ++ List.replicate (m + 1) z).set i v = (A ++ [v]) ++ List.replicate m z := by
 subst h
 rw [List.set_append_right _ _ (Nat.le_refl _),Nat.sub_self,List.replicate_succ,List.set_cons_zero,List.append_assoc]
 rfl
theorem toS_l0 (l : List S24) (hs : ∀ e ∈ l,smallX e) (hlen : l.length ≤ 1048576) (d : Nat) : ∀ i,i + d = l.length → Ev (fun k => qjx.l0 k l ((l.take i).map toL ++ List.replicate d z27) (i : Int)) (l.map toL) := by
 induction d with
 | zero =>
  intro i hi
  refine Ev.upL ?_
  simp only [qjx.l0,if_neg (show ¬ ((i : Int) < (l.length : Int)) by omega)]
  rw [show i = l.length by omega,List.take_length,List.replicate_zero,List.append_nil]
  exact Ev.now _
 | succ d ih =>
  intro i hi
  have hlt : i < l.length := by omega
  have hs1 := hs _ (List.getElem_mem hlt)
  have ew : wrap64 ((i : Int) + 1) = ((i + 1 : Nat) : Int) := by rw [w64 (by omega) (by omega)];rfl
  have hlA : ((l.take i).map toL).length = i := by rw [List.length_map,List.length_take];omega
  have hl3 : ((l.take i).map toL ++ List.replicate (d + 1) z27).length = l.length := by rw [List.length_append,hlA,List.length_replicate];omega
  refine Ev.upL ?_
  simp only [qjx.l0,if_pos (show (i : Int) < (l.length : Int) by omega),if_pos (Int.natCast_nonneg i),rd24_nat hlt,hl3,ew]
  refine Ev.bind (toLogEntry_ev l[i].f0 l[i].f1 l[i].f2 l[i].f3 l[i].f4 hs1.1 hs1.2) ?_
  simp only [Int.toNat_natCast]
  rw [set_mid _ _ _ _ _ hlA]
  have hn := ih (i + 1) (by omega)
  rw [List.take_succ_eq_append_getElem hlt,List.map_append,List.map_singleton] at hn
  exact hn
theorem toS_ev (l : List S24) (hs : ∀ e ∈ l,smallX e) (hlen : l.length ≤ 1048576) : Ev (fun k => qjx.f k l) (l.map toL) := by
 simp only [qjx.f,if_pos (Int.natCast_nonneg l.length),Int.toNat_natCast,if_pos (show l.length ≤ 3198579280802 by omega)]
 have := toS_l0 l hs hlen l.length 0 (by omega)
 rw [List.take_zero,List.map_nil,List.nil_append] at this
 exact this
theorem rd27_nat {l : List S27} {i : Nat} (h : i < l.length) : wj l (i : Int) = l[i] := by simp [wj,List.getD_eq_getElem?_getD,List.getElem?_eq_getElem h]
theorem eqS_l0 (l : List S27) (hs : ∀ e ∈ l,e.f3.length ≤ 1048576 ∧ e.f4.length ≤ 1048576) (hlen : l.length ≤ 1048576) (d : Nat) : ∀ i,i + d = l.length → Ev (fun k => qzj.l0 k l l (i : Int)) true := by
 induction d with
 | zero =>
  intro i hi
  refine Ev.upL ?_
  simp only [qzj.l0,if_neg (show ¬ ((i : Int) < (l.length : Int)) by omega)]
  exact Ev.now _
 | succ d ih =>
  intro i hi
  have hlt : i < l.length := by omega
  have hs1 := hs _ (List.getElem_mem hlt)
  have ew : wrap64 ((i : Int) + 1) = ((i + 1 : Nat) : Int) := by rw [w64 (by omega) (by omega)];rfl
  refine Ev.upL ?_
  simp only [qzj.l0,if_pos (show (i : Int) < (l.length : Int) by omega),if_pos (Int.natCast_nonneg i),rd27_nat hlt,ew]
  refine Ev.bind (eqLogEntry_refl l[i].f0 l[i].f1 l[i].f2 l[i].f3 l[i].f4 hs1.1 hs1.2) ?_
  simp only [if_true]
  exact ih (i + 1) (by omega)
theorem eqS_refl (l : List S24) (hs : ∀ e ∈ l,smallX e) (hlen : l.length ≤ 1048576) : Ev (fun k => qzj.f k (l.map toL) (l.map toL)) true := by
 simp only [qzj.f,if_true]
 refine eqS_l0 (l.map toL) (fun e he => ?_) (by rw [List.length_map];exact hlen) (l.map toL).length 0 (by omega)
 obtain ⟨x,hx,rfl⟩ := List.mem_map.1 he
 exact hs x hx
theorem mkTot_bound (l3 l4 : Nat → Nat) (B n : Nat) (h : ∀ i,i < n → l3 i ≤ B ∧ l4 i ≤ B) : mkTot l3 l4 n ≤ n * (3 + 2 * B) := by
 induction n with
 | zero => exact Nat.zero_le _
 | succ n ih =>
  have h1 := ih (fun i hi => h i (by omega))
  have h2 := h n (by omega)
  show mkTot l3 l4 n + 3 + l3 n + l4 n ≤ (n + 1) * (3 + 2 * B)
  rw [Nat.add_mul]
  omega
theorem marks_f (l : List S24) (hs : ∀ e ∈ l,smallX e) (hlen : l.length ≤ 1048576) : ∃ r : Int,qzx.f (l.map toL) 1 = some r ∧ 0 ≤ r := by
 have hb : markTot (l.map toL) ≤ (l.map toL).length * (3 + 2 * 1048576) := by
  refine mkTot_bound _ _ _ _ (fun i hi => ?_)
  rw [List.length_map] at hi
  rw [rd27_nat (by rw [List.length_map];exact hi),List.getElem_map]
  exact hs _ (List.getElem_mem hi)
 rw [List.length_map] at hb
 have hb2 : l.length * (3 + 2 * 1048576) ≤ 1048576 * (3 + 2 * 1048576) := Nat.mul_le_mul_right _ hlen
 refine ⟨1 + markTot (l.map toL),?_,by omega⟩
 unfold qzx.f
 rw [if_pos ⟨by omega,by omega,by rw [List.length_map];omega⟩]
theorem toL_ok {l : List S24} (hok : ∀ e ∈ l,okX e) : ∀ e ∈ l.map toL,okR e := by
 intro e he
 obtain ⟨x,hx,rfl⟩ := List.mem_map.1 he
 obtain ⟨h1,h2,h3,h4⟩ := hok x hx
 exact ⟨h1,h2,isBytes_okL h3,isBytes_okL h4⟩
end Go.Proofs.Ytipdkendfcopiaa.Pr
namespace Go.Proofs.Ytipdkendfcopiaa.Pure
open Go.RowKit Go.Proofs.Ytipdkendfcopiaa.Read Go.Proofs.YtipdkendfcopiaaW.PrintWords Go.Proofs.Ytipdkendfcopiaa.Pr
set_option linter.unusedVariables false
theorem FnExactBridgeOf : qqw.Pure := by
 intro l a hl ha
 have hok : ∀ e ∈ l,okX e := fun e he => by
  have := hl.2 e he
  exact ⟨this.2.1,this.2.2.1,this.2.2.2.1,this.2.2.2.2⟩
 obtain ⟨r,hr,hsmall⟩ := szS_ev l hok hl.1
 apply Ev.rounds
 simp only [qqw.f]
 refine Ev.bind hr ?_
 by_cases hneg : r < 0
 ·simp only [if_pos hneg];exact Ev.now _
 obtain ⟨hlen,hs⟩ := hsmall hneg
 simp only [if_neg hneg]
 have hto := toS_ev l hs hlen
 have hspec := specBridgeOf_any (l.map toL) (toL_ok hok) a
 have himpl := implBridgeOf_any (l.map toL) (toL_ok hok) a
 have hR := bridgeR_ok (l.map toL) a
 generalize bridgeR (l.map toL) a = R at hspec himpl hR
 obtain ⟨m,hm,hm0⟩ := marks_f l hs hlen
 obtain ⟨q,hq,hq0,hheld⟩ := markRows_f R hR.1 hR.2
 have heq := eqByteSS_refl R (by omega) (fun b hb => by rw [(hR.2 b hb).2];omega)
 refine Ev.bind hto ?_
 refine Ev.bind hspec ?_
 refine Ev.bind hto ?_
 refine Ev.bind himpl ?_
 refine Ev.bind heq ?_
 simp only [if_true]
 refine Ev.bind hto ?_
 refine Ev.bind (eqS_refl l hs hlen) ?_
 simp only [if_true,hm,Option.bind_some,if_neg (show ¬ m < 0 by omega)]
 refine Ev.bind heq ?_
 simp only [if_true,hq,Option.bind_some]
 refine Ev.bind hheld ?_
 simp only [if_neg (show ¬ q < 0 by omega),if_true]
 refine Ev.bind hto ?_
 refine Ev.bind himpl ?_
 refine Ev.bind heq ?_
 simp only [if_true]
 refine Ev.bind hheld ?_
 simp only [if_neg (show ¬ q < 0 by omega),if_true]
 exact Ev.now _
end Go.Proofs.Ytipdkendfcopiaa.Pure
namespace Go.Proofs.Ytipdkendfcopiaa.fnExactBridgeOf
open Go.ChangeShapes Go.WideShapes Go.ChangeAt Go.RowKit Go.Proofs.Ytipdkendfcopiaa.Read Go.Proofs.YtipdkendfcopiaaW.PrintWords Go.Proofs.Ytipdkendfcopiaa.Pr
open Go.ChangeMaps (open_string shut_string)
set_option linter.unusedVariables false
theorem own : ownKnob Try.prog.godebug = none := by kernel_rfl
theorem laidOut : laidOutB Try.prog = true := by kernel_rfl
set_option maxRecDepth 100000 in
theorem lifted (os : Os) (started : os.Started) (H : Type) (enc : TypeId × Value → H) :
  ReturnsInHanded {} Try.checked os 9 .any (Rows.fnExactBridgeOfSpec.pre6 enc Try.prog Try.f9 Rows.fnExactBridgeOfRow.domain false) (Rows.fnExactBridgeOfSpec.post enc Try.prog Try.f9 false true false false) := by
 refine returnsInHanded_of_change (C := Try.checked) own started (by kernel_rfl) Try.func9
  (ChangeSpec.witness6 (enc := enc) (C := Try.checked) false ⟨#[],#[.slice none 0 0,.int .i64 0],[]⟩ 8 (by kernel_rfl) (by kernel_rfl) (by kernel_rfl) (by kernel_rfl)) ?_
 intro W base args ds gs before hval0 hW hcnd _
 have hval : ∀ (j : Nat) t v,Try.f9.params[j]? = some t → args[j]? = some v → Value.okWide Try.prog W .any base t v := hval0
 have hW' := hW
 obtain ⟨p,q,hA0,hV,rfl,hfz,hnd⟩ := hW
 have hA : DataW.TrodAll enc Try.prog W 0 (fun _ => true) true Try.f9.params.toList args.toList ds p := hA0
 rw [Try.params9] at hA hval
 obtain ⟨v0,vs0,d0,ds0,p0,q0,hargs,rfl,rfl,h0,r0⟩ := trodAll_cons hA
 obtain ⟨v1,vs1,d1,ds1,p1,q1,rfl,rfl,rfl,h1,r1⟩ := trodAll_cons r0
 obtain ⟨rfl,rfl,rfl⟩ := trodAll_nil r1
 obtain rfl : args = #[v0,v1] := by cases args;simp_all
 obtain ⟨rfl,rfl⟩ := trodVars_none hV
 have lt0 : ∀ x ∈ p0,x.block < W.heap.size := by obtain ⟨m,hm⟩ := h0;exact DataW.trod_lt m _ _ _ hm
 have bk0 := fun {W' : World} (bel : Below W.heap.size W W') => Below.trod laidOut (by kernel_rfl) (of_decide_eq_true (by kernel_rfl)) h0 bel lt0
 obtain ⟨A0,c0,l0,rfl,hl0,hC0,o0⟩ := arg_slice Try.underlying36 (tellsL Try.underlying36 (by kernel_rfl) tells24) (hval 0 36 v0 rfl rfl) h0
 have lt1 : ∀ x ∈ p1,x.block < W.heap.size := by obtain ⟨m,hm⟩ := h1;exact DataW.trod_lt m _ _ _ hm
 have bk1 := fun {W' : World} (bel : Below W.heap.size W W') => Below.trod laidOut (by kernel_rfl) (of_decide_eq_true (by kernel_rfl)) h1 bel lt1
 obtain ⟨a1,rfl,_,_,w1⟩ := open_int Try.underlying3 (hval 1 3 v1 rfl rfl) h1
 have o1 := int_bounds w1
 obtain ⟨k,hk⟩ := Pure.FnExactBridgeOf l0 a1 o0 o1
 refine (qqw.calls k _ _ l0 a1 true W hC0 hl0 hk).mono fun e W' hpost => ?_
 obtain ⟨he,hb⟩ := hpost
 have bel : Below W.heap.size W W' := hb
 subst he
 exact ⟨_,rfl,_,_,_,[],_,[],hW',trodAll_mk1 (shut_bool Try.underlying4 _),(trodAll_cons_mk (bk0 bel) (trodAll_cons_mk (bk1 bel) trodAll_mk0)),rfl,bel.frame _,fun h => by cases h⟩
theorem over : Rows.fnExactBridgeOfRow.holds Try.pinned (OpenSpec.ofChange Rows.fnExactBridgeOfSpec) :=
 OpenClaim.holds_of_wide 9 Try.f9 rfl rfl rfl rfl rfl rfl rfl ⟨rfl,rfl,rfl,rfl,rfl⟩ rfl rfl rfl rfl rfl (by kernel_rfl) Try.func9 (by kernel_rfl)
  (of_decide_eq_true (by kernel_rfl)) (by unfold Func.isWrapper;first | (rw [if_pos (by decide +kernel)];kernel_rfl) | (rw [if_neg (by decide +kernel)];exact ⟨rfl,rfl⟩))
  (fun os started H enc _ => lifted os started H enc)
theorem proved : Rows.FnExactBridgeOfSaid := over
#print axioms proved
end Go.Proofs.Ytipdkendfcopiaa.fnExactBridgeOf
namespace Go.Proofs.Ytipdkendfcopiaa
theorem fnExactBridgeOf_holds : Rows.FnExactBridgeOfSaid := fnExactBridgeOf.proved
end Go.Proofs.Ytipdkendfcopiaa
