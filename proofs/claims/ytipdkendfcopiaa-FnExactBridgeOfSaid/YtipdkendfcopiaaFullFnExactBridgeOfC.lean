/- Printed texts, walks and plain facts that the law FnExactBridgeOf leans on, joined. -/
import Derived.Test.YtipdkendfcopiaaFullFnExactBridgeOfB
import Derived.StillTailTactics
import Derived.Lib.SliceRun
import Derived.WalkSpells
import Derived.Lib.AppendZeros
namespace Go.Proofs.Ytipdkendfcopiaa.Pr
open Go.RowKit Go.Proofs.YtipdkendfcopiaaW.PrintWords Go.Proofs.YtipdkendfcopiaaW.PrintLast Go.Proofs.YtipdkendfcopiaaW.PrintMore
attribute [local go_sem] max2_int min2_int max_two min_two max_three min_three max_four min_four
set_option linter.unusedVariables false
set_option linter.unusedSimpArgs false
def qkw.l0 : Nat → List (List Int) → List (List Int) → Int → Int → Option ((List (List Int)))
 | 0,_,_,_,_ => none
 | k + 1,x3,x7,x8,x9 => if x9 < x8 then (if 0 ≤ x9 then (if x9 < (x7.length : Int) then (if ([] : List Int).length + (rd_L2 x7 x9).length < 140737488355328 then (if x3.length < 5864062014805 then (qkw.l0 k (x3 ++ [(([] : List Int) ++ (rd_L2 x7 x9))]) x7 x8 (wrap64 (x9 + 1))) else (none)) else (none)) else (none)) else (none)) else (some x3)
def qkw.f (k : Nat) (l0 : List (List Int)) : Option ((List (List Int))) := qkw.l0 k ([] : List (List Int)) l0 (l0.length : Int) 0
set_option maxHeartbeats 8000000 in
set_option maxRecDepth 100000 in
theorem qkw.calls (k : Nat) (A0 : Option Addr) (c0 : Nat) (l0 : List (List Int)) (r : List (List Int)) (w : World) (hr0 : Kd.C (Kd.slice 5 (Kd.int .u8)) w A0 l0.length l0) (hc0 : l0.length ≤ c0) (h : qkw.f k l0 = some r) :
  Calls Try.prog 85 #[.slice A0 l0.length c0] w fun e w' => ∃ v0_ : Value,e = .returned (v0_) ∧ Kd.S (Kd.slice 5 (Kd.int .u8)) 22 w' w.heap.size (fun _ => True) v0_ r ∧ Below w.heap.size w w' := by
 have HR0 := qq.mk hr0
 have HC0 := qq.mk hc0
 clear hr0 hc0
 have HB := qq.mk (Below.refl w.heap.size w)
 have H : (qkw.l0 k ([] : List (List Int)) l0 (l0.length : Int) 0) = some r := h
 clear h
 have H' := qq.mk H
 clear H
 go_enter Try.func85,Try.ntmps85
 go_wp2
 go_loopg [3,9] k (fun kq v3 v9 w' => ∃ (x3_1 : List (List Int)) (x9_1 : Int),v9 = .int .i64 x9_1 ∧ qq (qkw.l0 kq x3_1 l0 (l0.length : Int) x9_1 = some r) ∧ qq (kq ≤ k) ∧ qq (Kd.S (Kd.slice 5 (Kd.int .u8)) 22 w' w.heap.size (fun _ => True) v3 x3_1) ∧ qq (Below w.heap.size w w'))
 case atStart => exact ⟨(([] : List (List Int))),(0),(by first | rfl | (simp;done) | (simp [*];done)),H',⟨Nat.le_refl _⟩,⟨by first | exact Kd.S_nil _ _ _ _ _ | exact Kd.N_nil _ _ _ _ _ | exact Kd.V_nil _ _ _ _ _ | exact Kd.Q_nil _ _ _ _ _ | exact Kd.R_nil _ _ _ _ _⟩,⟨by repeat (first | (with_reducible first | exact HB.out | apply qj | apply qz | apply qk) | exact HB.out)⟩⟩
 case round =>
  clear H'
  obtain ⟨x3_1,x9_1,rfl,HA,HK1,HO_3,HB⟩ := hrel
  cases gk with
  | zero => exact absurd HA.out (by simp [qkw.l0])
  | succ k1 =>
   have H := HA.out
   clear HA
   simp only [qkw.l0] at H
   by_cases c2 : x9_1 < (l0.length : Int)
   ·rw [if_pos c2] at H
    have c2b0 : decide (x9_1 < (l0.length : Int)) = true := decide_eq_true c2
    clear c2
    by_cases c3 : 0 ≤ x9_1
    ·rw [if_pos c3] at H
     have c3b0 : decide (0 ≤ x9_1) = true := decide_eq_true c3
     clear c3
     by_cases c4 : x9_1 < (l0.length : Int)
     ·rw [if_pos c4] at H
      have c4b0 : decide (x9_1 < (l0.length : Int)) = true := decide_eq_true c4
      clear c4
      by_cases c5 : ([] : List Int).length + (rd_L2 l0 x9_1).length < 140737488355328
      ·rw [if_pos c5] at H
       have LMc5 := qq.mk c5
       clear c5
       obtain ⟨y102,hy102⟩ : ∃ y_ : List Int,y_ = (([] : List Int) ++ (rd_L2 l0 x9_1)) := ⟨_,rfl⟩
       replace H : (if x3_1.length < 5864062014805 then (qkw.l0 k1 (x3_1 ++ [y102]) l0 (l0.length : Int) (wrap64 (x9_1 + 1))) else (none)) = some r := by first | (rw [hy102];with_reducible exact H) | (have H2_ := (Option.bind_some _ _).symm.trans H;rw [hy102];with_reducible exact H2_) | (have H2_ := (Option.bind_some _ _).symm.trans H;with_reducible exact H2_) | with_reducible exact H | (rw [hy102];exact H) | exact H
       have Ny102 := qq.mk hy102
       clear hy102
       by_cases c6 : x3_1.length < 5864062014805
       ·rw [if_pos c6] at H
        have LMc6 := qq.mk c6
        clear c6
        obtain ⟨y105,hy105⟩ : ∃ y_ : List (List Int),y_ = (x3_1 ++ [y102]) := ⟨_,rfl⟩
        replace H : (qkw.l0 k1 y105 l0 (l0.length : Int) (wrap64 (x9_1 + 1))) = some r := by first | (rw [hy105];with_reducible exact H) | (have H2_ := (Option.bind_some _ _).symm.trans H;rw [hy105];with_reducible exact H2_) | (have H2_ := (Option.bind_some _ _).symm.trans H;with_reducible exact H2_) | with_reducible exact H | (rw [hy105];exact H) | exact H
        have Ny105 := qq.mk hy105
        clear hy105
        have H' := qq.mk H
        clear H
        have p101 : 0 ≤ (x9_1 : Int) := of_decide_eq_true (by assumption)
        have q101 : x9_1 < (l0.length : Int) := of_decide_eq_true (by assumption)
        obtain ⟨ad101,A101_0,c101_0,e101,hx101_0,hl101_0,hi101_0⟩ := at_L2 HR0.out x9_1 p101 q101
        cases e101
        replace hx101_0 := (HB.out.cell (World.block_lt_of_cell? w _ hx101_0)).trans hx101_0
        have HR101_0 := qq.mk hi101_0
        have HC101_0 := qq.mk hl101_0
        clear hi101_0 hl101_0
        replace p101 := eq_true p101
        replace q101 := eq_true q101
        go_wp2_with (first | ((with_reducible refine gate_builtin (b := .append) (xs := #[.tmp 14,.tmp 15]) rfl ?_);at_builtin;refine Kd.R_append_rows (Kd.int .u8) (w0 := w) w.heap.size rfl (.tmp 14) (.tmp 15) 22 5 (.int .u8 0) 1 rfl Try.underlying22 info5 rfl (by decide) (by omega) (.slice none 0 0) ([] : List Int) (rd_L2 l0 x9_1) _ _ _ (fun _ => True) (fun _ => False) rfl rfl ?aO ?aR (fun _ _ h => h) (fun _ h => h.elim) ?aF ?aB ?aS ?aL ?_;(case aR => repeat (first | exact (Kd.C_below HR101_0.out HB.out) | (with_reducible refine Kd.C_alloc ?_ _) | (with_reducible refine Kd.C_drewN ?_ _) | (with_reducible refine Kd.C_drew ?_)));(case aB => exact (by repeat (first | (with_reducible first | exact HB.out | apply qj | apply qz | apply qk) | exact HB.out)));(case aF => exact (fun _ _ => trivial));(case aO => exact ((Kd.R_nil _ _ _ _ (fun _ => True))));(case aS => exact (zw (by repeat (first | (with_reducible first | exact HB.out | apply qj | apply qz | apply qk) | exact HB.out))));(case aL => have := LMc5.out;omega);intro v103 w7 ho hb hg hat;rw [← Ny102.out] at ho;have n0_ := qq.mk (Kd.S_after (Kd.S_apart_nil (by (with_reducible repeat (first | apply Kd.kx | apply Kd.kw | apply Kd.vq));exact HO_3.out)) hg hat);have n1_ := qq.mk (hb);have n2_ := qq.mk (ho);clear HO_3;clear HB;have HO_3 := n0_;have HB := n1_;have HO104 := n2_;clear n0_ n1_ n2_;clear ho hb hg hat;obtain ⟨Ao9,co9,eo9⟩ := Kd.R_slice HO104.out;subst eo9) | ((with_reducible refine gate_builtin (b := .append) (xs := #[.tmp 13,.tmp 17]) rfl ?_);at_builtin;refine Kd.S_append (Kd.slice 5 (Kd.int .u8)) (w0 := w) w.heap.size rfl (.tmp 13) (.tmp 17) 44 22 (.slice none 0 0) 24 rfl Try.underlying44 info22 rfl (by decide) (by omega) u3 x3_1 y102 [.slice Ao9 y102.length co9] (fun _ => True) (fun k_ => some k_ = (.slice Ao9 y102.length co9 : Value).ownBlock) rfl rfl ?aP (fun k_ hk_ => ((Kd.R_mono (ok' := fun k_ => ((fun _ => True)) k_ ∧ some k_ ≠ (u3 : Value).ownBlock) (Kd.R_apart' (HO104.out) (Kd.S_typed HO_3.out) (by decide)) (fun k_ hk => ⟨trivial,hk.2⟩))).1 k_ hk_.symm) ?aF ?aO ?aB ?aS ?aL ?_;(case aP => exact Kd.M_row (Kd.R_mono (Kd.R_tight rfl (Kd.R_mono (ok' := fun k_ => ((fun _ => True)) k_ ∧ some k_ ≠ (u3 : Value).ownBlock) (Kd.R_apart' (HO104.out) (Kd.S_typed HO_3.out) (by decide)) (fun k_ hk => ⟨trivial,hk.2⟩))) (fun _ h_ => h_)));(case aB => exact (by repeat (first | (with_reducible first | exact HB.out | apply qj | apply qz | apply qk) | exact HB.out)));(case aF => exact (fun _ _ => trivial));(case aO => exact (by (with_reducible repeat (first | apply Kd.kx | apply Kd.kw | apply Kd.vq));exact Kd.S_mono HO_3.out (fun k_ hk => ⟨trivial,fun e_ => hk.2 e_⟩)));(case aS => exact (zw (by repeat (first | (with_reducible first | exact HB.out | apply qj | apply qz | apply qk) | exact HB.out))));(case aL => have := LMc6.out;omega);intro v106 w8 ho hb hg hat;rw [← Ny105.out] at ho;have n0_ := qq.mk (hb);have n1_ := qq.mk (ho);clear HB;clear HO_3;clear HO104;have HB := n0_;have HO107 := n1_;clear n0_ n1_;clear ho hb hg hat))
        go_roundg k1
        case measure => have := HK1.out;omega
        case rel => exact ⟨(y105),(wrap64 (x9_1 + 1)),(by first | rfl | (simp;done) | (simp [*];done)),H',⟨by have := HK1.out;omega⟩,⟨by (with_reducible repeat (first | apply Kd.kx | apply Kd.kw | apply Kd.vq));exact HO107.out⟩,⟨by repeat (first | (with_reducible first | exact HB.out | apply qj | apply qz | apply qk) | exact HB.out)⟩⟩
       ·rw [if_neg c6] at H
        exact absurd H (by simp)
      ·rw [if_neg c5] at H
       exact absurd H (by simp)
     ·rw [if_neg c4] at H
      exact absurd H (by simp)
    ·rw [if_neg c3] at H
     exact absurd H (by simp)
   ·rw [if_neg c2] at H
    have c2b0 : decide (x9_1 < (l0.length : Int)) = false := decide_eq_false c2
    clear c2
    obtain rfl := Option.some.inj H
    go_wp2
    go_ret
    exact ⟨_,by first | rfl | (simp [*,jk,jj] <;> rfl),by (with_reducible repeat (first | apply Kd.kx | apply Kd.kw | apply Kd.vq));exact HO_3.out,by repeat (first | (with_reducible first | exact HB.out | apply qj | apply qz | apply qk) | exact HB.out)⟩
def qvq.l0 : Nat → Int → Int → Option (Int)
 | 0,_,_ => none
 | k + 1,x0,x3 => if (wrap64 (x3 * 2)) < x0 then (qvq.l0 k x0 (wrap64 (x3 * 2))) else (some x3)
def qvq.f (k : Nat) (a0 : Int) : Option (Int) := qvq.l0 k a0 1
theorem qvq.mono_l : ∀ k,(∀ y0 y1,LeO (qvq.l0 k y0 y1) (qvq.l0 (k + 1) y0 y1))
 | 0 => fun _ _ r h => by simp [qvq.l0] at h
 | k + 1 => by
  have ih0 := qvq.mono_l k
  ·intro y0 y1
   unfold qvq.l0
   repeat' first
   | (with_reducible exact ih0 _ _)
   | (with_reducible exact LeO.refl _)
   | (with_reducible exact LeO.none _)
   | (with_reducible refine LeO.ite ?_ ?_)
   | (with_reducible refine LeO.bind ?_ (fun _ => ?_))
   | exact ih0 _ _
   | exact LeO.none _
   | refine LeO.ite ?_ ?_
   | refine LeO.bind ?_ (fun _ => ?_)
theorem qvq.mono : ∀ a0 k,LeO (qvq.f k a0) (qvq.f (k + 1) a0) := by
 intro a0 k
 have ih0 := qvq.mono_l k
 unfold qvq.f
 repeat' first
   | (with_reducible exact ih0 _ _)
   | (with_reducible exact LeO.refl _)
   | (with_reducible exact LeO.none _)
   | (with_reducible refine LeO.ite ?_ ?_)
   | (with_reducible refine LeO.bind ?_ (fun _ => ?_))
   | exact ih0 _ _
   | exact LeO.none _
   | refine LeO.ite ?_ ?_
   | refine LeO.bind ?_ (fun _ => ?_)
set_option maxHeartbeats 8000000 in
set_option maxRecDepth 100000 in
theorem qvq.calls (k : Nat) (a0 : Int) (r : Int) (w : World) (h : qvq.f k a0 = some r) :
  Calls Try.prog 119 #[.int .i64 a0] w fun e w' => e = .returned (.int .i64 r) ∧ Drawn0 w w' := by
 have H : (qvq.l0 k a0 1) = some r := h
 clear h
 have H' := qq.mk H
 clear H
 go_enter Try.func119,Try.ntmps119
 go_wp2
 go_loopg [3] k (fun kq v3 w' => ∃ (x3_1 : Int),v3 = .int .i64 x3_1 ∧ qq (qvq.l0 kq a0 x3_1 = some r) ∧ qq (kq ≤ k) ∧ Drawn0 w w')
 case atStart => exact ⟨(1),(by first | rfl | (simp;done) | (simp [*];done)),H',⟨Nat.le_refl _⟩,by repeat (first | exact Drawn0.refl _ | apply Drawn0.step)⟩
 case round =>
  clear H'
  try clear c1
  obtain ⟨x3_1,rfl,HA,HK1,⟨m1,rfl⟩⟩ := hrel
  cases gk with
  | zero => exact absurd HA.out (by simp [qvq.l0])
  | succ k1 =>
   have H := HA.out
   clear HA
   simp only [qvq.l0] at H
   by_cases c2 : (wrap64 (x3_1 * 2)) < a0
   ·rw [if_pos c2] at H
    have c2b0 : decide ((wrap64 (x3_1 * 2)) < a0) = true := decide_eq_true c2
    clear c2
    have H' := qq.mk H
    clear H
    go_wp2
    go_roundg k1
    case measure => have := HK1.out;omega
    case rel => exact ⟨(wrap64 (x3_1 * 2)),(by first | rfl | (simp;done) | (simp [*];done)),H',⟨by have := HK1.out;omega⟩,by repeat (first | exact Drawn0.refl _ | apply Drawn0.step)⟩
   ·rw [if_neg c2] at H
    have c2b0 : decide ((wrap64 (x3_1 * 2)) < a0) = false := decide_eq_false c2
    clear c2
    obtain rfl := Option.some.inj H
    go_wp2
    go_ret
    exact ⟨by first | rfl | (simp;done) | (simp [*];done),by repeat (first | exact Drawn0.refl _ | apply Drawn0.step)⟩
def qvk.f (k : Nat) (l0 : List Int) (l1 : List Int) : Option (List Int) := (some (([1] : List Int) : List Int)).bind fun y101 => (if y101.length + l0.length < 140737488355328 then ((some (y101 ++ l0 : List Int)).bind fun y104 => (if y104.length + l1.length < 140737488355328 then ((qwq.f k (y104 ++ l1)).bind fun t110 => (some t110)) else (none))) else (none))
theorem qvk.mono : ∀ a0 a1 k,LeO (qvk.f k a0 a1) (qvk.f (k + 1) a0 a1) := by
 intro a0 a1 k
 unfold qvk.f
 repeat' first
   | (with_reducible exact qwq.mono _ _)
   | (with_reducible exact LeO.refl _)
   | (with_reducible exact LeO.none _)
   | (with_reducible refine LeO.ite ?_ ?_)
   | (with_reducible refine LeO.bind ?_ (fun _ => ?_))
   | exact qwq.mono _ _
   | exact LeO.none _
   | refine LeO.ite ?_ ?_
   | refine LeO.bind ?_ (fun _ => ?_)
set_option maxHeartbeats 8000000 in
set_option maxRecDepth 100000 in
theorem qvk.calls (k : Nat) (A0 : Option Addr) (c0 : Nat) (l0 : List Int) (A1 : Option Addr) (c1 : Nat) (l1 : List Int) (r : List Int) (w : World) (hr0 : Kd.C (Kd.int .u8) w A0 l0.length l0) (hc0 : l0.length ≤ c0) (hr1 : Kd.C (Kd.int .u8) w A1 l1.length l1) (hc1 : l1.length ≤ c1) (h : qvk.f k l0 l1 = some r) :
  Calls Try.prog 120 #[.slice A0 l0.length c0,.slice A1 l1.length c1] w fun e w' => ∃ v0_ : Value,e = .returned (v0_) ∧ Kd.R (Kd.int .u8) 5 w' w.heap.size (fun _ => True) v0_ r ∧ Below w.heap.size w w' := by
 have HR0 := qq.mk hr0
 have HC0 := qq.mk hc0
 clear hr0 hc0
 have HR1 := qq.mk hr1
 have HC1 := qq.mk hc1
 clear hr1 hc1
 have HB := qq.mk (Below.refl w.heap.size w)
 have H : ((some (([1] : List Int) : List Int)).bind fun y101 => (if y101.length + l0.length < 140737488355328 then ((some (y101 ++ l0 : List Int)).bind fun y104 => (if y104.length + l1.length < 140737488355328 then ((qwq.f k (y104 ++ l1)).bind fun t110 => (some t110)) else (none))) else (none))) = some r := h
 clear h
 obtain ⟨y101,hy101⟩ : ∃ y_ : List Int,y_ = (([1] : List Int)) := ⟨_,rfl⟩
 replace H : (if y101.length + l0.length < 140737488355328 then ((some (y101 ++ l0 : List Int)).bind fun y104 => (if y104.length + l1.length < 140737488355328 then ((qwq.f k (y104 ++ l1)).bind fun t110 => (some t110)) else (none))) else (none)) = some r := by first | (rw [hy101];with_reducible exact H) | (have H2_ := (Option.bind_some _ _).symm.trans H;rw [hy101];with_reducible exact H2_) | (have H2_ := (Option.bind_some _ _).symm.trans H;with_reducible exact H2_) | with_reducible exact H | (rw [hy101];exact H) | exact H
 have Ny101 := qq.mk hy101
 clear hy101
 by_cases c3 : y101.length + l0.length < 140737488355328
 ·rw [if_pos c3] at H
  have LMc3 := qq.mk c3
  clear c3
  obtain ⟨y104,hy104⟩ : ∃ y_ : List Int,y_ = (y101 ++ l0) := ⟨_,rfl⟩
  replace H : (if y104.length + l1.length < 140737488355328 then ((qwq.f k (y104 ++ l1)).bind fun t110 => (some t110)) else (none)) = some r := by first | (rw [hy104];with_reducible exact H) | (have H2_ := (Option.bind_some _ _).symm.trans H;rw [hy104];with_reducible exact H2_) | (have H2_ := (Option.bind_some _ _).symm.trans H;with_reducible exact H2_) | with_reducible exact H | (rw [hy104];exact H) | exact H
  have Ny104 := qq.mk hy104
  clear hy104
  by_cases c4 : y104.length + l1.length < 140737488355328
  ·rw [if_pos c4] at H
   have LMc4 := qq.mk c4
   clear c4
   obtain ⟨y107,hy107⟩ : ∃ y_ : List Int,y_ = (y104 ++ l1) := ⟨_,rfl⟩
   replace H : ((qwq.f k y107).bind fun t110 => (some t110)) = some r := by first | (rw [hy107];with_reducible exact H) | (have H2_ := (Option.bind_some _ _).symm.trans H;rw [hy107];with_reducible exact H2_) | (have H2_ := (Option.bind_some _ _).symm.trans H;with_reducible exact H2_) | with_reducible exact H | (rw [hy107];exact H) | exact H
   have Ny107 := qq.mk hy107
   clear hy107
   replace H := Option.bind_eq_some_iff.mp H
   obtain ⟨t110,A50,H⟩ := H
   replace H : (some t110) = some r := H
   have A5 := qq.mk A50
   clear A50
   obtain rfl := Option.some.inj H
   go_enter Try.func120,Try.ntmps120
   go_wp2_with (first | ((with_reducible refine gate_dst (N := 6) rfl ?_);refine Kd.R_lit (Kd.int .u8) _ 5 ?hg (N := 6) ?hd (xs := ([1] : List Int)) (inner := [.int .u8 1]) (ok := fun _ => True) (okp := fun _ => True) ?hr ?hp (fun _ hk => hk) trivial (Below.refl _ _) (Nat.le_refl _) (by simp) ?_;(case hd => rfl);(case hg => rfl);(case hr => first | (go_simp;done) | (go_simp;rfl));(case hp => exact (Reps.one (show Kd.M (Kd.int .u8) _ _ _ 1 [.int .u8 1] from rfl) (Reps.none _ _)));intro v102 w6 ho7 hb hg_ hnew_;clear hg_ hnew_;(first | rw [← Ny101.out] at ho7 | (simp only [Int.reduceToNat] at ho7;rw [← Ny101.out] at ho7));have n0_ := qq.mk (Kd.R_lower ho7 (zw (by repeat (first | (with_reducible first | exact HB.out | apply qj | apply qz | apply qk) | exact HB.out))));have n1_ := qq.mk (zv (by repeat (first | (with_reducible first | exact HB.out | apply qj | apply qz | apply qk) | exact HB.out)) hb);clear HB;have HO103 := n0_;have HB := n1_;clear n0_ n1_;clear hb ho7) | ((with_reducible refine gate_builtin (b := .append) (xs := #[.tmp 7,.tmp 8]) rfl ?_);at_builtin;refine Kd.R_append_rows (Kd.int .u8) (w0 := w) w.heap.size rfl (.tmp 7) (.tmp 8) 22 5 (.int .u8 0) 1 rfl Try.underlying22 info5 rfl (by decide) (by omega) v102 y101 l0 _ _ _ (fun _ => True) (fun _ => False) rfl rfl ?aO ?aR (fun _ _ h => h) (fun _ h => h.elim) ?aF ?aB ?aS ?aL ?_;(case aR => repeat (first | exact (Kd.C_below HR0.out HB.out) | (with_reducible refine Kd.C_alloc ?_ _) | (with_reducible refine Kd.C_drewN ?_ _) | (with_reducible refine Kd.C_drew ?_)));(case aB => exact (by repeat (first | (with_reducible first | exact HB.out | apply qj | apply qz | apply qk) | exact HB.out)));(case aF => exact (fun _ _ => trivial));(case aO => exact (by (with_reducible repeat (first | apply Kd.jq | apply Kd.zx | apply Kd.jz));exact HO103.out));(case aS => exact (zw (by repeat (first | (with_reducible first | exact HB.out | apply qj | apply qz | apply qk) | exact HB.out))));(case aL => have := LMc3.out;omega);intro v105 w8 ho hb hg hat;rw [← Ny104.out] at ho;have n0_ := qq.mk (hb);have n1_ := qq.mk (ho);clear HB;clear HO103;have HB := n0_;have HO106 := n1_;clear n0_ n1_;clear ho hb hg hat) | ((with_reducible refine gate_builtin (b := .append) (xs := #[.tmp 9,.tmp 10]) rfl ?_);at_builtin;refine Kd.R_append_rows (Kd.int .u8) (w0 := w) w.heap.size rfl (.tmp 9) (.tmp 10) 22 5 (.int .u8 0) 1 rfl Try.underlying22 info5 rfl (by decide) (by omega) v105 y104 l1 _ _ _ (fun _ => True) (fun _ => False) rfl rfl ?aO ?aR (fun _ _ h => h) (fun _ h => h.elim) ?aF ?aB ?aS ?aL ?_;(case aR => repeat (first | exact (Kd.C_below HR1.out HB.out) | (with_reducible refine Kd.C_alloc ?_ _) | (with_reducible refine Kd.C_drewN ?_ _) | (with_reducible refine Kd.C_drew ?_)));(case aB => exact (by repeat (first | (with_reducible first | exact HB.out | apply qj | apply qz | apply qk) | exact HB.out)));(case aF => exact (fun _ _ => trivial));(case aO => exact (by (with_reducible repeat (first | apply Kd.jq | apply Kd.zx | apply Kd.jz));exact HO106.out));(case aS => exact (zw (by repeat (first | (with_reducible first | exact HB.out | apply qj | apply qz | apply qk) | exact HB.out))));(case aL => have := LMc4.out;omega);intro v108 w9 ho hb hg hat;rw [← Ny107.out] at ho;have n0_ := qq.mk (hb);have n1_ := qq.mk (ho);clear HB;clear HO106;have HB := n0_;have HO109 := n1_;clear n0_ n1_;clear ho hb hg hat;obtain ⟨Ao10,co10,eo10⟩ := Kd.R_slice HO109.out;subst eo10) | ((with_reducible refine jv (f := 116) rfl ?_);refine goesL_ (some 12) rfl rfl Try.func116 (by kernel_rfl) rfl #[.slice Ao10 y107.length co10] rfl (by (try simp only [List.map_toArray,List.map_cons,List.map_nil]);first | done | rfl | (simp only [List.length_drop,List.length_take];rfl)) ?_;(with_reducible refine (qwq.calls k _ _ y107 t110 _ ?side1 ?side2 A5.out).mono ?_);(case side1 => repeat (first | exact (Kd.R_reads' HO109.out).2.2 | (with_reducible refine Kd.C_alloc ?_ _) | (with_reducible refine Kd.C_drewN ?_ _) | (with_reducible refine Kd.C_drew ?_)));(case side2 => exact (Kd.R_reads' HO109.out).2.1);rintro e w11 ⟨v111,rfl,ho0,hb⟩;refine ⟨_,rfl,?_⟩;have n0_ := qq.mk (Kd.R_elder' (by (with_reducible repeat (first | apply Kd.jq | apply Kd.zx | apply Kd.jz));exact HO109.out) (Kd.R_base ho0) hb);have n1_ := qq.mk (Kd.R_lower (Kd.R_new' ho0 (Kd.R_lt (by (with_reducible repeat (first | apply Kd.jq | apply Kd.zx | apply Kd.jz));exact HO109.out))) (zw (by repeat (first | (with_reducible first | exact HB.out | apply qj | apply qz | apply qk) | exact HB.out))));have n2_ := qq.mk (zv (by repeat (first | (with_reducible first | exact HB.out | apply qj | apply qz | apply qk) | exact HB.out)) hb);clear HO109;clear HB;have HO109 := n0_;have HO112 := n1_;have HB := n2_;clear n0_ n1_ n2_;(try clear hb);(try clear hb2);(try clear hk);(try clear hi);(try clear ho0)))
   go_ret
   exact ⟨_,by first | rfl | (simp [*,jk,jj] <;> rfl),by (with_reducible repeat (first | apply Kd.jq | apply Kd.zx | apply Kd.jz));exact Kd.R_mono HO112.out (fun _ hk => trivial),by repeat (first | (with_reducible first | exact HB.out | apply qj | apply qz | apply qk) | exact HB.out)⟩
  ·rw [if_neg c4] at H
   exact absurd H (by simp)
 ·rw [if_neg c3] at H
  exact absurd H (by simp)
def qvw.f : Nat → List (List Int) → Option (List Int)
 | 0,_ => none
 | k + 1,l0 => if (l0.length : Int) = 0 then ((qwq.f k ([] : List Int)).bind fun t101 => (some t101)) else (if (l0.length : Int) = 1 then (if 0 < (l0.length : Int) then (some (rd_L2 l0 0)) else (none)) else ((qvq.f k (l0.length : Int)).bind fun t105 => (if 0 ≤ t105 then (if t105 ≤ (l0.length : Int) then ((qvw.f k (l0.take (t105 : Int).toNat)).bind fun t111 => ((qvw.f k (l0.drop (t105 : Int).toNat)).bind fun t119 => ((qvk.f k t111 t119).bind fun t122 => (some t122)))) else (none)) else (none))))
def qvw.T7 : Bool × List (List Nat × List Nat) := (true,[([],[]),([],[]),([0,1],[0,1]),([2],[2]),([],[]),([],[]),([4,5],[4,5]),([6,3],[6]),([3,7,7],[3,7]),([8,8,0,1,2,3,4,5,6,7,8],[8])])
def qvw.B7 : List Nat := [0,0,3,7,0,0,48,127,255,511]
theorem qvw.tab7 : rtab .any (opsOf Try.f81 7) = qvw.T7 := by kernel_rfl
theorem qvw.bits7 : waitsOk qvw.T7.2 qvw.B7 = true := by kernel_rfl
set_option maxHeartbeats 8000000 in
set_option maxRecDepth 100000 in
theorem qvw.calls (k : Nat) : ∀ (P0_ : Nat → Prop) (A0 : Option Addr) (c0 : Nat) (l0 : List (List Int)) (r : List Int) (w : World) (hs0 : Kd.V (Kd.slice 5 (Kd.int .u8)) 22 w w.heap.size (fun k_ => P0_ k_) (.slice A0 l0.length c0) l0) (h : qvw.f k l0 = some r),
  Calls Try.prog 81 #[.slice A0 l0.length c0] w fun e w' => ∃ v0_ : Value,e = .returned (v0_) ∧ Kd.V (Kd.int .u8) 5 w' w.heap.size (fun k_ => (P0_ k_ ∨ w.heap.size ≤ k_)) v0_ r ∧ Below w.heap.size w w' := by
 induction k using Nat.strongRecOn with
 | _ k ih =>
 intro P0_ A0 c0 l0 r w hs0 h
 cases k with
 | zero => exact absurd h (by simp [qvw.f])
 | succ k =>
 simp only [qvw.f] at h
 have HO0 := qq.mk (show Kd.V (Kd.slice 5 (Kd.int .u8)) 22 w w.heap.size (fun k_ => (P0_ k_ ∨ w.heap.size ≤ k_)) (.slice A0 l0.length c0) l0 from Kd.V_mono hs0 (fun k_ hk => .inl hk))
 have HB := qq.mk (Below.refl w.heap.size w)
 have H : (if (l0.length : Int) = 0 then ((qwq.f k ([] : List Int)).bind fun t101 => (some t101)) else (if (l0.length : Int) = 1 then (if 0 < (l0.length : Int) then (some (rd_L2 l0 0)) else (none)) else ((qvq.f k (l0.length : Int)).bind fun t105 => (if 0 ≤ t105 then (if t105 ≤ (l0.length : Int) then ((qvw.f k (l0.take (t105 : Int).toNat)).bind fun t111 => ((qvw.f k (l0.drop (t105 : Int).toNat)).bind fun t119 => ((qvk.f k t111 t119).bind fun t122 => (some t122)))) else (none)) else (none))))) = some r := h
 clear h
 by_cases c2 : (l0.length : Int) = 0
 ·rw [if_pos c2] at H
  have c2b0 : ((l0.length : Int) == 0) = true := beq_iff_eq.mpr c2
  have c2b1 : ((l0.length : Int) != 0) = false := bne_eq_false_iff_eq.mpr c2
  clear c2
  replace H := Option.bind_eq_some_iff.mp H
  obtain ⟨t101,A30,H⟩ := H
  replace H : (some t101) = some r := H
  have A3 := qq.mk A30
  clear A30
  obtain rfl := Option.some.inj H
  go_enter Try.func81,Try.ntmps81
  go_wp2_with (first | ((with_reducible refine jv (f := 116) rfl ?_);refine goesL_ (some 8) rfl rfl Try.func116 (by kernel_rfl) rfl #[.slice none 0 0] rfl (by (try simp only [List.map_toArray,List.map_cons,List.map_nil]);first | done | rfl | (simp only [List.length_drop,List.length_take];rfl)) ?_;(refine (qwq.calls k _ _ ([] : List Int) t101 _ ?side1 ?side2 A3.out).mono ?_);(case side1 => exact Kd.C_nil _ _);(case side2 => exact Nat.le_refl _);rintro e w4 ⟨v102,rfl,ho0,hb⟩;refine ⟨_,rfl,?_⟩;have n0_ := qq.mk (Kd.V_elder' (by (with_reducible repeat (first | apply Kd.vk | apply Kd.vz | apply Kd.vv));exact HO0.out) (Kd.R_base ho0) hb);have n1_ := qq.mk (Kd.R_lower (Kd.R_newM (M := fun k_ => (w.heap.size ≤ k_)) ho0 (zw (by repeat (first | (with_reducible first | exact HB.out | apply qj | apply qz | apply qk) | exact HB.out))) (fun k_ h_ => h_)) (zw (by repeat (first | (with_reducible first | exact HB.out | apply qj | apply qz | apply qk) | exact HB.out))));have n2_ := qq.mk (zv (by repeat (first | (with_reducible first | exact HB.out | apply qj | apply qz | apply qk) | exact HB.out)) hb);clear HO0;clear HB;have HO0 := n0_;have HO103 := n1_;have HB := n2_;clear n0_ n1_ n2_;(try clear hb);(try clear hb2);(try clear hk);(try clear hi);(try clear ho0)))
  go_ret
  exact ⟨_,by first | rfl | (simp [*,jk,jj] <;> rfl),Kd.V_mono (Kd.R_V (by (with_reducible repeat (first | apply Kd.jq | apply Kd.zx | apply Kd.jz));exact Kd.R_mono HO103.out (fun _ hk => hk.1))) (fun k_ hk => by first | exact ⟨(.inr (hk.1)),hk.2⟩ | exact (.inr (hk))),by repeat (first | (with_reducible first | exact HB.out | apply qj | apply qz | apply qk) | exact HB.out)⟩
 ·rw [if_neg c2] at H
  have c2b0 : ((l0.length : Int) == 0) = false := beq_eq_false_iff_ne.mpr c2
  have c2b1 : ((l0.length : Int) != 0) = true := bne_iff_ne.mpr c2
  have c2b2 : ¬ (l0 = []) := fun h_ => c2 (by rw [h_];rfl)
  by_cases c5 : (l0.length : Int) = 1
  ·rw [if_pos c5] at H
   have c5b0 : ((l0.length : Int) == 1) = true := beq_iff_eq.mpr c5
   have c5b1 : ((l0.length : Int) != 1) = false := bne_eq_false_iff_eq.mpr c5
   clear c5
   by_cases c6 : 0 < (l0.length : Int)
   ·rw [if_pos c6] at H
    have c6b0 : decide (0 < (l0.length : Int)) = true := decide_eq_true c6
    have c6b1 : decide (0 < l0.length) = true := decide_eq_true (by omega)
    clear c6
    obtain rfl := Option.some.inj H
    have p104 : 0 ≤ (0 : Int) := (by omega)
    have q104 : 0 < (l0.length : Int) := of_decide_eq_true (by assumption)
    obtain ⟨ad104,A104_0,c104_0,e104,hx104_0,hl104_0,hi104_0⟩ := at_L2 (Kd.V_reads' HO0.out).2.2 0 p104 q104
    cases e104
    obtain ⟨ce104,hce104,hMe104,hcc104⟩ := Kd.V_get HO0.out [] 0 p104 (by first | exact q104 | exact of_decide_eq_true (by assumption) | (have e_ := (Kd.V_reads' HO0.out).1;omega))
    obtain ⟨ua104_0,uc104_0,rfl,ul104_0,ge104_0⟩ := Kd.FK_slice_open hMe104
    have hv104_0 := hcc104 0 _ rfl
    rw [Nat.add_zero,show ((Kd.slice 5 (Kd.int .u8))).sz = 1 from rfl,Nat.mul_one] at hv104_0
    replace hv104_0 := Option.some.inj (hv104_0.symm.trans hx104_0)
    injection hv104_0 with hva_ hvn_ hvc_
    rw [hva_] at ge104_0
    rw [hvc_] at ul104_0
    have HL104_0 := qq.mk (show Kd.V (Kd.int .u8) 5 _ w.heap.size _ _ (rd_L2 l0 0) from Kd.V_mk ul104_0 ge104_0)
    clear hva_ hvn_ hvc_ ge104_0 ul104_0
    clear hcc104 hce104
    have qi104 : (0 < l0.length) = True := eq_true (by omega)
    (try rw [show ((0 : Int)).toNat = 0 from rfl] at hx104_0)
    (try rw [Addr.add_zero'] at hx104_0)
    have HR104_0 := qq.mk hi104_0
    have HC104_0 := qq.mk hl104_0
    clear hi104_0 hl104_0
    replace p104 := eq_true p104
    replace q104 := eq_true q104
    go_enter Try.func81,Try.ntmps81
    go_wp2
    go_ret
    exact ⟨_,by first | rfl | (simp [*,jk,jj] <;> rfl),by (with_reducible repeat (first | apply Kd.vk | apply Kd.vz | apply Kd.vv));exact HL104_0.out,by repeat (first | (with_reducible first | exact HB.out | apply qj | apply qz | apply qk) | exact HB.out)⟩
   ·rw [if_neg c6] at H
    exact absurd H (by simp)
  ·rw [if_neg c5] at H
   have c5b0 : ((l0.length : Int) == 1) = false := beq_eq_false_iff_ne.mpr c5
   have c5b1 : ((l0.length : Int) != 1) = true := bne_iff_ne.mpr c5
   replace H := Option.bind_eq_some_iff.mp H
   obtain ⟨t105,A70,H⟩ := H
   replace H : (if 0 ≤ t105 then (if t105 ≤ (l0.length : Int) then ((qvw.f k (l0.take (t105 : Int).toNat)).bind fun t111 => ((qvw.f k (l0.drop (t105 : Int).toNat)).bind fun t119 => ((qvk.f k t111 t119).bind fun t122 => (some t122)))) else (none)) else (none)) = some r := H
   have A7 := qq.mk A70
   clear A70
   by_cases c8 : 0 ≤ t105
   ·rw [if_pos c8] at H
    have c8b0 := eq_true c8
    have c8b1 : decide (0 ≤ t105) = true := decide_eq_true c8
    clear c8
    by_cases c9 : t105 ≤ (l0.length : Int)
    ·rw [if_pos c9] at H
     have c9b0 := eq_true c9
     have c9b1 : decide (t105 ≤ (l0.length : Int)) = true := decide_eq_true c9
     clear c9
     obtain ⟨y106,hy106⟩ : ∃ y_ : List (List Int),y_ = (l0.take (t105 : Int).toNat) := ⟨_,rfl⟩
     replace H : ((qvw.f k y106).bind fun t111 => ((qvw.f k (l0.drop (t105 : Int).toNat)).bind fun t119 => ((qvk.f k t111 t119).bind fun t122 => (some t122)))) = some r := by first | (rw [hy106];with_reducible exact H) | (have H2_ := (Option.bind_some _ _).symm.trans H;rw [hy106];with_reducible exact H2_) | (have H2_ := (Option.bind_some _ _).symm.trans H;with_reducible exact H2_) | with_reducible exact H | (rw [hy106];exact H) | exact H
     have Ny106 := qq.mk hy106
     clear hy106
     replace H := Option.bind_eq_some_iff.mp H
     obtain ⟨t111,A100,H⟩ := H
     replace H : ((qvw.f k (l0.drop (t105 : Int).toNat)).bind fun t119 => ((qvk.f k t111 t119).bind fun t122 => (some t122))) = some r := H
     have A10 := qq.mk A100
     clear A100
     have c11b0 := eq_true (of_decide_eq_true (by assumption) : 0 ≤ t105)
     have c12b0 := eq_true (of_decide_eq_true (by assumption) : t105 ≤ (l0.length : Int))
     obtain ⟨y114,hy114⟩ : ∃ y_ : List (List Int),y_ = (l0.drop (t105 : Int).toNat) := ⟨_,rfl⟩
     replace H : ((qvw.f k y114).bind fun t119 => ((qvk.f k t111 t119).bind fun t122 => (some t122))) = some r := by first | (rw [hy114];with_reducible exact H) | (have H2_ := (Option.bind_some _ _).symm.trans H;rw [hy114];with_reducible exact H2_) | (have H2_ := (Option.bind_some _ _).symm.trans H;with_reducible exact H2_) | with_reducible exact H | (rw [hy114];exact H) | exact H
     have Ny114 := qq.mk hy114
     clear hy114
     replace H := Option.bind_eq_some_iff.mp H
     obtain ⟨t119,A130,H⟩ := H
     replace H : ((qvk.f k t111 t119).bind fun t122 => (some t122)) = some r := H
     have A13 := qq.mk A130
     clear A130
     replace H := Option.bind_eq_some_iff.mp H
     obtain ⟨t122,A140,H⟩ := H
     replace H : (some t122) = some r := H
     have A14 := qq.mk A140
     clear A140
     obtain rfl := Option.some.inj H
     go_enter Try.func81,Try.ntmps81
     try go_wp2_with (first | ((with_reducible refine jv (f := 119) rfl ?_);refine goesL_ (some 16) rfl rfl Try.func119 (by kernel_rfl) rfl #[.int .i64 (l0.length : Int)] rfl (by (try simp only [List.map_toArray,List.map_cons,List.map_nil]);first | done | rfl | (simp only [List.length_drop,List.length_take];rfl)) ?_;(with_reducible refine (qvq.calls k (l0.length : Int) t105 _ A7.out).mono ?_);rintro e w' ⟨rfl,⟨nd,rfl⟩⟩;refine ⟨_,rfl,?_⟩))
     have n0_ := qq.mk (Kd.vv (Kd.vz HO0.out nd))
     have n1_ := qq.mk (qk (qz HB.out nd))
     clear HO0
     clear HB
     have HO0 := n0_
     have HB := n1_
     clear n0_ n1_
     have q16 : (t105 : Int) ≤ ((l0.length : Int) : Int) := of_decide_eq_true (by assumption)
     obtain ⟨i016,hi016,_,hsz16,_⟩ := info_parts info22
     have hroom16 : l0.length ≤ c0 := (Kd.V_reads' HO0.out).2.1
     have hC16 : Kd.F (Kd.slice 5 (Kd.int .u8)) _ _ A0 l0.length l0 := (Kd.V_at (base := w.heap.size) HO0.out).2.2
     have hcut16 := cut_to (P := Try.prog) 44 22 .i64 Try.underlying44 hi016 A0 l0.length c0 t105 (of_decide_eq_true (by assumption)) q16 hroom16
     have hr16 := Kd.F_take (m := (t105 : Int).toNat) hC16 (by omega)
     have hy16 : y106.length = (t105 : Int).toNat := (by rw [Ny106.out,List.length_take];omega)
     rw [← Ny106.out] at hr16
     rw [← hy16] at hcut16
     have HO110 := qq.mk (show Kd.V (Kd.slice 5 (Kd.int .u8)) 22 _ w.heap.size _ (.slice A0 y106.length c0) y106 from Kd.V_mk (by omega) hr16)
     have HC110 := qq.mk (show y106.length ≤ c0 from by omega)
     clear hr16 hC16 hroom16 hi016 hsz16
     have KY16 := qq.mk hy16
     clear hy16
     replace q16 := eq_true q16
     have q17 : (t105 : Int) ≤ ((l0.length : Int) : Int) := of_decide_eq_true (by assumption)
     obtain ⟨i017,hi017,_,hsz17,_⟩ := info_parts info22
     have hroom17 : l0.length ≤ c0 := (Kd.V_reads' HO0.out).2.1
     have hC17 : Kd.F (Kd.slice 5 (Kd.int .u8)) _ _ A0 l0.length l0 := (Kd.V_at (base := w.heap.size) HO0.out).2.2
     have q017 : (0 : Int) ≤ (t105 : Int) := of_decide_eq_true (by assumption)
     have hcut17 := cut_from (P := Try.prog) 44 22 .i64 Try.underlying44 hi017 1 hsz17 A0 l0.length c0 t105 q017 q17
     have hr17 := Kd.F_cut (m := (t105 : Int).toNat) (c := c0) hC17 (by omega) hroom17
     obtain ⟨A17,hA17⟩ : ∃ A1,A1 = (if c0 = (t105 : Int).toNat then A0 else (A0 : Option Addr).map (·.add ((t105 : Int).toNat * 1))) := ⟨_,rfl⟩
     obtain ⟨c17,hc17⟩ : ∃ c1,c1 = c0 - (t105 : Int).toNat := ⟨_,rfl⟩
     have hy17 : y114.length = l0.length - (t105 : Int).toNat := (by rw [Ny114.out,List.length_drop] <;> omega)
     rw [show (l0).drop (t105 : Int).toNat = y114 from Ny114.out.symm] at hr17
     replace hr17 : Kd.F (Kd.slice 5 (Kd.int .u8)) _ _ A17 y114.length y114 := (by rw [hA17];exact hr17)
     rw [← hy17,← hA17,← hc17] at hcut17
     have HO118 := qq.mk (show Kd.V (Kd.slice 5 (Kd.int .u8)) 22 _ w.heap.size _ (.slice A17 y114.length c17) y114 from Kd.V_mk (by rw [hy17,hc17];exact Nat.sub_le_sub_right hroom17 _) hr17)
     have HC118 := qq.mk (show y114.length ≤ c17 from by rw [hy17,hc17];exact Nat.sub_le_sub_right hroom17 _)
     clear hr17 hC17 hroom17 hi017 hsz17 hc17
     have KY17 := qq.mk hy17
     have KA17 := qq.mk hA17
     clear hy17 hA17
     replace q17 := eq_true q17
     refine start_ (n := 10) (S := fun w' => True) (ds := []) #[false,false,false,false,false,false,false,false,false,false] (by kernel_rfl) rfl rfl trivial (fun hHeld => ?_);refine with_tabW qvw.tab7 qvw.bits7 (fun HT_ HW_ => ?_)
     generalize (w.drewN nd).drew = w15 at HO0 HB HO110 HO118 hHeld ⊢
     refine pure_ (i := 0) (N := some 17) (v := ?_) (a' := ?_) #[true,false,false,false,false,false,false,false,false,false] rfl rfl (any_of HT_.out (by kernel_rfl)) (fun _ _ _ h => h) (Or.inl ⟨by rfl,?_⟩) ?_ ?_
     rotate_left
     ·intro w'
      go_simp
      with_reducible rfl
     rotate_left
     ·simp only [Act.put,List.setIfInBounds_toArray,List.set_cons_zero,List.set_cons_succ,i64_w,i32_w]
      rfl
     refine pure_ (i := 1) (N := some 18) (v := ?_) (a' := ?_) #[true,true,false,false,false,false,false,false,false,false] rfl rfl (any_of HT_.out (by kernel_rfl)) (fun _ _ _ h => h) (Or.inl ⟨by rfl,?_⟩) ?_ ?_
     rotate_left
     ·intro w'
      go_simp
      with_reducible rfl
     rotate_left
     ·simp only [Act.put,List.setIfInBounds_toArray,List.set_cons_zero,List.set_cons_succ,i64_w,i32_w]
      rfl
     refine pure_ (i := 2) (N := some 19) (v := ?_) (a' := ?_) #[true,true,true,false,false,false,false,false,false,false] rfl rfl (any_of HT_.out (by kernel_rfl)) (fun _ _ _ h => h) (Or.inl ⟨by rfl,?_⟩) ?_ ?_
     rotate_left
     ·intro w'
      go_simp
      with_reducible rfl
     rotate_left
     ·simp only [Act.put,List.setIfInBounds_toArray,List.set_cons_zero,List.set_cons_succ,i64_w,i32_w]
      rfl
     refine pure_ (i := 4) (N := some 21) (v := ?_) (a' := ?_) #[true,true,true,false,true,false,false,false,false,false] rfl rfl (any_of HT_.out (by kernel_rfl)) (fun _ _ _ h => h) (Or.inl ⟨by rfl,?_⟩) ?_ ?_
     rotate_left
     ·intro w'
      go_simp
      with_reducible rfl
     rotate_left
     ·simp only [Act.put,List.setIfInBounds_toArray,List.set_cons_zero,List.set_cons_succ,i64_w,i32_w]
      rfl
     refine pure_ (i := 5) (N := some 22) (v := ?_) (a' := ?_) #[true,true,true,false,true,true,false,false,false,false] rfl rfl (any_of HT_.out (by kernel_rfl)) (fun _ _ _ h => h) (Or.inl ⟨by rfl,?_⟩) ?_ ?_
     rotate_left
     ·intro w'
      go_simp
      with_reducible rfl
     rotate_left
     ·simp only [Act.put,List.setIfInBounds_toArray,List.set_cons_zero,List.set_cons_succ,i64_w,i32_w]
      rfl
     refine pure_ (i := 6) (N := some 23) (v := ?_) (a' := ?_) #[true,true,true,false,true,true,true,false,false,false] rfl rfl (any_of HT_.out (by kernel_rfl)) (fun _ _ _ h => h) (Or.inl ⟨by rfl,?_⟩) ?_ ?_
     rotate_left
     ·intro w'
      go_simp
      with_reducible rfl
     rotate_left
     ·simp only [Act.put,List.setIfInBounds_toArray,List.set_cons_zero,List.set_cons_succ,i64_w,i32_w]
      rfl
     refine one_ (i := 3) (N := some 20) #[true,true,true,true,true,true,true,false,false,false] rfl rfl (one_of HT_.out (by kernel_rfl)) (by decide) (fun K hK => ?_)
     refine goes_ Try.func81 (by kernel_rfl) rfl #[.slice A0 y106.length c0] (by rfl) rfl rfl (by (try simp only [List.map_toArray,List.map_cons,List.map_nil]);first | done | rfl | (simp only [List.length_drop,List.length_take];rfl)) ?_
     with_reducible refine (ih k (by omega) (fun k_ => (P0_ k_ ∨ w.heap.size ≤ k_)) _ _ y106 t111 _ ?side1 A10.out).mono ?_
     (case side1 => exact HO110.out)
     rintro e w18 ⟨v112,rfl,ho0,hb⟩
     refine ⟨_,rfl,?_⟩
     have n0_ := qq.mk (Kd.V_below (by (with_reducible repeat (first | apply Kd.vk | apply Kd.vz | apply Kd.vv));exact HO0.out) hb)
     have n1_ := qq.mk (Kd.V_below (by (with_reducible repeat (first | apply Kd.vk | apply Kd.vz | apply Kd.vv));exact HO110.out) hb)
     have n2_ := qq.mk (Kd.V_below (by (with_reducible repeat (first | apply Kd.vk | apply Kd.vz | apply Kd.vv));exact HO118.out) hb)
     have n3_ := qq.mk (Kd.V_lower (Kd.V_mono (ok' := fun k_ => (P0_ k_ ∨ w.heap.size ≤ k_)) ho0 (fun k_ hk_ => Or.elim hk_ (fun hs_ => hs_) (fun hn_ => (.inr (Nat.le_trans (zw (by repeat (first | (with_reducible first | exact HB.out | apply qj | apply qz | apply qk) | exact HB.out))) hn_))))) (zw (by repeat (first | (with_reducible first | exact HB.out | apply qj | apply qz | apply qk) | exact HB.out))))
     have n4_ := qq.mk (zv (by repeat (first | (with_reducible first | exact HB.out | apply qj | apply qz | apply qk) | exact HB.out)) hb)
     clear HO0
     clear HO110
     clear HO118
     clear HB
     have HO0 := n0_
     have HO110 := n1_
     have HO118 := n2_
     have HO113 := n3_
     have HB := n4_
     clear n0_ n1_ n2_ n3_ n4_
     (try clear hb)
     (try clear hb2)
     (try clear hk)
     (try clear hi)
     (try clear ho0)
     refine hK.out _ _ trivial (fun hHeld => ?_)
     clear hK K
     refine norm_ (a' := ?_) ?_ ?_
     rotate_left
     ·show Act.put _ (some 20) _ = _
      simp only [Act.put,List.setIfInBounds_toArray,List.set_cons_zero,List.set_cons_succ,i64_w,i32_w]
      rfl
     refine one_ (i := 7) (N := some 24) #[true,true,true,true,true,true,true,true,false,false] rfl rfl (one_of HT_.out (by kernel_rfl)) (by decide) (fun K hK => ?_)
     refine goes_ Try.func81 (by kernel_rfl) rfl #[.slice A17 y114.length c17] (by rfl) rfl rfl (by (try simp only [List.map_toArray,List.map_cons,List.map_nil]);first | done | rfl | (simp only [List.length_drop,List.length_take];rfl)) ?_
     with_reducible refine (ih k (by omega) (fun k_ => (P0_ k_ ∨ w.heap.size ≤ k_)) _ _ y114 t119 _ ?side1 A13.out).mono ?_
     (case side1 => exact HO118.out)
     rintro e w19 ⟨v120,rfl,ho0,hb⟩
     refine ⟨_,rfl,?_⟩
     have n0_ := qq.mk (Kd.V_below (by (with_reducible repeat (first | apply Kd.vk | apply Kd.vz | apply Kd.vv));exact HO0.out) hb)
     have n1_ := qq.mk (Kd.V_below (by (with_reducible repeat (first | apply Kd.vk | apply Kd.vz | apply Kd.vv));exact HO110.out) hb)
     have n2_ := qq.mk (Kd.V_below (by (with_reducible repeat (first | apply Kd.vk | apply Kd.vz | apply Kd.vv));exact HO118.out) hb)
     have n3_ := qq.mk (Kd.V_below (by (with_reducible repeat (first | apply Kd.vk | apply Kd.vz | apply Kd.vv));exact HO113.out) hb)
     have n4_ := qq.mk (Kd.V_lower (Kd.V_mono (ok' := fun k_ => (P0_ k_ ∨ w.heap.size ≤ k_)) ho0 (fun k_ hk_ => Or.elim hk_ (fun hs_ => hs_) (fun hn_ => (.inr (Nat.le_trans (zw (by repeat (first | (with_reducible first | exact HB.out | apply qj | apply qz | apply qk) | exact HB.out))) hn_))))) (zw (by repeat (first | (with_reducible first | exact HB.out | apply qj | apply qz | apply qk) | exact HB.out))))
     have n5_ := qq.mk (zv (by repeat (first | (with_reducible first | exact HB.out | apply qj | apply qz | apply qk) | exact HB.out)) hb)
     clear HO0
     clear HO110
     clear HO118
     clear HO113
     clear HB
     have HO0 := n0_
     have HO110 := n1_
     have HO118 := n2_
     have HO113 := n3_
     have HO121 := n4_
     have HB := n5_
     clear n0_ n1_ n2_ n3_ n4_ n5_
     (try clear hb)
     (try clear hb2)
     (try clear hk)
     (try clear hi)
     (try clear ho0)
     obtain ⟨Ao20,co20,eo20⟩ := Kd.V_slice HO113.out
     (first | subst eo20 | (injection eo20 with f1_ f2_ f3_;have f4_ := f1_.symm;have f5_ := f3_.symm;clear f1_ f2_ f3_;subst f4_;subst f5_))
     obtain ⟨Ao21,co21,eo21⟩ := Kd.V_slice HO121.out
     (first | subst eo21 | (injection eo21 with f1_ f2_ f3_;have f4_ := f1_.symm;have f5_ := f3_.symm;clear f1_ f2_ f3_;subst f4_;subst f5_))
     refine hK.out _ _ trivial (fun hHeld => ?_)
     clear hK K
     refine norm_ (a' := ?_) ?_ ?_
     rotate_left
     ·show Act.put _ (some 24) _ = _
      simp only [Act.put,List.setIfInBounds_toArray,List.set_cons_zero,List.set_cons_succ,i64_w,i32_w]
      rfl
     refine one_ (i := 8) (N := some 25) #[true,true,true,true,true,true,true,true,true,false] rfl rfl (one_of HT_.out (by kernel_rfl)) (by decide) (fun K hK => ?_)
     refine goes_ Try.func120 (by kernel_rfl) rfl #[.slice Ao20 t111.length co20,.slice Ao21 t119.length co21] (by rfl) rfl rfl (by (try simp only [List.map_toArray,List.map_cons,List.map_nil]);first | done | rfl | (simp only [List.length_drop,List.length_take];rfl)) ?_
     with_reducible refine (qvk.calls k _ _ t111 _ _ t119 t122 _ ?side1 ?side2 ?side3 ?side4 A14.out).mono ?_
     (case side1 => repeat (first | exact (Kd.V_reads' HO113.out).2.2 | (with_reducible refine Kd.C_alloc ?_ _) | (with_reducible refine Kd.C_drewN ?_ _) | (with_reducible refine Kd.C_drew ?_)))
     (case side2 => exact (Kd.V_reads' HO113.out).2.1)
     (case side3 => repeat (first | exact (Kd.V_reads' HO121.out).2.2 | (with_reducible refine Kd.C_alloc ?_ _) | (with_reducible refine Kd.C_drewN ?_ _) | (with_reducible refine Kd.C_drew ?_)))
     (case side4 => exact (Kd.V_reads' HO121.out).2.1)
     rintro e w22 ⟨v123,rfl,ho0,hb⟩
     refine ⟨_,rfl,?_⟩
     have n0_ := qq.mk (Kd.V_elder' (by (with_reducible repeat (first | apply Kd.vk | apply Kd.vz | apply Kd.vv));exact HO0.out) (Kd.R_base ho0) hb)
     have n1_ := qq.mk (Kd.V_elder' (by (with_reducible repeat (first | apply Kd.vk | apply Kd.vz | apply Kd.vv));exact HO110.out) (Kd.R_base ho0) hb)
     have n2_ := qq.mk (Kd.V_elder' (by (with_reducible repeat (first | apply Kd.vk | apply Kd.vz | apply Kd.vv));exact HO118.out) (Kd.R_base ho0) hb)
     have n3_ := qq.mk (Kd.V_elder' (by (with_reducible repeat (first | apply Kd.vk | apply Kd.vz | apply Kd.vv));exact HO113.out) (Kd.R_base ho0) hb)
     have n4_ := qq.mk (Kd.V_elder' (by (with_reducible repeat (first | apply Kd.vk | apply Kd.vz | apply Kd.vv));exact HO121.out) (Kd.R_base ho0) hb)
     have n5_ := qq.mk (Kd.R_lower (Kd.R_newM (M := fun k_ => (w.heap.size ≤ k_)) ho0 (zw (by repeat (first | (with_reducible first | exact HB.out | apply qj | apply qz | apply qk) | exact HB.out))) (fun k_ h_ => h_)) (zw (by repeat (first | (with_reducible first | exact HB.out | apply qj | apply qz | apply qk) | exact HB.out))))
     have n6_ := qq.mk (zv (by repeat (first | (with_reducible first | exact HB.out | apply qj | apply qz | apply qk) | exact HB.out)) hb)
     clear HO0
     clear HO110
     clear HO118
     clear HO113
     clear HO121
     clear HB
     have HO0 := n0_
     have HO110 := n1_
     have HO118 := n2_
     have HO113 := n3_
     have HO121 := n4_
     have HO124 := n5_
     have HB := n6_
     clear n0_ n1_ n2_ n3_ n4_ n5_ n6_
     (try clear hb)
     (try clear hb2)
     (try clear hk)
     (try clear hi)
     (try clear ho0)
     refine hK.out _ _ trivial (fun hHeld => ?_)
     clear hK K
     refine norm_ (a' := ?_) ?_ ?_
     rotate_left
     ·show Act.put _ (some 25) _ = _
      simp only [Act.put,List.setIfInBounds_toArray,List.set_cons_zero,List.set_cons_succ,i64_w,i32_w]
      rfl
     refine pure_ (i := 9) (N := some 2) (v := ?_) (a' := ?_) #[true,true,true,true,true,true,true,true,true,true] rfl rfl (any_of HT_.out (by kernel_rfl)) (fun _ _ _ h => h) (Or.inl ⟨by rfl,?_⟩) ?_ ?_
     rotate_left
     ·intro w'
      go_simp
      with_reducible rfl
     rotate_left
     ·simp only [Act.put,List.setIfInBounds_toArray,List.set_cons_zero,List.set_cons_succ,i64_w,i32_w]
      rfl
     refine done_ (done_of HT_.out (by kernel_rfl)) ?_
     try go_wp2
     go_ret
     exact ⟨_,by first | rfl | (simp [*,jk,jj] <;> rfl),Kd.V_mono (Kd.R_V (by (with_reducible repeat (first | apply Kd.jq | apply Kd.zx | apply Kd.jz));exact Kd.R_mono HO124.out (fun _ hk => hk.1))) (fun k_ hk => by first | exact ⟨(.inr (hk.1)),hk.2⟩ | exact (.inr (hk))),by repeat (first | (with_reducible first | exact HB.out | apply qj | apply qz | apply qk) | exact HB.out)⟩
    ·rw [if_neg c9] at H
     exact absurd H (by simp)
   ·rw [if_neg c8] at H
    exact absurd H (by simp)
def qkv.f : Nat → List (List Int) → Int → Bool → Option ((List (List Int)))
 | 0,_,_,_ => none
 | k + 1,l0,a1,a2 => if a1 = (l0.length : Int) then (if a2 = true then (some ([] : List (List Int))) else ((qvw.f k l0).bind fun t101 => (some (([t101] : List (List Int)))))) else ((qvq.f k (l0.length : Int)).bind fun t107 => (if a1 ≤ t107 then (if 0 ≤ t107 then (if t107 ≤ (l0.length : Int) then ((qkv.f k (l0.take (t107 : Int).toNat) a1 a2).bind fun t113 => ((qvw.f k (l0.drop (t107 : Int).toNat)).bind fun t121 => (if t113.length < 5864062014805 then (some (t113 ++ [t121])) else (none)))) else (none)) else (none)) else (if 0 ≤ t107 then (if t107 ≤ (l0.length : Int) then ((qkv.f k (l0.drop (t107 : Int).toNat) (wrap64 (a1 - t107)) false).bind fun t132 => ((qvw.f k (l0.take (t107 : Int).toNat)).bind fun t140 => (if t132.length < 5864062014805 then (some (t132 ++ [t140])) else (none)))) else (none)) else (none))))
def qkv.T7 : Bool × List (List Nat × List Nat) := (true,[([],[]),([],[]),([0,1],[0,1]),([],[]),([],[]),([2,3,4],[2,3,4]),([],[]),([],[]),([6,7],[6,7]),([8,5],[8]),([9],[9]),([5,10,9],[5,10]),([11,11,0,1,2,3,4,5,6,7,8,9,10,11],[11])])
def qkv.B7 : List Nat := [0,0,3,0,0,31,0,0,192,511,1023,2047,4095]
theorem qkv.tab7 : rtab .any (opsOf Try.f88 7) = qkv.T7 := by kernel_rfl
theorem qkv.bits7 : waitsOk qkv.T7.2 qkv.B7 = true := by kernel_rfl
def qkv.T8 : Bool × List (List Nat × List Nat) := (true,[([],[]),([],[]),([0,1],[0,1]),([],[]),([],[]),([3,4],[3,4]),([2,5],[2,5]),([],[]),([],[]),([7,8],[7,8]),([9,6],[9]),([10],[10]),([6,11,10],[6,11]),([12,12,0,1,2,3,4,5,6,7,8,9,10,11,12],[12])])
def qkv.B8 : List Nat := [0,0,3,0,0,24,63,0,0,384,1023,2047,4095,8191]
theorem qkv.tab8 : rtab .any (opsOf Try.f88 8) = qkv.T8 := by kernel_rfl
theorem qkv.bits8 : waitsOk qkv.T8.2 qkv.B8 = true := by kernel_rfl
set_option maxHeartbeats 8000000 in
set_option maxRecDepth 100000 in
theorem qkv.calls (k : Nat) : ∀ (P0_ : Nat → Prop) (A0 : Option Addr) (c0 : Nat) (l0 : List (List Int)) (a1 : Int) (a2 : Bool) (r : List (List Int)) (w : World) (hs0 : Kd.V (Kd.slice 5 (Kd.int .u8)) 22 w w.heap.size (fun k_ => P0_ k_) (.slice A0 l0.length c0) l0) (h : qkv.f k l0 a1 a2 = some r),
  Calls Try.prog 88 #[.slice A0 l0.length c0,.int .i64 a1,.bool a2] w fun e w' => ∃ v0_ : Value,e = .returned (v0_) ∧ Kd.N (Kd.slice 5 (Kd.int .u8)) 22 w' w.heap.size (fun k_ => (P0_ k_ ∨ w.heap.size ≤ k_)) v0_ r ∧ Below w.heap.size w w' := by
 induction k using Nat.strongRecOn with
 | _ k ih =>
 intro P0_ A0 c0 l0 a1 a2 r w hs0 h
 cases k with
 | zero => exact absurd h (by simp [qkv.f])
 | succ k =>
 simp only [qkv.f] at h
 have HO0 := qq.mk (show Kd.V (Kd.slice 5 (Kd.int .u8)) 22 w w.heap.size (fun k_ => (P0_ k_ ∨ w.heap.size ≤ k_)) (.slice A0 l0.length c0) l0 from Kd.V_mono hs0 (fun k_ hk => .inl hk))
 have HB := qq.mk (Below.refl w.heap.size w)
 have H : (if a1 = (l0.length : Int) then (if a2 = true then (some ([] : List (List Int))) else ((qvw.f k l0).bind fun t101 => (some (([t101] : List (List Int)))))) else ((qvq.f k (l0.length : Int)).bind fun t107 => (if a1 ≤ t107 then (if 0 ≤ t107 then (if t107 ≤ (l0.length : Int) then ((qkv.f k (l0.take (t107 : Int).toNat) a1 a2).bind fun t113 => ((qvw.f k (l0.drop (t107 : Int).toNat)).bind fun t121 => (if t113.length < 5864062014805 then (some (t113 ++ [t121])) else (none)))) else (none)) else (none)) else (if 0 ≤ t107 then (if t107 ≤ (l0.length : Int) then ((qkv.f k (l0.drop (t107 : Int).toNat) (wrap64 (a1 - t107)) false).bind fun t132 => ((qvw.f k (l0.take (t107 : Int).toNat)).bind fun t140 => (if t132.length < 5864062014805 then (some (t132 ++ [t140])) else (none)))) else (none)) else (none))))) = some r := h
 clear h
 by_cases c4 : a1 = (l0.length : Int)
 ·rw [if_pos c4] at H
  have c4b0 : (a1 == (l0.length : Int)) = true := beq_iff_eq.mpr c4
  have c4b1 : (a1 != (l0.length : Int)) = false := bne_eq_false_iff_eq.mpr c4
  clear c4
  by_cases c5 : a2 = true
  ·subst c5
   have H1 : (some ([] : List (List Int))) = some r := by rw [if_pos rfl] at H;exact H
   clear H
   have H := H1
   clear H1
   obtain rfl := Option.some.inj H
   go_enter Try.func88,Try.ntmps88
   go_wp2
   go_ret
   exact ⟨_,by first | rfl | (simp [*,jk,jj] <;> rfl),by first | exact Kd.S_nil _ _ _ _ _ | exact Kd.N_nil _ _ _ _ _ | exact Kd.V_nil _ _ _ _ _ | exact Kd.Q_nil _ _ _ _ _ | exact Kd.R_nil _ _ _ _ _,by repeat (first | (with_reducible first | exact HB.out | apply qj | apply qz | apply qk) | exact HB.out)⟩
  ·replace c5 := Bool.eq_false_iff.mpr c5
   subst c5
   have H1 : ((qvw.f k l0).bind fun t101 => (some (([t101] : List (List Int))))) = some r := by rw [if_neg (show ¬ (false = true) by decide)] at H;exact H
   clear H
   have H := H1
   clear H1
   replace H := Option.bind_eq_some_iff.mp H
   obtain ⟨t101,A60,H⟩ := H
   replace H : (some (([t101] : List (List Int)))) = some r := H
   have A6 := qq.mk A60
   clear A60
   obtain ⟨y104,hy104⟩ : ∃ y_ : List (List Int),y_ = (([t101] : List (List Int))) := ⟨_,rfl⟩
   replace H : (some y104) = some r := by first | (rw [hy104];with_reducible exact H) | (have H2_ := (Option.bind_some _ _).symm.trans H;rw [hy104];with_reducible exact H2_) | (have H2_ := (Option.bind_some _ _).symm.trans H;with_reducible exact H2_) | with_reducible exact H | (rw [hy104];exact H) | exact H
   have Ny104 := qq.mk hy104
   clear hy104
   obtain rfl := Option.some.inj H
   go_enter Try.func88,Try.ntmps88
   go_wp2_with (first | ((with_reducible refine jv (f := 81) rfl ?_);refine goesL_ (some 14) rfl rfl Try.func81 (by kernel_rfl) rfl #[.slice A0 l0.length c0] rfl (by (try simp only [List.map_toArray,List.map_cons,List.map_nil]);first | done | rfl | (simp only [List.length_drop,List.length_take];rfl)) ?_;(with_reducible refine (qvw.calls k (fun k_ => (P0_ k_ ∨ w.heap.size ≤ k_)) _ _ l0 t101 _ ?side1 A6.out).mono ?_);(case side1 => exact HO0.out);rintro e w7 ⟨v102,rfl,ho0,hb⟩;refine ⟨_,rfl,?_⟩;have n0_ := qq.mk (Kd.V_below (by (with_reducible repeat (first | apply Kd.vk | apply Kd.vz | apply Kd.vv));exact HO0.out) hb);have n1_ := qq.mk (Kd.V_lower (Kd.V_mono (ok' := fun k_ => (P0_ k_ ∨ w.heap.size ≤ k_)) ho0 (fun k_ hk_ => Or.elim hk_ (fun hs_ => hs_) (fun hn_ => (.inr (Nat.le_trans (zw (by repeat (first | (with_reducible first | exact HB.out | apply qj | apply qz | apply qk) | exact HB.out))) hn_))))) (zw (by repeat (first | (with_reducible first | exact HB.out | apply qj | apply qz | apply qk) | exact HB.out))));have n2_ := qq.mk (zv (by repeat (first | (with_reducible first | exact HB.out | apply qj | apply qz | apply qk) | exact HB.out)) hb);clear HO0;clear HB;have HO0 := n0_;have HO103 := n1_;have HB := n2_;clear n0_ n1_ n2_;(try clear hb);(try clear hb2);(try clear hk);(try clear hi);(try clear ho0);obtain ⟨Ao8,co8,eo8⟩ := Kd.V_slice HO103.out;subst eo8) | ((with_reducible refine gate_dst (N := 15) rfl ?_);refine Kd.N_lit (Kd.slice 5 (Kd.int .u8)) _ 22 ?hg (N' := 15) ?hd (xs := ([t101] : List (List Int))) (inner := [.slice Ao8 t101.length co8]) (ok := (fun k_ => (P0_ k_ ∨ w.heap.size ≤ k_))) (okp := (fun k_ => (P0_ k_ ∨ w.heap.size ≤ k_))) ?hr ?hp (fun _ hk => hk) ((show ∀ k_,w7.heap.size ≤ k_ → (fun k_ => (P0_ k_ ∨ w.heap.size ≤ k_)) k_ from fun k_ hk => (.inr (Nat.le_trans (zw (by repeat (first | (with_reducible first | exact HB.out | apply qj | apply qz | apply qk) | exact HB.out))) hk))) _ (Nat.le_refl _)) (Below.refl _ _) (Nat.le_refl _) (by simp) ?_;(case hd => rfl);(case hg => rfl);(case hr => first | (go_simp;done) | (go_simp;rfl));(case hp => exact (Reps.one (show Kd.FK (Kd.slice 5 (Kd.int .u8)) _ _ t101 [.slice Ao8 t101.length co8] from (Kd.FK_slice_mk (Kd.V_reads' (Kd.V_mono (ok' := (fun k_ => (P0_ k_ ∨ w.heap.size ≤ k_))) (HO103.out) (fun k_ hk => hk))).2.1 (Kd.V_F (Kd.V_mono (ok' := (fun k_ => (P0_ k_ ∨ w.heap.size ≤ k_))) (HO103.out) (fun k_ hk => hk))))) (Reps.none _ _)));intro v105 w9 ho10 hb hg_ hnew_;clear hg_ hnew_;(first | rw [← Ny104.out] at ho10 | (simp only [Int.reduceToNat] at ho10;rw [← Ny104.out] at ho10));have n0_ := qq.mk (Kd.V_elder' (by (with_reducible repeat (first | apply Kd.vk | apply Kd.vz | apply Kd.vv));exact HO0.out) (Kd.N_base ho10) hb);have n1_ := qq.mk (Kd.V_elder' (by (with_reducible repeat (first | apply Kd.vk | apply Kd.vz | apply Kd.vv));exact HO103.out) (Kd.N_base ho10) hb);have n2_ := qq.mk (Kd.N_lower ho10 (zw (by repeat (first | (with_reducible first | exact HB.out | apply qj | apply qz | apply qk) | exact HB.out))));have n3_ := qq.mk (zv (by repeat (first | (with_reducible first | exact HB.out | apply qj | apply qz | apply qk) | exact HB.out)) hb);clear HO0;clear HO103;clear HB;have HO0 := n0_;have HO103 := n1_;have HO106 := n2_;have HB := n3_;clear n0_ n1_ n2_ n3_;clear hb ho10))
   go_ret
   exact ⟨_,by first | rfl | (simp [*,jk,jj] <;> rfl),by (with_reducible repeat (first | apply Kd.kk | apply Kd.kj | apply Kd.kv));exact HO106.out,by repeat (first | (with_reducible first | exact HB.out | apply qj | apply qz | apply qk) | exact HB.out)⟩
 ·rw [if_neg c4] at H
  have c4b0 : (a1 == (l0.length : Int)) = false := beq_eq_false_iff_ne.mpr c4
  have c4b1 : (a1 != (l0.length : Int)) = true := bne_iff_ne.mpr c4
  replace H := Option.bind_eq_some_iff.mp H
  obtain ⟨t107,A110,H⟩ := H
  replace H : (if a1 ≤ t107 then (if 0 ≤ t107 then (if t107 ≤ (l0.length : Int) then ((qkv.f k (l0.take (t107 : Int).toNat) a1 a2).bind fun t113 => ((qvw.f k (l0.drop (t107 : Int).toNat)).bind fun t121 => (if t113.length < 5864062014805 then (some (t113 ++ [t121])) else (none)))) else (none)) else (none)) else (if 0 ≤ t107 then (if t107 ≤ (l0.length : Int) then ((qkv.f k (l0.drop (t107 : Int).toNat) (wrap64 (a1 - t107)) false).bind fun t132 => ((qvw.f k (l0.take (t107 : Int).toNat)).bind fun t140 => (if t132.length < 5864062014805 then (some (t132 ++ [t140])) else (none)))) else (none)) else (none))) = some r := H
  have A11 := qq.mk A110
  clear A110
  by_cases c12 : a1 ≤ t107
  ·rw [if_pos c12] at H
   have c12b0 : decide (a1 ≤ t107) = true := decide_eq_true c12
   clear c12
   by_cases c13 : 0 ≤ t107
   ·rw [if_pos c13] at H
    have c13b0 := eq_true c13
    have c13b1 : decide (0 ≤ t107) = true := decide_eq_true c13
    clear c13
    by_cases c14 : t107 ≤ (l0.length : Int)
    ·rw [if_pos c14] at H
     have c14b0 := eq_true c14
     have c14b1 : decide (t107 ≤ (l0.length : Int)) = true := decide_eq_true c14
     clear c14
     obtain ⟨y108,hy108⟩ : ∃ y_ : List (List Int),y_ = (l0.take (t107 : Int).toNat) := ⟨_,rfl⟩
     replace H : ((qkv.f k y108 a1 a2).bind fun t113 => ((qvw.f k (l0.drop (t107 : Int).toNat)).bind fun t121 => (if t113.length < 5864062014805 then (some (t113 ++ [t121])) else (none)))) = some r := by first | (rw [hy108];with_reducible exact H) | (have H2_ := (Option.bind_some _ _).symm.trans H;rw [hy108];with_reducible exact H2_) | (have H2_ := (Option.bind_some _ _).symm.trans H;with_reducible exact H2_) | with_reducible exact H | (rw [hy108];exact H) | exact H
     have Ny108 := qq.mk hy108
     clear hy108
     replace H := Option.bind_eq_some_iff.mp H
     obtain ⟨t113,A150,H⟩ := H
     replace H : ((qvw.f k (l0.drop (t107 : Int).toNat)).bind fun t121 => (if t113.length < 5864062014805 then (some (t113 ++ [t121])) else (none))) = some r := H
     have A15 := qq.mk A150
     clear A150
     have c16b0 := eq_true (of_decide_eq_true (by assumption) : 0 ≤ t107)
     have c17b0 := eq_true (of_decide_eq_true (by assumption) : t107 ≤ (l0.length : Int))
     obtain ⟨y116,hy116⟩ : ∃ y_ : List (List Int),y_ = (l0.drop (t107 : Int).toNat) := ⟨_,rfl⟩
     replace H : ((qvw.f k y116).bind fun t121 => (if t113.length < 5864062014805 then (some (t113 ++ [t121])) else (none))) = some r := by first | (rw [hy116];with_reducible exact H) | (have H2_ := (Option.bind_some _ _).symm.trans H;rw [hy116];with_reducible exact H2_) | (have H2_ := (Option.bind_some _ _).symm.trans H;with_reducible exact H2_) | with_reducible exact H | (rw [hy116];exact H) | exact H
     have Ny116 := qq.mk hy116
     clear hy116
     replace H := Option.bind_eq_some_iff.mp H
     obtain ⟨t121,A180,H⟩ := H
     replace H : (if t113.length < 5864062014805 then (some (t113 ++ [t121])) else (none)) = some r := H
     have A18 := qq.mk A180
     clear A180
     by_cases c19 : t113.length < 5864062014805
     ·rw [if_pos c19] at H
      have LMc19 := qq.mk c19
      clear c19
      obtain ⟨y124,hy124⟩ : ∃ y_ : List (List Int),y_ = (t113 ++ [t121]) := ⟨_,rfl⟩
      replace H : (some y124) = some r := by first | (rw [hy124];with_reducible exact H) | (have H2_ := (Option.bind_some _ _).symm.trans H;rw [hy124];with_reducible exact H2_) | (have H2_ := (Option.bind_some _ _).symm.trans H;with_reducible exact H2_) | with_reducible exact H | (rw [hy124];exact H) | exact H
      have Ny124 := qq.mk hy124
      clear hy124
      obtain rfl := Option.some.inj H
      go_enter Try.func88,Try.ntmps88
      try go_wp2_with (first | ((with_reducible refine jv (f := 119) rfl ?_);refine goesL_ (some 18) rfl rfl Try.func119 (by kernel_rfl) rfl #[.int .i64 (l0.length : Int)] rfl (by (try simp only [List.map_toArray,List.map_cons,List.map_nil]);first | done | rfl | (simp only [List.length_drop,List.length_take];rfl)) ?_;(with_reducible refine (qvq.calls k (l0.length : Int) t107 _ A11.out).mono ?_);rintro e w' ⟨rfl,⟨nd,rfl⟩⟩;refine ⟨_,rfl,?_⟩))
      have n0_ := qq.mk (Kd.vv (Kd.vz HO0.out nd))
      have n1_ := qq.mk (qk (qz HB.out nd))
      clear HO0
      clear HB
      have HO0 := n0_
      have HB := n1_
      clear n0_ n1_
      have q21 : (t107 : Int) ≤ ((l0.length : Int) : Int) := of_decide_eq_true (by assumption)
      obtain ⟨i021,hi021,_,hsz21,_⟩ := info_parts info22
      have hroom21 : l0.length ≤ c0 := (Kd.V_reads' HO0.out).2.1
      have hC21 : Kd.F (Kd.slice 5 (Kd.int .u8)) _ _ A0 l0.length l0 := (Kd.V_at (base := w.heap.size) HO0.out).2.2
      have hcut21 := cut_to (P := Try.prog) 44 22 .i64 Try.underlying44 hi021 A0 l0.length c0 t107 (of_decide_eq_true (by assumption)) q21 hroom21
      have hr21 := Kd.F_take (m := (t107 : Int).toNat) hC21 (by omega)
      have hy21 : y108.length = (t107 : Int).toNat := (by rw [Ny108.out,List.length_take];omega)
      rw [← Ny108.out] at hr21
      rw [← hy21] at hcut21
      have HO112 := qq.mk (show Kd.V (Kd.slice 5 (Kd.int .u8)) 22 _ w.heap.size _ (.slice A0 y108.length c0) y108 from Kd.V_mk (by omega) hr21)
      have HC112 := qq.mk (show y108.length ≤ c0 from by omega)
      clear hr21 hC21 hroom21 hi021 hsz21
      have KY21 := qq.mk hy21
      clear hy21
      replace q21 := eq_true q21
      have q22 : (t107 : Int) ≤ ((l0.length : Int) : Int) := of_decide_eq_true (by assumption)
      obtain ⟨i022,hi022,_,hsz22,_⟩ := info_parts info22
      have hroom22 : l0.length ≤ c0 := (Kd.V_reads' HO0.out).2.1
      have hC22 : Kd.F (Kd.slice 5 (Kd.int .u8)) _ _ A0 l0.length l0 := (Kd.V_at (base := w.heap.size) HO0.out).2.2
      have q022 : (0 : Int) ≤ (t107 : Int) := of_decide_eq_true (by assumption)
      have hcut22 := cut_from (P := Try.prog) 44 22 .i64 Try.underlying44 hi022 1 hsz22 A0 l0.length c0 t107 q022 q22
      have hr22 := Kd.F_cut (m := (t107 : Int).toNat) (c := c0) hC22 (by omega) hroom22
      obtain ⟨A22,hA22⟩ : ∃ A1,A1 = (if c0 = (t107 : Int).toNat then A0 else (A0 : Option Addr).map (·.add ((t107 : Int).toNat * 1))) := ⟨_,rfl⟩
      obtain ⟨c22,hc22⟩ : ∃ c1,c1 = c0 - (t107 : Int).toNat := ⟨_,rfl⟩
      have hy22 : y116.length = l0.length - (t107 : Int).toNat := (by rw [Ny116.out,List.length_drop] <;> omega)
      rw [show (l0).drop (t107 : Int).toNat = y116 from Ny116.out.symm] at hr22
      replace hr22 : Kd.F (Kd.slice 5 (Kd.int .u8)) _ _ A22 y116.length y116 := (by rw [hA22];exact hr22)
      rw [← hy22,← hA22,← hc22] at hcut22
      have HO120 := qq.mk (show Kd.V (Kd.slice 5 (Kd.int .u8)) 22 _ w.heap.size _ (.slice A22 y116.length c22) y116 from Kd.V_mk (by rw [hy22,hc22];exact Nat.sub_le_sub_right hroom22 _) hr22)
      have HC120 := qq.mk (show y116.length ≤ c22 from by rw [hy22,hc22];exact Nat.sub_le_sub_right hroom22 _)
      clear hr22 hC22 hroom22 hi022 hsz22 hc22
      have KY22 := qq.mk hy22
      have KA22 := qq.mk hA22
      clear hy22 hA22
      replace q22 := eq_true q22
      refine start_ (n := 13) (S := fun w' => True) (ds := []) #[false,false,false,false,false,false,false,false,false,false,false,false,false] (by kernel_rfl) rfl rfl trivial (fun hHeld => ?_);refine with_tabW qkv.tab7 qkv.bits7 (fun HT_ HW_ => ?_)
      generalize (w.drewN nd).drew = w20 at HO0 HB HO112 HO120 hHeld ⊢
      refine pure_ (i := 0) (N := some 22) (v := ?_) (a' := ?_) #[true,false,false,false,false,false,false,false,false,false,false,false,false] rfl rfl (any_of HT_.out (by kernel_rfl)) (fun _ _ _ h => h) (Or.inl ⟨by rfl,?_⟩) ?_ ?_
      rotate_left
      ·intro w'
       go_simp
       with_reducible rfl
      rotate_left
      ·simp only [Act.put,List.setIfInBounds_toArray,List.set_cons_zero,List.set_cons_succ,i64_w,i32_w]
       rfl
      refine pure_ (i := 1) (N := some 23) (v := ?_) (a' := ?_) #[true,true,false,false,false,false,false,false,false,false,false,false,false] rfl rfl (any_of HT_.out (by kernel_rfl)) (fun _ _ _ h => h) (Or.inl ⟨by rfl,?_⟩) ?_ ?_
      rotate_left
      ·intro w'
       go_simp
       with_reducible rfl
      rotate_left
      ·simp only [Act.put,List.setIfInBounds_toArray,List.set_cons_zero,List.set_cons_succ,i64_w,i32_w]
       rfl
      refine pure_ (i := 2) (N := some 24) (v := ?_) (a' := ?_) #[true,true,true,false,false,false,false,false,false,false,false,false,false] rfl rfl (any_of HT_.out (by kernel_rfl)) (fun _ _ _ h => h) (Or.inl ⟨by rfl,?_⟩) ?_ ?_
      rotate_left
      ·intro w'
       go_simp
       with_reducible rfl
      rotate_left
      ·simp only [Act.put,List.setIfInBounds_toArray,List.set_cons_zero,List.set_cons_succ,i64_w,i32_w]
       rfl
      refine pure_ (i := 3) (N := some 25) (v := ?_) (a' := ?_) #[true,true,true,true,false,false,false,false,false,false,false,false,false] rfl rfl (any_of HT_.out (by kernel_rfl)) (fun _ _ _ h => h) (Or.inl ⟨by rfl,?_⟩) ?_ ?_
      rotate_left
      ·intro w'
       go_simp
       with_reducible rfl
      rotate_left
      ·simp only [Act.put,List.setIfInBounds_toArray,List.set_cons_zero,List.set_cons_succ,i64_w,i32_w]
       rfl
      refine pure_ (i := 4) (N := some 26) (v := ?_) (a' := ?_) #[true,true,true,true,true,false,false,false,false,false,false,false,false] rfl rfl (any_of HT_.out (by kernel_rfl)) (fun _ _ _ h => h) (Or.inl ⟨by rfl,?_⟩) ?_ ?_
      rotate_left
      ·intro w'
       go_simp
       with_reducible rfl
      rotate_left
      ·simp only [Act.put,List.setIfInBounds_toArray,List.set_cons_zero,List.set_cons_succ,i64_w,i32_w]
       rfl
      refine pure_ (i := 6) (N := some 28) (v := ?_) (a' := ?_) #[true,true,true,true,true,false,true,false,false,false,false,false,false] rfl rfl (any_of HT_.out (by kernel_rfl)) (fun _ _ _ h => h) (Or.inl ⟨by rfl,?_⟩) ?_ ?_
      rotate_left
      ·intro w'
       go_simp
       with_reducible rfl
      rotate_left
      ·simp only [Act.put,List.setIfInBounds_toArray,List.set_cons_zero,List.set_cons_succ,i64_w,i32_w]
       rfl
      refine pure_ (i := 7) (N := some 29) (v := ?_) (a' := ?_) #[true,true,true,true,true,false,true,true,false,false,false,false,false] rfl rfl (any_of HT_.out (by kernel_rfl)) (fun _ _ _ h => h) (Or.inl ⟨by rfl,?_⟩) ?_ ?_
      rotate_left
      ·intro w'
       go_simp
       with_reducible rfl
      rotate_left
      ·simp only [Act.put,List.setIfInBounds_toArray,List.set_cons_zero,List.set_cons_succ,i64_w,i32_w]
       rfl
      refine pure_ (i := 8) (N := some 30) (v := ?_) (a' := ?_) #[true,true,true,true,true,false,true,true,true,false,false,false,false] rfl rfl (any_of HT_.out (by kernel_rfl)) (fun _ _ _ h => h) (Or.inl ⟨by rfl,?_⟩) ?_ ?_
      rotate_left
      ·intro w'
       go_simp
       with_reducible rfl
      rotate_left
      ·simp only [Act.put,List.setIfInBounds_toArray,List.set_cons_zero,List.set_cons_succ,i64_w,i32_w]
       rfl
      refine one_ (i := 5) (N := some 27) #[true,true,true,true,true,true,true,true,true,false,false,false,false] rfl rfl (one_of HT_.out (by kernel_rfl)) (by decide) (fun K hK => ?_)
      refine goes_ Try.func88 (by kernel_rfl) rfl #[.slice A0 y108.length c0,.int .i64 a1,.bool a2] (by rfl) rfl rfl (by (try simp only [List.map_toArray,List.map_cons,List.map_nil]);first | done | rfl | (simp only [List.length_drop,List.length_take];rfl)) ?_
      with_reducible refine (ih k (by omega) (fun k_ => (P0_ k_ ∨ w.heap.size ≤ k_)) _ _ y108 a1 a2 t113 _ ?side1 A15.out).mono ?_
      (case side1 => exact HO112.out)
      rintro e w23 ⟨v114,rfl,ho0,hb⟩
      refine ⟨_,rfl,?_⟩
      have n0_ := qq.mk (Kd.V_elder' (by (with_reducible repeat (first | apply Kd.vk | apply Kd.vz | apply Kd.vv));exact HO0.out) (Kd.N_base ho0) hb)
      have n1_ := qq.mk (Kd.V_elder' (by (with_reducible repeat (first | apply Kd.vk | apply Kd.vz | apply Kd.vv));exact HO112.out) (Kd.N_base ho0) hb)
      have n2_ := qq.mk (Kd.V_elder' (by (with_reducible repeat (first | apply Kd.vk | apply Kd.vz | apply Kd.vv));exact HO120.out) (Kd.N_base ho0) hb)
      have n3_ := qq.mk (Kd.N_lower (Kd.N_mono (ok' := fun k_ => (P0_ k_ ∨ w.heap.size ≤ k_)) ho0 (fun k_ hk_ => Or.elim hk_ (fun hs_ => hs_) (fun hn_ => (.inr (Nat.le_trans (zw (by repeat (first | (with_reducible first | exact HB.out | apply qj | apply qz | apply qk) | exact HB.out))) hn_))))) (zw (by repeat (first | (with_reducible first | exact HB.out | apply qj | apply qz | apply qk) | exact HB.out))))
      have n4_ := qq.mk (zv (by repeat (first | (with_reducible first | exact HB.out | apply qj | apply qz | apply qk) | exact HB.out)) hb)
      clear HO0
      clear HO112
      clear HO120
      clear HB
      have HO0 := n0_
      have HO112 := n1_
      have HO120 := n2_
      have HO115 := n3_
      have HB := n4_
      clear n0_ n1_ n2_ n3_ n4_
      (try clear hb)
      (try clear hb2)
      (try clear hk)
      (try clear hi)
      (try clear ho0)
      refine hK.out _ _ trivial (fun hHeld => ?_)
      clear hK K
      refine norm_ (a' := ?_) ?_ ?_
      rotate_left
      ·show Act.put _ (some 27) _ = _
       simp only [Act.put,List.setIfInBounds_toArray,List.set_cons_zero,List.set_cons_succ,i64_w,i32_w]
       rfl
      refine one_ (i := 9) (N := some 31) #[true,true,true,true,true,true,true,true,true,true,false,false,false] rfl rfl (one_of HT_.out (by kernel_rfl)) (by decide) (fun K hK => ?_)
      refine goes_ Try.func81 (by kernel_rfl) rfl #[.slice A22 y116.length c22] (by rfl) rfl rfl (by (try simp only [List.map_toArray,List.map_cons,List.map_nil]);first | done | rfl | (simp only [List.length_drop,List.length_take];rfl)) ?_
      with_reducible refine (qvw.calls k (fun k_ => ((P0_ k_ ∨ w.heap.size ≤ k_) ∧ some k_ ≠ (v114 : Value).ownBlock)) _ _ y116 t121 _ ?side1 A18.out).mono ?_
      (case side1 => exact HO120.out)
      rintro e w24 ⟨v122,rfl,ho0,hb⟩
      refine ⟨_,rfl,?_⟩
      have n0_ := qq.mk (Kd.V_below (by (with_reducible repeat (first | apply Kd.vk | apply Kd.vz | apply Kd.vv));exact HO0.out) hb)
      have n1_ := qq.mk (Kd.V_below (by (with_reducible repeat (first | apply Kd.vk | apply Kd.vz | apply Kd.vv));exact HO112.out) hb)
      have n2_ := qq.mk (Kd.V_below (by (with_reducible repeat (first | apply Kd.vk | apply Kd.vz | apply Kd.vv));exact HO120.out) hb)
      have n3_ := qq.mk (Kd.N_below (by (with_reducible repeat (first | apply Kd.kk | apply Kd.kj | apply Kd.kv));exact HO115.out) hb)
      have n4_ := qq.mk (Kd.V_lower (Kd.V_mono (ok' := fun k_ => (P0_ k_ ∨ w.heap.size ≤ k_) ∧ some k_ ≠ (v114 : Value).ownBlock) ho0 (fun k_ hk_ => ⟨Or.elim hk_ (fun hs_ => hs_.1) (fun hn_ => (.inr (Nat.le_trans (zw (by repeat (first | (with_reducible first | exact HB.out | apply qj | apply qz | apply qk) | exact HB.out))) hn_))),Or.elim hk_ (fun hs_ => hs_.2) (fun hn_ => (Kd.fresh' (Kd.N_lt (by (with_reducible repeat (first | apply Kd.kk | apply Kd.kj | apply Kd.kv));exact HO115.out)) k_ hn_))⟩)) (zw (by repeat (first | (with_reducible first | exact HB.out | apply qj | apply qz | apply qk) | exact HB.out))))
      have n5_ := qq.mk (zv (by repeat (first | (with_reducible first | exact HB.out | apply qj | apply qz | apply qk) | exact HB.out)) hb)
      clear HO0
      clear HO112
      clear HO120
      clear HO115
      clear HB
      have HO0 := n0_
      have HO112 := n1_
      have HO120 := n2_
      have HO115 := n3_
      have HO123 := n4_
      have HB := n5_
      clear n0_ n1_ n2_ n3_ n4_ n5_
      (try clear hb)
      (try clear hb2)
      (try clear hk)
      (try clear hi)
      (try clear ho0)
      obtain ⟨Ao26,co26,eo26⟩ := Kd.V_slice HO123.out
      (first | subst eo26 | (injection eo26 with f1_ f2_ f3_;have f4_ := f1_.symm;have f5_ := f3_.symm;clear f1_ f2_ f3_;subst f4_;subst f5_))
      refine hK.out _ _ trivial (fun hHeld => ?_)
      clear hK K
      refine norm_ (a' := ?_) ?_ ?_
      rotate_left
      ·show Act.put _ (some 31) _ = _
       simp only [Act.put,List.setIfInBounds_toArray,List.set_cons_zero,List.set_cons_succ,i64_w,i32_w]
       rfl
      refine one_ (i := 10) (N := some 32) #[true,true,true,true,true,true,true,true,true,true,true,false,false] rfl rfl (one_of HT_.out (by kernel_rfl)) (by decide) (fun K hK => ?_)
      refine value_ (w1 := ?_) (v := ?_) (by rfl) rfl ?_ ?_
      rotate_left 2
      ·go_simp
       constructor
       ·rfl
       ·rfl
      refine hK.out _ _ trivial (fun hHeld => ?_)
      clear hK K
      refine norm_ (a' := ?_) ?_ ?_
      rotate_left
      ·show Act.put _ (some 32) _ = _
       simp only [Act.put,List.setIfInBounds_toArray,List.set_cons_zero,List.set_cons_succ,i64_w,i32_w]
       rfl
      refine one_ (i := 11) (N := some 33) #[true,true,true,true,true,true,true,true,true,true,true,true,false] rfl rfl (one_of HT_.out (by kernel_rfl)) (by decide) (fun K hK => ?_)
      refine Kd.N_append_step (Kd.slice 5 (Kd.int .u8)) (w0 := w) w.heap.size (by rfl) (.tmp 27) (.tmp 32) 44 22 (.slice none 0 0) 24 rfl Try.underlying44 info22 rfl (by decide) (by omega) v114 t113 t121 [.slice Ao26 t121.length co26] (fun k_ => (P0_ k_ ∨ w.heap.size ≤ k_)) (fun k_ => ((fun k_ => (P0_ k_ ∨ w.heap.size ≤ k_))) k_ ∧ some k_ ≠ (v114 : Value).ownBlock) rfl rfl ?aP (fun _ hk => hk) ?aF ?aO ?aB ?aS ?aL ?_
      (case aP => exact (Kd.FK_slice_mk (Kd.V_reads' (Kd.V_mono (ok' := (fun k_ => ((fun k_ => (P0_ k_ ∨ w.heap.size ≤ k_))) k_ ∧ some k_ ≠ (v114 : Value).ownBlock)) (HO123.out) (fun k_ hk => ⟨hk.1,hk.2⟩))).2.1 (Kd.V_F (Kd.V_mono (ok' := (fun k_ => ((fun k_ => (P0_ k_ ∨ w.heap.size ≤ k_))) k_ ∧ some k_ ≠ (v114 : Value).ownBlock)) (HO123.out) (fun k_ hk => ⟨hk.1,hk.2⟩)))))
      (case aB => exact (by repeat (first | (with_reducible first | exact HB.out | apply qj | apply qz | apply qk) | exact HB.out)))
      (case aF => exact (fun k_ hk => (.inr (Nat.le_trans (zw (by repeat (first | (with_reducible first | exact HB.out | apply qj | apply qz | apply qk) | exact HB.out))) hk))))
      (case aO => exact (by (with_reducible repeat (first | apply Kd.kk | apply Kd.kj | apply Kd.kv));exact HO115.out))
      (case aS => exact (zw (by repeat (first | (with_reducible first | exact HB.out | apply qj | apply qz | apply qk) | exact HB.out))))
      (case aL => have := LMc19.out;omega)
      intro v125 w25 ho hb hg hat
      rw [← Ny124.out] at ho
      have n0_ := qq.mk (Kd.V_afterv (ok := (fun k_ => (P0_ k_ ∨ w.heap.size ≤ k_))) (by (with_reducible repeat (first | apply Kd.vk | apply Kd.vz | apply Kd.vv));exact HO0.out) hg hat)
      have n1_ := qq.mk (Kd.V_afterv (ok := (fun k_ => (P0_ k_ ∨ w.heap.size ≤ k_))) (by (with_reducible repeat (first | apply Kd.vk | apply Kd.vz | apply Kd.vv));exact HO112.out) hg hat)
      have n2_ := qq.mk (Kd.V_afterv (ok := (fun k_ => (P0_ k_ ∨ w.heap.size ≤ k_))) (by (with_reducible repeat (first | apply Kd.vk | apply Kd.vz | apply Kd.vv));exact HO120.out) hg hat)
      have n3_ := qq.mk (Kd.V_afterv (ok := (fun k_ => (P0_ k_ ∨ w.heap.size ≤ k_))) (by (with_reducible repeat (first | apply Kd.vk | apply Kd.vz | apply Kd.vv));exact HO123.out) hg hat)
      have n4_ := qq.mk (hb)
      have n5_ := qq.mk (ho)
      clear HO0
      clear HO112
      clear HO120
      clear HO123
      clear HB
      clear HO115
      have HO0 := n0_
      have HO112 := n1_
      have HO120 := n2_
      have HO123 := n3_
      have HB := n4_
      have HO126 := n5_
      clear n0_ n1_ n2_ n3_ n4_ n5_
      clear ho hb hg hat
      refine hK.out _ _ trivial (fun hHeld => ?_)
      clear hK K
      refine norm_ (a' := ?_) ?_ ?_
      rotate_left
      ·show Act.put _ (some 33) _ = _
       simp only [Act.put,List.setIfInBounds_toArray,List.set_cons_zero,List.set_cons_succ,i64_w,i32_w]
       rfl
      refine pure_ (i := 12) (N := some 6) (v := ?_) (a' := ?_) #[true,true,true,true,true,true,true,true,true,true,true,true,true] rfl rfl (any_of HT_.out (by kernel_rfl)) (fun _ _ _ h => h) (Or.inl ⟨by rfl,?_⟩) ?_ ?_
      rotate_left
      ·intro w'
       go_simp
       with_reducible rfl
      rotate_left
      ·simp only [Act.put,List.setIfInBounds_toArray,List.set_cons_zero,List.set_cons_succ,i64_w,i32_w]
       rfl
      refine done_ (done_of HT_.out (by kernel_rfl)) ?_
      try go_wp2
      go_ret
      exact ⟨_,by first | rfl | (simp [*,jk,jj] <;> rfl),by (with_reducible repeat (first | apply Kd.kk | apply Kd.kj | apply Kd.kv));exact HO126.out,by repeat (first | (with_reducible first | exact HB.out | apply qj | apply qz | apply qk) | exact HB.out)⟩
     ·rw [if_neg c19] at H
      exact absurd H (by simp)
    ·rw [if_neg c14] at H
     exact absurd H (by simp)
   ·rw [if_neg c13] at H
    exact absurd H (by simp)
  ·rw [if_neg c12] at H
   have c12b0 : decide (a1 ≤ t107) = false := decide_eq_false c12
   clear c12
   by_cases c27 : 0 ≤ t107
   ·rw [if_pos c27] at H
    have c27b0 := eq_true c27
    have c27b1 : decide (0 ≤ t107) = true := decide_eq_true c27
    clear c27
    by_cases c28 : t107 ≤ (l0.length : Int)
    ·rw [if_pos c28] at H
     have c28b0 := eq_true c28
     have c28b1 : decide (t107 ≤ (l0.length : Int)) = true := decide_eq_true c28
     clear c28
     obtain ⟨y127,hy127⟩ : ∃ y_ : List (List Int),y_ = (l0.drop (t107 : Int).toNat) := ⟨_,rfl⟩
     replace H : ((qkv.f k y127 (wrap64 (a1 - t107)) false).bind fun t132 => ((qvw.f k (l0.take (t107 : Int).toNat)).bind fun t140 => (if t132.length < 5864062014805 then (some (t132 ++ [t140])) else (none)))) = some r := by first | (rw [hy127];with_reducible exact H) | (have H2_ := (Option.bind_some _ _).symm.trans H;rw [hy127];with_reducible exact H2_) | (have H2_ := (Option.bind_some _ _).symm.trans H;with_reducible exact H2_) | with_reducible exact H | (rw [hy127];exact H) | exact H
     have Ny127 := qq.mk hy127
     clear hy127
     replace H := Option.bind_eq_some_iff.mp H
     obtain ⟨t132,A290,H⟩ := H
     replace H : ((qvw.f k (l0.take (t107 : Int).toNat)).bind fun t140 => (if t132.length < 5864062014805 then (some (t132 ++ [t140])) else (none))) = some r := H
     have A29 := qq.mk A290
     clear A290
     have c30b0 := eq_true (of_decide_eq_true (by assumption) : 0 ≤ t107)
     have c31b0 := eq_true (of_decide_eq_true (by assumption) : t107 ≤ (l0.length : Int))
     obtain ⟨y135,hy135⟩ : ∃ y_ : List (List Int),y_ = (l0.take (t107 : Int).toNat) := ⟨_,rfl⟩
     replace H : ((qvw.f k y135).bind fun t140 => (if t132.length < 5864062014805 then (some (t132 ++ [t140])) else (none))) = some r := by first | (rw [hy135];with_reducible exact H) | (have H2_ := (Option.bind_some _ _).symm.trans H;rw [hy135];with_reducible exact H2_) | (have H2_ := (Option.bind_some _ _).symm.trans H;with_reducible exact H2_) | with_reducible exact H | (rw [hy135];exact H) | exact H
     have Ny135 := qq.mk hy135
     clear hy135
     replace H := Option.bind_eq_some_iff.mp H
     obtain ⟨t140,A320,H⟩ := H
     replace H : (if t132.length < 5864062014805 then (some (t132 ++ [t140])) else (none)) = some r := H
     have A32 := qq.mk A320
     clear A320
     by_cases c33 : t132.length < 5864062014805
     ·rw [if_pos c33] at H
      have LMc33 := qq.mk c33
      clear c33
      obtain ⟨y143,hy143⟩ : ∃ y_ : List (List Int),y_ = (t132 ++ [t140]) := ⟨_,rfl⟩
      replace H : (some y143) = some r := by first | (rw [hy143];with_reducible exact H) | (have H2_ := (Option.bind_some _ _).symm.trans H;rw [hy143];with_reducible exact H2_) | (have H2_ := (Option.bind_some _ _).symm.trans H;with_reducible exact H2_) | with_reducible exact H | (rw [hy143];exact H) | exact H
      have Ny143 := qq.mk hy143
      clear hy143
      obtain rfl := Option.some.inj H
      go_enter Try.func88,Try.ntmps88
      try go_wp2_with (first | ((with_reducible refine jv (f := 119) rfl ?_);refine goesL_ (some 18) rfl rfl Try.func119 (by kernel_rfl) rfl #[.int .i64 (l0.length : Int)] rfl (by (try simp only [List.map_toArray,List.map_cons,List.map_nil]);first | done | rfl | (simp only [List.length_drop,List.length_take];rfl)) ?_;(with_reducible refine (qvq.calls k (l0.length : Int) t107 _ A11.out).mono ?_);rintro e w' ⟨rfl,⟨nd,rfl⟩⟩;refine ⟨_,rfl,?_⟩))
      have n0_ := qq.mk (Kd.vv (Kd.vz HO0.out nd))
      have n1_ := qq.mk (qk (qz HB.out nd))
      clear HO0
      clear HB
      have HO0 := n0_
      have HB := n1_
      clear n0_ n1_
      have q35 : (t107 : Int) ≤ ((l0.length : Int) : Int) := of_decide_eq_true (by assumption)
      obtain ⟨i035,hi035,_,hsz35,_⟩ := info_parts info22
      have hroom35 : l0.length ≤ c0 := (Kd.V_reads' HO0.out).2.1
      have hC35 : Kd.F (Kd.slice 5 (Kd.int .u8)) _ _ A0 l0.length l0 := (Kd.V_at (base := w.heap.size) HO0.out).2.2
      have q035 : (0 : Int) ≤ (t107 : Int) := of_decide_eq_true (by assumption)
      have hcut35 := cut_from (P := Try.prog) 44 22 .i64 Try.underlying44 hi035 1 hsz35 A0 l0.length c0 t107 q035 q35
      have hr35 := Kd.F_cut (m := (t107 : Int).toNat) (c := c0) hC35 (by omega) hroom35
      obtain ⟨A35,hA35⟩ : ∃ A1,A1 = (if c0 = (t107 : Int).toNat then A0 else (A0 : Option Addr).map (·.add ((t107 : Int).toNat * 1))) := ⟨_,rfl⟩
      obtain ⟨c35,hc35⟩ : ∃ c1,c1 = c0 - (t107 : Int).toNat := ⟨_,rfl⟩
      have hy35 : y127.length = l0.length - (t107 : Int).toNat := (by rw [Ny127.out,List.length_drop] <;> omega)
      rw [show (l0).drop (t107 : Int).toNat = y127 from Ny127.out.symm] at hr35
      replace hr35 : Kd.F (Kd.slice 5 (Kd.int .u8)) _ _ A35 y127.length y127 := (by rw [hA35];exact hr35)
      rw [← hy35,← hA35,← hc35] at hcut35
      have HO131 := qq.mk (show Kd.V (Kd.slice 5 (Kd.int .u8)) 22 _ w.heap.size _ (.slice A35 y127.length c35) y127 from Kd.V_mk (by rw [hy35,hc35];exact Nat.sub_le_sub_right hroom35 _) hr35)
      have HC131 := qq.mk (show y127.length ≤ c35 from by rw [hy35,hc35];exact Nat.sub_le_sub_right hroom35 _)
      clear hr35 hC35 hroom35 hi035 hsz35 hc35
      have KY35 := qq.mk hy35
      have KA35 := qq.mk hA35
      clear hy35 hA35
      replace q35 := eq_true q35
      have q36 : (t107 : Int) ≤ ((l0.length : Int) : Int) := of_decide_eq_true (by assumption)
      obtain ⟨i036,hi036,_,hsz36,_⟩ := info_parts info22
      have hroom36 : l0.length ≤ c0 := (Kd.V_reads' HO0.out).2.1
      have hC36 : Kd.F (Kd.slice 5 (Kd.int .u8)) _ _ A0 l0.length l0 := (Kd.V_at (base := w.heap.size) HO0.out).2.2
      have hcut36 := cut_to (P := Try.prog) 44 22 .i64 Try.underlying44 hi036 A0 l0.length c0 t107 (of_decide_eq_true (by assumption)) q36 hroom36
      have hr36 := Kd.F_take (m := (t107 : Int).toNat) hC36 (by omega)
      have hy36 : y135.length = (t107 : Int).toNat := (by rw [Ny135.out,List.length_take];omega)
      rw [← Ny135.out] at hr36
      rw [← hy36] at hcut36
      have HO139 := qq.mk (show Kd.V (Kd.slice 5 (Kd.int .u8)) 22 _ w.heap.size _ (.slice A0 y135.length c0) y135 from Kd.V_mk (by omega) hr36)
      have HC139 := qq.mk (show y135.length ≤ c0 from by omega)
      clear hr36 hC36 hroom36 hi036 hsz36
      have KY36 := qq.mk hy36
      clear hy36
      replace q36 := eq_true q36
      refine start_ (n := 14) (S := fun w' => True) (ds := []) #[false,false,false,false,false,false,false,false,false,false,false,false,false,false] (by kernel_rfl) rfl rfl trivial (fun hHeld => ?_);refine with_tabW qkv.tab8 qkv.bits8 (fun HT_ HW_ => ?_)
      generalize (w.drewN nd).drew = w34 at HO0 HB HO131 HO139 hHeld ⊢
      refine pure_ (i := 0) (N := some 34) (v := ?_) (a' := ?_) #[true,false,false,false,false,false,false,false,false,false,false,false,false,false] rfl rfl (any_of HT_.out (by kernel_rfl)) (fun _ _ _ h => h) (Or.inl ⟨by rfl,?_⟩) ?_ ?_
      rotate_left
      ·intro w'
       go_simp
       with_reducible rfl
      rotate_left
      ·simp only [Act.put,List.setIfInBounds_toArray,List.set_cons_zero,List.set_cons_succ,i64_w,i32_w]
       rfl
      refine pure_ (i := 1) (N := some 35) (v := ?_) (a' := ?_) #[true,true,false,false,false,false,false,false,false,false,false,false,false,false] rfl rfl (any_of HT_.out (by kernel_rfl)) (fun _ _ _ h => h) (Or.inl ⟨by rfl,?_⟩) ?_ ?_
      rotate_left
      ·intro w'
       go_simp
       with_reducible rfl
      rotate_left
      ·simp only [Act.put,List.setIfInBounds_toArray,List.set_cons_zero,List.set_cons_succ,i64_w,i32_w]
       rfl
      refine pure_ (i := 2) (N := some 36) (v := ?_) (a' := ?_) #[true,true,true,false,false,false,false,false,false,false,false,false,false,false] rfl rfl (any_of HT_.out (by kernel_rfl)) (fun _ _ _ h => h) (Or.inl ⟨by rfl,?_⟩) ?_ ?_
      rotate_left
      ·intro w'
       go_simp
       with_reducible rfl
      rotate_left
      ·simp only [Act.put,List.setIfInBounds_toArray,List.set_cons_zero,List.set_cons_succ,i64_w,i32_w]
       rfl
      refine pure_ (i := 3) (N := some 37) (v := ?_) (a' := ?_) #[true,true,true,true,false,false,false,false,false,false,false,false,false,false] rfl rfl (any_of HT_.out (by kernel_rfl)) (fun _ _ _ h => h) (Or.inl ⟨by rfl,?_⟩) ?_ ?_
      rotate_left
      ·intro w'
       go_simp
       with_reducible rfl
      rotate_left
      ·simp only [Act.put,List.setIfInBounds_toArray,List.set_cons_zero,List.set_cons_succ,i64_w,i32_w]
       rfl
      refine pure_ (i := 4) (N := some 38) (v := ?_) (a' := ?_) #[true,true,true,true,true,false,false,false,false,false,false,false,false,false] rfl rfl (any_of HT_.out (by kernel_rfl)) (fun _ _ _ h => h) (Or.inl ⟨by rfl,?_⟩) ?_ ?_
      rotate_left
      ·intro w'
       go_simp
       with_reducible rfl
      rotate_left
      ·simp only [Act.put,List.setIfInBounds_toArray,List.set_cons_zero,List.set_cons_succ,i64_w,i32_w]
       rfl
      refine pure_ (i := 5) (N := some 39) (v := ?_) (a' := ?_) #[true,true,true,true,true,true,false,false,false,false,false,false,false,false] rfl rfl (any_of HT_.out (by kernel_rfl)) (fun _ _ _ h => h) (Or.inl ⟨by rfl,?_⟩) ?_ ?_
      rotate_left
      ·intro w'
       go_simp
       with_reducible rfl
      rotate_left
      ·simp only [Act.put,List.setIfInBounds_toArray,List.set_cons_zero,List.set_cons_succ,i64_w,i32_w]
       rfl
      refine pure_ (i := 7) (N := some 41) (v := ?_) (a' := ?_) #[true,true,true,true,true,true,false,true,false,false,false,false,false,false] rfl rfl (any_of HT_.out (by kernel_rfl)) (fun _ _ _ h => h) (Or.inl ⟨by rfl,?_⟩) ?_ ?_
      rotate_left
      ·intro w'
       go_simp
       with_reducible rfl
      rotate_left
      ·simp only [Act.put,List.setIfInBounds_toArray,List.set_cons_zero,List.set_cons_succ,i64_w,i32_w]
       rfl
      refine pure_ (i := 8) (N := some 42) (v := ?_) (a' := ?_) #[true,true,true,true,true,true,false,true,true,false,false,false,false,false] rfl rfl (any_of HT_.out (by kernel_rfl)) (fun _ _ _ h => h) (Or.inl ⟨by rfl,?_⟩) ?_ ?_
      rotate_left
      ·intro w'
       go_simp
       with_reducible rfl
      rotate_left
      ·simp only [Act.put,List.setIfInBounds_toArray,List.set_cons_zero,List.set_cons_succ,i64_w,i32_w]
       rfl
      refine pure_ (i := 9) (N := some 43) (v := ?_) (a' := ?_) #[true,true,true,true,true,true,false,true,true,true,false,false,false,false] rfl rfl (any_of HT_.out (by kernel_rfl)) (fun _ _ _ h => h) (Or.inl ⟨by rfl,?_⟩) ?_ ?_
      rotate_left
      ·intro w'
       go_simp
       with_reducible rfl
      rotate_left
      ·simp only [Act.put,List.setIfInBounds_toArray,List.set_cons_zero,List.set_cons_succ,i64_w,i32_w]
       rfl
      refine one_ (i := 6) (N := some 40) #[true,true,true,true,true,true,true,true,true,true,false,false,false,false] rfl rfl (one_of HT_.out (by kernel_rfl)) (by decide) (fun K hK => ?_)
      refine goes_ Try.func88 (by kernel_rfl) rfl #[.slice A35 y127.length c35,.int .i64 (wrap64 (a1 - t107)),.bool false] (by rfl) rfl rfl (by (try simp only [List.map_toArray,List.map_cons,List.map_nil]);first | done | rfl | (simp only [List.length_drop,List.length_take];rfl)) ?_
      with_reducible refine (ih k (by omega) (fun k_ => (P0_ k_ ∨ w.heap.size ≤ k_)) _ _ y127 (wrap64 (a1 - t107)) false t132 _ ?side1 A29.out).mono ?_
      (case side1 => exact HO131.out)
      rintro e w37 ⟨v133,rfl,ho0,hb⟩
      refine ⟨_,rfl,?_⟩
      have n0_ := qq.mk (Kd.V_elder' (by (with_reducible repeat (first | apply Kd.vk | apply Kd.vz | apply Kd.vv));exact HO0.out) (Kd.N_base ho0) hb)
      have n1_ := qq.mk (Kd.V_elder' (by (with_reducible repeat (first | apply Kd.vk | apply Kd.vz | apply Kd.vv));exact HO131.out) (Kd.N_base ho0) hb)
      have n2_ := qq.mk (Kd.V_elder' (by (with_reducible repeat (first | apply Kd.vk | apply Kd.vz | apply Kd.vv));exact HO139.out) (Kd.N_base ho0) hb)
      have n3_ := qq.mk (Kd.N_lower (Kd.N_mono (ok' := fun k_ => (P0_ k_ ∨ w.heap.size ≤ k_)) ho0 (fun k_ hk_ => Or.elim hk_ (fun hs_ => hs_) (fun hn_ => (.inr (Nat.le_trans (zw (by repeat (first | (with_reducible first | exact HB.out | apply qj | apply qz | apply qk) | exact HB.out))) hn_))))) (zw (by repeat (first | (with_reducible first | exact HB.out | apply qj | apply qz | apply qk) | exact HB.out))))
      have n4_ := qq.mk (zv (by repeat (first | (with_reducible first | exact HB.out | apply qj | apply qz | apply qk) | exact HB.out)) hb)
      clear HO0
      clear HO131
      clear HO139
      clear HB
      have HO0 := n0_
      have HO131 := n1_
      have HO139 := n2_
      have HO134 := n3_
      have HB := n4_
      clear n0_ n1_ n2_ n3_ n4_
      (try clear hb)
      (try clear hb2)
      (try clear hk)
      (try clear hi)
      (try clear ho0)
      refine hK.out _ _ trivial (fun hHeld => ?_)
      clear hK K
      refine norm_ (a' := ?_) ?_ ?_
      rotate_left
      ·show Act.put _ (some 40) _ = _
       simp only [Act.put,List.setIfInBounds_toArray,List.set_cons_zero,List.set_cons_succ,i64_w,i32_w]
       rfl
      refine one_ (i := 10) (N := some 44) #[true,true,true,true,true,true,true,true,true,true,true,false,false,false] rfl rfl (one_of HT_.out (by kernel_rfl)) (by decide) (fun K hK => ?_)
      refine goes_ Try.func81 (by kernel_rfl) rfl #[.slice A0 y135.length c0] (by rfl) rfl rfl (by (try simp only [List.map_toArray,List.map_cons,List.map_nil]);first | done | rfl | (simp only [List.length_drop,List.length_take];rfl)) ?_
      with_reducible refine (qvw.calls k (fun k_ => ((P0_ k_ ∨ w.heap.size ≤ k_) ∧ some k_ ≠ (v133 : Value).ownBlock)) _ _ y135 t140 _ ?side1 A32.out).mono ?_
      (case side1 => exact HO139.out)
      rintro e w38 ⟨v141,rfl,ho0,hb⟩
      refine ⟨_,rfl,?_⟩
      have n0_ := qq.mk (Kd.V_below (by (with_reducible repeat (first | apply Kd.vk | apply Kd.vz | apply Kd.vv));exact HO0.out) hb)
      have n1_ := qq.mk (Kd.V_below (by (with_reducible repeat (first | apply Kd.vk | apply Kd.vz | apply Kd.vv));exact HO131.out) hb)
      have n2_ := qq.mk (Kd.V_below (by (with_reducible repeat (first | apply Kd.vk | apply Kd.vz | apply Kd.vv));exact HO139.out) hb)
      have n3_ := qq.mk (Kd.N_below (by (with_reducible repeat (first | apply Kd.kk | apply Kd.kj | apply Kd.kv));exact HO134.out) hb)
      have n4_ := qq.mk (Kd.V_lower (Kd.V_mono (ok' := fun k_ => (P0_ k_ ∨ w.heap.size ≤ k_) ∧ some k_ ≠ (v133 : Value).ownBlock) ho0 (fun k_ hk_ => ⟨Or.elim hk_ (fun hs_ => hs_.1) (fun hn_ => (.inr (Nat.le_trans (zw (by repeat (first | (with_reducible first | exact HB.out | apply qj | apply qz | apply qk) | exact HB.out))) hn_))),Or.elim hk_ (fun hs_ => hs_.2) (fun hn_ => (Kd.fresh' (Kd.N_lt (by (with_reducible repeat (first | apply Kd.kk | apply Kd.kj | apply Kd.kv));exact HO134.out)) k_ hn_))⟩)) (zw (by repeat (first | (with_reducible first | exact HB.out | apply qj | apply qz | apply qk) | exact HB.out))))
      have n5_ := qq.mk (zv (by repeat (first | (with_reducible first | exact HB.out | apply qj | apply qz | apply qk) | exact HB.out)) hb)
      clear HO0
      clear HO131
      clear HO139
      clear HO134
      clear HB
      have HO0 := n0_
      have HO131 := n1_
      have HO139 := n2_
      have HO134 := n3_
      have HO142 := n4_
      have HB := n5_
      clear n0_ n1_ n2_ n3_ n4_ n5_
      (try clear hb)
      (try clear hb2)
      (try clear hk)
      (try clear hi)
      (try clear ho0)
      obtain ⟨Ao40,co40,eo40⟩ := Kd.V_slice HO142.out
      (first | subst eo40 | (injection eo40 with f1_ f2_ f3_;have f4_ := f1_.symm;have f5_ := f3_.symm;clear f1_ f2_ f3_;subst f4_;subst f5_))
      refine hK.out _ _ trivial (fun hHeld => ?_)
      clear hK K
      refine norm_ (a' := ?_) ?_ ?_
      rotate_left
      ·show Act.put _ (some 44) _ = _
       simp only [Act.put,List.setIfInBounds_toArray,List.set_cons_zero,List.set_cons_succ,i64_w,i32_w]
       rfl
      refine one_ (i := 11) (N := some 45) #[true,true,true,true,true,true,true,true,true,true,true,true,false,false] rfl rfl (one_of HT_.out (by kernel_rfl)) (by decide) (fun K hK => ?_)
      refine value_ (w1 := ?_) (v := ?_) (by rfl) rfl ?_ ?_
      rotate_left 2
      ·go_simp
       constructor
       ·rfl
       ·rfl
      refine hK.out _ _ trivial (fun hHeld => ?_)
      clear hK K
      refine norm_ (a' := ?_) ?_ ?_
      rotate_left
      ·show Act.put _ (some 45) _ = _
       simp only [Act.put,List.setIfInBounds_toArray,List.set_cons_zero,List.set_cons_succ,i64_w,i32_w]
       rfl
      refine one_ (i := 12) (N := some 46) #[true,true,true,true,true,true,true,true,true,true,true,true,true,false] rfl rfl (one_of HT_.out (by kernel_rfl)) (by decide) (fun K hK => ?_)
      refine Kd.N_append_step (Kd.slice 5 (Kd.int .u8)) (w0 := w) w.heap.size (by rfl) (.tmp 40) (.tmp 45) 44 22 (.slice none 0 0) 24 rfl Try.underlying44 info22 rfl (by decide) (by omega) v133 t132 t140 [.slice Ao40 t140.length co40] (fun k_ => (P0_ k_ ∨ w.heap.size ≤ k_)) (fun k_ => ((fun k_ => (P0_ k_ ∨ w.heap.size ≤ k_))) k_ ∧ some k_ ≠ (v133 : Value).ownBlock) rfl rfl ?aP (fun _ hk => hk) ?aF ?aO ?aB ?aS ?aL ?_
      (case aP => exact (Kd.FK_slice_mk (Kd.V_reads' (Kd.V_mono (ok' := (fun k_ => ((fun k_ => (P0_ k_ ∨ w.heap.size ≤ k_))) k_ ∧ some k_ ≠ (v133 : Value).ownBlock)) (HO142.out) (fun k_ hk => ⟨hk.1,hk.2⟩))).2.1 (Kd.V_F (Kd.V_mono (ok' := (fun k_ => ((fun k_ => (P0_ k_ ∨ w.heap.size ≤ k_))) k_ ∧ some k_ ≠ (v133 : Value).ownBlock)) (HO142.out) (fun k_ hk => ⟨hk.1,hk.2⟩)))))
      (case aB => exact (by repeat (first | (with_reducible first | exact HB.out | apply qj | apply qz | apply qk) | exact HB.out)))
      (case aF => exact (fun k_ hk => (.inr (Nat.le_trans (zw (by repeat (first | (with_reducible first | exact HB.out | apply qj | apply qz | apply qk) | exact HB.out))) hk))))
      (case aO => exact (by (with_reducible repeat (first | apply Kd.kk | apply Kd.kj | apply Kd.kv));exact HO134.out))
      (case aS => exact (zw (by repeat (first | (with_reducible first | exact HB.out | apply qj | apply qz | apply qk) | exact HB.out))))
      (case aL => have := LMc33.out;omega)
      intro v144 w39 ho hb hg hat
      rw [← Ny143.out] at ho
      have n0_ := qq.mk (Kd.V_afterv (ok := (fun k_ => (P0_ k_ ∨ w.heap.size ≤ k_))) (by (with_reducible repeat (first | apply Kd.vk | apply Kd.vz | apply Kd.vv));exact HO0.out) hg hat)
      have n1_ := qq.mk (Kd.V_afterv (ok := (fun k_ => (P0_ k_ ∨ w.heap.size ≤ k_))) (by (with_reducible repeat (first | apply Kd.vk | apply Kd.vz | apply Kd.vv));exact HO131.out) hg hat)
      have n2_ := qq.mk (Kd.V_afterv (ok := (fun k_ => (P0_ k_ ∨ w.heap.size ≤ k_))) (by (with_reducible repeat (first | apply Kd.vk | apply Kd.vz | apply Kd.vv));exact HO139.out) hg hat)
      have n3_ := qq.mk (Kd.V_afterv (ok := (fun k_ => (P0_ k_ ∨ w.heap.size ≤ k_))) (by (with_reducible repeat (first | apply Kd.vk | apply Kd.vz | apply Kd.vv));exact HO142.out) hg hat)
      have n4_ := qq.mk (hb)
      have n5_ := qq.mk (ho)
      clear HO0
      clear HO131
      clear HO139
      clear HO142
      clear HB
      clear HO134
      have HO0 := n0_
      have HO131 := n1_
      have HO139 := n2_
      have HO142 := n3_
      have HB := n4_
      have HO145 := n5_
      clear n0_ n1_ n2_ n3_ n4_ n5_
      clear ho hb hg hat
      refine hK.out _ _ trivial (fun hHeld => ?_)
      clear hK K
      refine norm_ (a' := ?_) ?_ ?_
      rotate_left
      ·show Act.put _ (some 46) _ = _
       simp only [Act.put,List.setIfInBounds_toArray,List.set_cons_zero,List.set_cons_succ,i64_w,i32_w]
       rfl
      refine pure_ (i := 13) (N := some 6) (v := ?_) (a' := ?_) #[true,true,true,true,true,true,true,true,true,true,true,true,true,true] rfl rfl (any_of HT_.out (by kernel_rfl)) (fun _ _ _ h => h) (Or.inl ⟨by rfl,?_⟩) ?_ ?_
      rotate_left
      ·intro w'
       go_simp
       with_reducible rfl
      rotate_left
      ·simp only [Act.put,List.setIfInBounds_toArray,List.set_cons_zero,List.set_cons_succ,i64_w,i32_w]
       rfl
      refine done_ (done_of HT_.out (by kernel_rfl)) ?_
      try go_wp2
      go_ret
      exact ⟨_,by first | rfl | (simp [*,jk,jj] <;> rfl),by (with_reducible repeat (first | apply Kd.kk | apply Kd.kj | apply Kd.kv));exact HO145.out,by repeat (first | (with_reducible first | exact HB.out | apply qj | apply qz | apply qk) | exact HB.out)⟩
     ·rw [if_neg c33] at H
      exact absurd H (by simp)
    ·rw [if_neg c28] at H
     exact absurd H (by simp)
   ·rw [if_neg c27] at H
    exact absurd H (by simp)
def qkz.j0 : Nat → Int → List (List Int) → Bool → Option ((List (List Int)))
 | 0,_,_,_ => none
 | k + 1,x1,x5,x23 => if x23 = true then (some ([] : List (List Int))) else ((qkv.f k x5 x1 true).bind fun t105 => ((qkw.f k t105).bind fun t108 => (some t108)))
def qkz.f (k : Nat) (l0 : List (S27)) (a1 : Int) : Option ((List (List Int))) := (qvj.f k l0).bind fun bt101 => (if bt101.2 = true then (if a1 < 1 then (qkz.j0 k a1 bt101.1 true) else (qkz.j0 k a1 bt101.1 (decide (a1 > (bt101.1.length : Int))))) else (qkz.j0 k a1 bt101.1 true))
set_option maxHeartbeats 8000000 in
set_option maxRecDepth 100000 in
theorem qkz.calls (k : Nat) (A0 : Option Addr) (c0 : Nat) (l0 : List (S27)) (a1 : Int) (r : List (List Int)) (w : World) (hr0 : Kd.C k27 w A0 l0.length l0) (hc0 : l0.length ≤ c0) (h : qkz.f k l0 a1 = some r) :
  Calls Try.prog 44 #[.slice A0 l0.length c0,.int .i64 a1] w fun e w' => ∃ v0_ : Value,e = .returned (v0_) ∧ Kd.N (Kd.slice 5 (Kd.int .u8)) 22 w' w.heap.size (fun k_ => (w.heap.size ≤ k_)) v0_ r ∧ Below w.heap.size w w' := by
 have HR0 := qq.mk hr0
 have HC0 := qq.mk hc0
 clear hr0 hc0
 have HB := qq.mk (Below.refl w.heap.size w)
 have H : ((qvj.f k l0).bind fun bt101 => (if bt101.2 = true then (if a1 < 1 then (qkz.j0 k a1 bt101.1 true) else (qkz.j0 k a1 bt101.1 (decide (a1 > (bt101.1.length : Int))))) else (qkz.j0 k a1 bt101.1 true))) = some r := h
 clear h
 replace H := Option.bind_eq_some_iff.mp H
 obtain ⟨⟨t101,t102⟩,A30,H⟩ := H
 replace H : (if t102 = true then (if a1 < 1 then (qkz.j0 k a1 t101 true) else (qkz.j0 k a1 t101 (decide (a1 > (t101.length : Int))))) else (qkz.j0 k a1 t101 true)) = some r := H
 have A3 := qq.mk A30
 clear A30
 have HC4 := qq.mk H
 clear H
 go_enter Try.func44,Try.ntmps44
 go_upto_region 2 with (first | ((with_reducible refine jv (f := 80) rfl ?_);refine goesL_ (some 9) rfl rfl Try.func80 (by kernel_rfl) rfl #[.slice A0 l0.length c0] rfl (by (try simp only [List.map_toArray,List.map_cons,List.map_nil]);first | done | rfl | (simp only [List.length_drop,List.length_take];rfl)) ?_;(with_reducible refine (qvj.calls k _ _ l0 t101 t102 _ ?side1 ?side2 A3.out).mono ?_);(case side1 => repeat (first | exact HR0.out | (with_reducible refine Kd.C_alloc ?_ _) | (with_reducible refine Kd.C_drewN ?_ _) | (with_reducible refine Kd.C_drew ?_)));(case side2 => exact HC0.out);rintro e w5 ⟨v103,rfl,ho0,hb⟩;refine ⟨_,rfl,?_⟩;have n0_ := qq.mk (Kd.N_lower (Kd.N_mono (ok' := fun k_ => (w.heap.size ≤ k_)) (Kd.S_N (Kd.S_bound ho0)) (fun k_ hk_ => (Nat.le_trans (zw (by repeat (first | (with_reducible first | exact HB.out | apply qj | apply qz | apply qk) | exact HB.out))) hk_.2.1))) (zw (by repeat (first | (with_reducible first | exact HB.out | apply qj | apply qz | apply qk) | exact HB.out))));have n1_ := qq.mk (zv (by repeat (first | (with_reducible first | exact HB.out | apply qj | apply qz | apply qk) | exact HB.out)) hb);clear HB;have HO104 := n0_;have HB := n1_;clear n0_ n1_;(try clear hb);(try clear hb2);(try clear hk);(try clear hi);(try clear ho0)))
 (try simp only [Act.put,List.setIfInBounds_toArray,List.set_cons_zero,List.set_cons_succ])
 go_cut [23] (fun v23 wc => ∃ (kq : Nat) (x23_3 : Bool),v23 = .bool x23_3 ∧ qq (qkz.j0 kq a1 t101 x23_3 = some r) ∧ qq (kq ≤ k) ∧ qq (Kd.N (Kd.slice 5 (Kd.int .u8)) 22 wc w.heap.size (fun k_ => (w.heap.size ≤ k_)) v103 t101) ∧ qq (Below w.heap.size w wc))
 case first =>
  have H := HC4.out
  clear HC4
  by_cases c6 : t102 = true
  ·subst c6
   have H1 : (if a1 < 1 then (qkz.j0 k a1 t101 true) else (qkz.j0 k a1 t101 (decide (a1 > (t101.length : Int))))) = some r := by rw [if_pos rfl] at H;exact H
   clear H
   have H := H1
   clear H1
   by_cases c7 : a1 < 1
   ·rw [if_pos c7] at H
    have c7b0 : decide (a1 < 1) = true := decide_eq_true c7
    clear c7
    (first | rw [c7b0] | (simp only [i64_w,i32_w];rw [c7b0]) | skip)
    have H' := qq.mk H
    clear H
    go_wp2
    go_meet
    case rel => exact ⟨_,(true),(by first | rfl | (simp;done) | (simp [*];done)),H',⟨by first | omega | exact Nat.le_refl _⟩,⟨by (with_reducible repeat (first | apply Kd.kk | apply Kd.kj | apply Kd.kv));exact HO104.out⟩,⟨by repeat (first | (with_reducible first | exact HB.out | apply qj | apply qz | apply qk) | exact HB.out)⟩⟩
   ·rw [if_neg c7] at H
    have c7b0 : decide (a1 < 1) = false := decide_eq_false c7
    clear c7
    (first | rw [c7b0] | (simp only [i64_w,i32_w];rw [c7b0]) | skip)
    have H' := qq.mk H
    clear H
    obtain ⟨Ao8,co8,eo8⟩ := Kd.N_slice HO104.out
    subst eo8
    go_wp2
    go_meet
    case rel => exact ⟨_,(decide (a1 > (t101.length : Int))),(by first | rfl | (simp;done) | (simp [*];done)),H',⟨by first | omega | exact Nat.le_refl _⟩,⟨by (with_reducible repeat (first | apply Kd.kk | apply Kd.kj | apply Kd.kv));exact HO104.out⟩,⟨by repeat (first | (with_reducible first | exact HB.out | apply qj | apply qz | apply qk) | exact HB.out)⟩⟩
  ·replace c6 := Bool.eq_false_iff.mpr c6
   subst c6
   have H1 : (qkz.j0 k a1 t101 true) = some r := by rw [if_neg (show ¬ (false = true) by decide)] at H;exact H
   clear H
   have H := H1
   clear H1
   have H' := qq.mk H
   clear H
   go_wp2
   go_meet
   case rel => exact ⟨_,(true),(by first | rfl | (simp;done) | (simp [*];done)),H',⟨by first | omega | exact Nat.le_refl _⟩,⟨by (with_reducible repeat (first | apply Kd.kk | apply Kd.kj | apply Kd.kv));exact HO104.out⟩,⟨by repeat (first | (with_reducible first | exact HB.out | apply qj | apply qz | apply qk) | exact HB.out)⟩⟩
 case rest =>
  clear HC4
  try clear p2
  try clear c4
  try clear c6
  try clear c7
  try clear c7b0
  try clear c8
  obtain ⟨kq,x23_3,rfl,HA,HJ3,HO_5,HB⟩ := hcut
  cases kq with
  | zero => exact absurd HA.out (by simp [qkz.j0])
  | succ kj3 =>
   have H := HA.out
   clear HA
   simp only [qkz.j0] at H
   by_cases c9 : x23_3 = true
   ·subst c9
    have H1 : (some ([] : List (List Int))) = some r := by rw [if_pos rfl] at H;exact H
    clear H
    have H := H1
    clear H1
    obtain rfl := Option.some.inj H
    go_wp2
    go_ret
    exact ⟨_,by first | rfl | (simp [*,jk,jj] <;> rfl),by first | exact Kd.S_nil _ _ _ _ _ | exact Kd.N_nil _ _ _ _ _ | exact Kd.V_nil _ _ _ _ _ | exact Kd.Q_nil _ _ _ _ _ | exact Kd.R_nil _ _ _ _ _,by repeat (first | (with_reducible first | exact HB.out | apply qj | apply qz | apply qk) | exact HB.out)⟩
   ·replace c9 := Bool.eq_false_iff.mpr c9
    subst c9
    have H1 : ((qkv.f kj3 t101 a1 true).bind fun t105 => ((qkw.f kj3 t105).bind fun t108 => (some t108))) = some r := by rw [if_neg (show ¬ (false = true) by decide)] at H;exact H
    clear H
    have H := H1
    clear H1
    replace H := Option.bind_eq_some_iff.mp H
    obtain ⟨t105,A100,H⟩ := H
    replace H : ((qkw.f kj3 t105).bind fun t108 => (some t108)) = some r := H
    have A10 := qq.mk A100
    clear A100
    replace H := Option.bind_eq_some_iff.mp H
    obtain ⟨t108,A110,H⟩ := H
    replace H : (some t108) = some r := H
    have A11 := qq.mk A110
    clear A110
    obtain rfl := Option.some.inj H
    obtain ⟨Ao12,co12,eo12⟩ := Kd.N_slice HO_5.out
    subst eo12
    go_wp2_with (first | ((with_reducible refine jv (f := 88) rfl ?_);refine goesL_ (some 26) rfl rfl Try.func88 (by kernel_rfl) rfl #[.slice Ao12 t101.length co12,.int .i64 a1,.bool true] rfl (by (try simp only [List.map_toArray,List.map_cons,List.map_nil]);first | done | rfl | (simp only [List.length_drop,List.length_take];rfl)) ?_;(with_reducible refine (qkv.calls kj3 (fun k_ => (w.heap.size ≤ k_)) _ _ t101 a1 true t105 _ ?side1 A10.out).mono ?_);(case side1 => exact Kd.N_V (HO_5.out));rintro e w13 ⟨v106,rfl,ho0,hb⟩;refine ⟨_,rfl,?_⟩;have n0_ := qq.mk (Kd.N_elder' (by (with_reducible repeat (first | apply Kd.kk | apply Kd.kj | apply Kd.kv));exact HO_5.out) (Kd.N_base ho0) hb);have n1_ := qq.mk (Kd.N_lower (Kd.N_mono (ok' := fun k_ => (w.heap.size ≤ k_)) ho0 (fun k_ hk_ => Or.elim hk_ (fun hs_ => hs_) (fun hn_ => (Nat.le_trans (zw (by repeat (first | (with_reducible first | exact HB.out | apply qj | apply qz | apply qk) | exact HB.out))) hn_)))) (zw (by repeat (first | (with_reducible first | exact HB.out | apply qj | apply qz | apply qk) | exact HB.out))));have n2_ := qq.mk (zv (by repeat (first | (with_reducible first | exact HB.out | apply qj | apply qz | apply qk) | exact HB.out)) hb);clear HO_5;clear HB;have HO_5 := n0_;have HO107 := n1_;have HB := n2_;clear n0_ n1_ n2_;(try clear hb);(try clear hb2);(try clear hk);(try clear hi);(try clear ho0);obtain ⟨Ao14,co14,eo14⟩ := Kd.N_slice HO107.out;subst eo14) | ((with_reducible refine jv (f := 85) rfl ?_);refine goesL_ (some 27) rfl rfl Try.func85 (by kernel_rfl) rfl #[.slice Ao14 t105.length co14] rfl (by (try simp only [List.map_toArray,List.map_cons,List.map_nil]);first | done | rfl | (simp only [List.length_drop,List.length_take];rfl)) ?_;(with_reducible refine (qkw.calls kj3 _ _ t105 t108 _ ?side1 ?side2 A11.out).mono ?_);(case side1 => repeat (first | exact (Kd.N_reads' HO107.out).2.2 | (with_reducible refine Kd.C_alloc ?_ _) | (with_reducible refine Kd.C_drewN ?_ _) | (with_reducible refine Kd.C_drew ?_)));(case side2 => exact (Kd.N_reads' HO107.out).2.1);rintro e w15 ⟨v109,rfl,ho0,hb⟩;refine ⟨_,rfl,?_⟩;have n0_ := qq.mk (Kd.N_elder' (by (with_reducible repeat (first | apply Kd.kk | apply Kd.kj | apply Kd.kv));exact HO_5.out) (Kd.N_base (Kd.S_N ho0)) hb);have n1_ := qq.mk (Kd.N_elder' (by (with_reducible repeat (first | apply Kd.kk | apply Kd.kj | apply Kd.kv));exact HO107.out) (Kd.N_base (Kd.S_N ho0)) hb);have n2_ := qq.mk (Kd.N_lower (Kd.N_mono (ok' := fun k_ => (w.heap.size ≤ k_) ∧ some k_ ≠ (.slice Ao12 t101.length co12 : Value).ownBlock ∧ some k_ ≠ (.slice Ao14 t105.length co14 : Value).ownBlock) (Kd.S_N (Kd.S_bound ho0)) (fun k_ hk_ => ⟨(Nat.le_trans (zw (by repeat (first | (with_reducible first | exact HB.out | apply qj | apply qz | apply qk) | exact HB.out))) hk_.2.1),(Kd.fresh' (Kd.N_lt (by (with_reducible repeat (first | apply Kd.kk | apply Kd.kj | apply Kd.kv));exact HO_5.out)) k_ hk_.2.1),(Kd.fresh' (Kd.N_lt (by (with_reducible repeat (first | apply Kd.kk | apply Kd.kj | apply Kd.kv));exact HO107.out)) k_ hk_.2.1)⟩)) (zw (by repeat (first | (with_reducible first | exact HB.out | apply qj | apply qz | apply qk) | exact HB.out))));have n3_ := qq.mk (zv (by repeat (first | (with_reducible first | exact HB.out | apply qj | apply qz | apply qk) | exact HB.out)) hb);clear HO_5;clear HO107;clear HB;have HO_5 := n0_;have HO107 := n1_;have HO110 := n2_;have HB := n3_;clear n0_ n1_ n2_ n3_;(try clear hb);(try clear hb2);(try clear hk);(try clear hi);(try clear ho0)))
    go_ret
    exact ⟨_,by first | rfl | (simp [*,jk,jj] <;> rfl),by (with_reducible repeat (first | apply Kd.kk | apply Kd.kj | apply Kd.kv));exact Kd.N_mono HO110.out (fun _ hk => hk.1),by repeat (first | (with_reducible first | exact HB.out | apply qj | apply qz | apply qk) | exact HB.out)⟩
def qqq.f (a0 : Int) : Option (List Int) := some (([(a0) % 256,(a0 / 256) % 256,(a0 / 65536) % 256,(a0 / 16777216) % 256] : List Int))
set_option maxHeartbeats 8000000 in
set_option maxRecDepth 100000 in
theorem qqq.calls (a0 : Int) (r : List Int) (w : World) (h : qqq.f a0 = some r) :
  Calls Try.prog 79 #[.int .i64 a0] w fun e w' => ∃ v0_ : Value,e = .returned (v0_) ∧ Kd.R (Kd.int .u8) 5 w' w.heap.size (fun _ => True) v0_ r ∧ Below w.heap.size w w' := by
 have HB := qq.mk (Below.refl w.heap.size w)
 have H : (some (([(a0) % 256,(a0 / 256) % 256,(a0 / 65536) % 256,(a0 / 16777216) % 256] : List Int))) = some r := h
 clear h
 obtain ⟨y101,hy101⟩ : ∃ y_ : List Int,y_ = (([(a0) % 256,(a0 / 256) % 256,(a0 / 65536) % 256,(a0 / 16777216) % 256] : List Int)) := ⟨_,rfl⟩
 replace H : (some y101) = some r := by first | (rw [hy101];with_reducible exact H) | (have H2_ := (Option.bind_some _ _).symm.trans H;rw [hy101];with_reducible exact H2_) | (have H2_ := (Option.bind_some _ _).symm.trans H;with_reducible exact H2_) | with_reducible exact H | (rw [hy101];exact H) | exact H
 have Ny101 := qq.mk hy101
 clear hy101
 obtain rfl := Option.some.inj H
 go_enter Try.func79,Try.ntmps79
 go_wp2_with (first | ((with_reducible refine gate_dst (N := 14) rfl ?_);refine Kd.R_lit (Kd.int .u8) _ 5 ?hg (N := 14) ?hd (xs := ([(a0) % 256,(a0 / 256) % 256,(a0 / 65536) % 256,(a0 / 16777216) % 256] : List Int)) (inner := [.int .u8 ((a0) % 256),.int .u8 ((a0 / 256) % 256),.int .u8 ((a0 / 65536) % 256),.int .u8 ((a0 / 16777216) % 256)]) (ok := fun _ => True) (okp := fun _ => True) ?hr ?hp (fun _ hk => hk) trivial (Below.refl _ _) (Nat.le_refl _) (by simp) ?_;(case hd => rfl);(case hg => rfl);(case hr => first | (go_simp;done) | (go_simp;rfl));(case hp => exact (Reps.one (show Kd.M (Kd.int .u8) _ _ _ ((a0) % 256) [.int .u8 ((a0) % 256)] from rfl) (Reps.one (show Kd.M (Kd.int .u8) _ _ _ ((a0 / 256) % 256) [.int .u8 ((a0 / 256) % 256)] from rfl) (Reps.one (show Kd.M (Kd.int .u8) _ _ _ ((a0 / 65536) % 256) [.int .u8 ((a0 / 65536) % 256)] from rfl) (Reps.one (show Kd.M (Kd.int .u8) _ _ _ ((a0 / 16777216) % 256) [.int .u8 ((a0 / 16777216) % 256)] from rfl) (Reps.none _ _))))));intro v102 w2 ho3 hb hg_ hnew_;clear hg_ hnew_;(first | rw [← Ny101.out] at ho3 | (simp only [Int.reduceToNat] at ho3;rw [← Ny101.out] at ho3));have n0_ := qq.mk (Kd.R_lower ho3 (zw (by repeat (first | (with_reducible first | exact HB.out | apply qj | apply qz | apply qk) | exact HB.out))));have n1_ := qq.mk (zv (by repeat (first | (with_reducible first | exact HB.out | apply qj | apply qz | apply qk) | exact HB.out)) hb);clear HB;have HO103 := n0_;have HB := n1_;clear n0_ n1_;clear hb ho3))
 go_ret
 exact ⟨_,by first | rfl | (simp [*,jk,jj] <;> rfl),by (with_reducible repeat (first | apply Kd.jq | apply Kd.zx | apply Kd.jz));exact HO103.out,by repeat (first | (with_reducible first | exact HB.out | apply qj | apply qz | apply qk) | exact HB.out)⟩
def mulT : List Int := [1103515245,69069,1664525,22695477]
def stepAt (a : List Int) (x : Int) (i : Nat) : List Int := a.set i ((a.getD i 0 * mulT.getD i 0 + x + 1 + a.getD ((i+1)%4) 0) % 2147483579)
def mixN (a : List Int) (x : Int) : Nat → List Int
 | 0 => a
 | i+1 => stepAt (mixN a x i) x i
structure OnlyB (w w' : World) (g : Nat) : Prop where
 os : w'.os = w.os
 tape : w'.tape = w.tape
 output : w'.output = w.output
 size : w'.heap.size = w.heap.size
 block : ∀ k,k ≠ g → w'.heap[k]? = w.heap[k]?
theorem OnlyB.refl (w : World) (g : Nat) : OnlyB w w g := ⟨rfl,rfl,rfl,rfl,fun _ _ => rfl⟩
theorem OnlyB.drew {w w' : World} {g : Nat} (h : OnlyB w w' g) : OnlyB w w'.drew g := ⟨h.os,h.tape,h.output,h.size,h.block⟩
theorem OnlyB.set {w w' : World} {g : Nat} (h : OnlyB w w' g) (j : Nat) (u : Value) : OnlyB w (w'.setCell ⟨g,j,none⟩ u) g :=
 ⟨h.os,h.tape,h.output,by simpa [World.setCell] using h.size,fun k hk => (Below.heap_setCell w' ⟨g,j,none⟩ u k hk).trans (h.block k hk)⟩
theorem mulOk : ∀ j : Nat,j < 4 → 0 ≤ mulT.getD j 0 ∧ mulT.getD j 0 < 2147483579 := by decide
theorem mix_len (l : List Int) (x : Int) (k : Nat) : (mixN l x k).length = l.length := by
 induction k with
 | zero => rfl
 | succ k ih => simp [mixN,stepAt,ih]
theorem prod_bd {a b : Int} (ha : 0 ≤ a) (ha2 : a < 2147483579) (hb : 0 ≤ b) (hb2 : b < 2147483579) : 0 ≤ a * b ∧ a * b ≤ 4611685717779682084 := by
 refine ⟨Int.mul_nonneg ha hb,?_⟩
 have := Int.mul_le_mul (show a ≤ 2147483578 by omega) (show b ≤ 2147483578 by omega) hb (by omega)
 omega
theorem mix_bd (l : List Int) (x : Int) (hx : 0 ≤ x) (hl : l.length = 4) (hb : ∀ j,j < 4 → 0 ≤ l.getD j 0 ∧ l.getD j 0 < 2147483579) (k : Nat) (hk : k ≤ 4) : ∀ j,j < 4 → 0 ≤ (mixN l x k).getD j 0 ∧ (mixN l x k).getD j 0 < 2147483579 := by
 induction k with
 | zero => exact hb
 | succ k ih =>
  intro j hj
  have ih := ih (by omega)
  have hlen := mix_len l x k
  simp only [mixN,stepAt]
  by_cases e : j = k
  ·subst e
   rw [List.getD_eq_getElem?_getD,List.getElem?_set_self (by omega)]
   simp only [Option.getD_some]
   omega
  ·rw [List.getD_eq_getElem?_getD,List.getElem?_set_ne (by omega),← List.getD_eq_getElem?_getD]
   exact ih j hj
theorem nums_cell {w : World} {g : Nat} {l : List Int} {t : TypeId} (h : w.heap[g]? = some (.cells (nums .i64 l).toArray t (0,0))) (k : Nat) (hk : k < l.length) : w.cell? ⟨g,k,none⟩ = some (.int .i64 (l.getD k 0)) := by
 rw [qw h]
 simp [nums,List.getElem?_map,List.getElem?_eq_getElem hk,List.getD_eq_getElem?_getD]
set_option maxHeartbeats 1000000 in
set_option maxRecDepth 100000 in
theorem eat_calls (x : Int) (l : List Int) (hl : l.length = 4) (hb : ∀ j,j < 4 → 0 ≤ l.getD j 0 ∧ l.getD j 0 < 2147483579) (ga gm : Nat) (w : World) (hx0 : 0 ≤ x) (hx1 : x ≤ 255)
 (ha : w.heap[ga]? = some (.cells (nums .i64 l).toArray 113 (0,0))) (hm : w.heap[gm]? = some (.cells (nums .i64 mulT).toArray 113 (0,0))) (hne : ga ≠ gm) :
 Calls Try.prog 117 #[.int .u8 x,.pointer (some ⟨ga,0,none⟩),.pointer (some ⟨gm,0,none⟩)] w fun e w' => e = .returned (.tuple #[]) ∧ w'.heap[ga]? = some (.cells (nums .i64 (mixN l x 4)).toArray 113 (0,0)) ∧ OnlyB w w' ga := by
 have HL := qq.mk hl;have HB := qq.mk hb;have HA := qq.mk ha;have HM := qq.mk hm
 clear hl hb ha hm
 go_enter Try.func117,Try.ntmps117
 go_wp2
 go_loopw [5] (fun i wr => ∃ k : Nat,k ≤ 4 ∧ i = .int .i64 k ∧ qq (wr.heap[ga]? = some (.cells (nums .i64 (mixN l x k)).toArray 113 (0,0)) ∧ OnlyB w wr ga)) (fun i _ => 4 - (intOf i).toNat)
 case atStart => exact ⟨0,by omega,rfl,⟨HA.out,OnlyB.refl _ _⟩⟩
 case round =>
  obtain ⟨k,hk,rfl,HW⟩ := hrel
  by_cases hlt : k < 4
  ·obtain ⟨a,ea⟩ : ∃ a,a = mixN l x k := ⟨_,rfl⟩
   have hc1 := nums_cell HW.out.1 k (by rw [mix_len,HL.out];omega)
   have hc2 := nums_cell HW.out.1 ((k+1)%4) (by rw [mix_len,HL.out];omega)
   have hc3 := nums_cell ((HW.out.2.block gm (Ne.symm hne)).trans HM.out) k hlt
   have hf := qv HW.out.1 k
   have b1 := mix_bd l x hx0 HL.out HB.out k hk k hlt
   have b2 := mix_bd l x hx0 HL.out HB.out k hk ((k+1)%4) (by omega)
   have b3 := mulOk k hlt
   obtain ⟨p1,eP1⟩ : ∃ p,p = (mixN l x k).getD k 0 := ⟨_,rfl⟩
   obtain ⟨p2,eP2⟩ : ∃ p,p = (mixN l x k).getD ((k+1)%4) 0 := ⟨_,rfl⟩
   obtain ⟨p3,eP3⟩ : ∃ p,p = mulT.getD k 0 := ⟨_,rfl⟩
   rw [← eP1] at hc1 b1;rw [← eP2] at hc2 b2;rw [← eP3] at hc3 b3
   have b4 := prod_bd b1.1 b1.2 b3.1 b3.2
   have EP1 := qq.mk eP1;have EP2 := qq.mk eP2;have EP3 := qq.mk eP3;have EA := qq.mk ea
   clear eP1 eP2 eP3 ea
   go_wp2
   have e1 : IntKind.i64.wrap (p1 * p3) = p1 * p3 := IntWalk.i64_in _ (by omega)
   have e2 : IntKind.i64.wrap x = x := IntWalk.i64_in _ (by omega)
   have e3 : IntKind.i64.wrap (p1 * p3 + x) = p1 * p3 + x := IntWalk.i64_in _ (by omega)
   have e4 : IntKind.i64.wrap (p1 * p3 + x + 1) = p1 * p3 + x + 1 := IntWalk.i64_in _ (by omega)
   have e5 : IntKind.i64.wrap (k + 1) = k + 1 := IntWalk.i64_in _ (by omega)
   have e6 : ((k : Int) + 1).tmod 4 = ((k : Int) + 1) % 4 := Int.tmod_eq_emod_of_nonneg (by omega)
   have e7 : IntKind.i64.wrap (p1 * p3 + x + 1 + p2) = p1 * p3 + x + 1 + p2 := IntWalk.i64_in _ (by omega)
   have e8 : (p1 * p3 + x + 1 + p2).tmod 2147483579 = (p1 * p3 + x + 1 + p2) % 2147483579 := Int.tmod_eq_emod_of_nonneg (by omega)
   have n0 : 0 ≤ ((k : Int) + 1) % 4 := by omega
   have n4 : ((k : Int) + 1) % 4 < 4 := by omega
   have n1 : (((k : Int) + 1) % 4).toNat = (k + 1) % 4 := by omega
   go_still_tail 20,(by kernel_rfl)
   clear e1 e2 e3 e4 e5 e6 e7 e8 n0 n4 n1
   skip
   change wpList _ _ _ _ _ wr.drew
   have HW2 : qq (wr.drew.heap[ga]? = some (.cells (nums .i64 (mixN l x k)).toArray 113 (0,0)) ∧ OnlyB w wr.drew ga) := ⟨HW.out.1,HW.out.2.drew⟩
   clear HW hc1 hc2 hc3 hf
   generalize wr.drew = w2 at HW2 ⊢
   have hc1 := nums_cell HW2.out.1 k (by rw [mix_len,HL.out];omega)
   have hf := qv HW2.out.1 k
   go_wp2
   go_roundw
   case rel =>
    refine ⟨k + 1,by omega,by go_num,?_,HW2.out.2.set _ _⟩
    rw [blk_set HW2.out.1]
    simp only [mixN,stepAt,nums,List.map_set,List.setIfInBounds_toArray,EP1.out,EP2.out,EP3.out]
   case measure => simp [intOf];omega
  ·go_wp2
   obtain rfl : k = 4 := by omega
   exact bodyPost_end (results_none rfl _ _ _) rfl ⟨rfl,HW.out.1,HW.out.2⟩
def isBytes (l : List Int) : Prop := ∀ x ∈ l,0 ≤ x ∧ x ≤ 255
instance (l : List Int) : Decidable (isBytes l) := by unfold isBytes;infer_instance
def dgMix (a : List Int) (x : Int) : List Int := mixN a x 4
def dgAll (a : List Int) (xs : List Int) : List Int := xs.foldl dgMix a
def yb (n : Int) : List Int := [n % 256,(n / 256) % 256,(n / 65536) % 256,(n / 16777216) % 256]
def dgS (l : List Int) : List Int := dgAll (dgAll (dgAll [11,22,33,44] l) (yb l.length)) (List.replicate 8 0)
def dg (l : List Int) : List Int := (dgS l).flatMap yb
def xz.f (l0 : List Int) : Option (List Int) := if isBytes l0 then (if (l0.length : Int) > 20000 then none else some (dg l0)) else none
theorem yb_bytes (n : Int) : isBytes (yb n) := by
 intro x hx
 simp only [yb,List.mem_cons,List.not_mem_nil,or_false] at hx
 omega
theorem yb_len (n : Int) : (yb n).length = 4 := rfl
structure DigInv (w wr : World) (a : List Int) : Prop where
 A : wr.heap[w.heap.size]? = some (.cells (nums .i64 a).toArray 113 (0,0))
 M : wr.heap[w.heap.size + 1]? = some (.cells (nums .i64 mulT).toArray 113 (0,0))
 B : Below w.heap.size w wr
 len : a.length = 4
 bd : ∀ j,j < 4 → 0 ≤ a.getD j 0 ∧ a.getD j 0 < 2147483579
theorem DigInv.to {w wr w' : World} {a : List Int} {x : Int} (h : DigInv w wr a) (hx : 0 ≤ x) (h1 : w'.heap[w.heap.size]? = some (.cells (nums .i64 (mixN a x 4)).toArray 113 (0,0))) (h2 : OnlyB wr w' w.heap.size) : DigInv w w' (dgMix a x) :=
 ⟨h1,(h2.block _ (by omega)).trans h.M,⟨h2.os.trans h.B.os,h2.tape.trans h.B.tape,h2.output.trans h.B.output,by rw [h2.size];exact h.B.size,fun k hk => (h2.block k (by omega)).trans (h.B.block k hk)⟩,by rw [dgMix,mix_len,h.len],mix_bd a x hx h.len h.bd 4 (by omega)⟩
theorem DigInv.drew {w wr : World} {a : List Int} (h : DigInv w wr a) : DigInv w wr.drew a := ⟨h.A,h.M,h.B.drew,h.len,h.bd⟩
theorem DigInv.keep {w wr w' : World} {a : List Int} (h : DigInv w wr a) (hb : Below (w.heap.size + 2) wr w') : DigInv w w' a :=
 ⟨(hb.block _ (by omega)).trans h.A,(hb.block _ (by omega)).trans h.M,h.B.trans (hb.mono (by omega)),h.len,h.bd⟩
theorem DigInv.lt {w wr : World} {a : List Int} (h : DigInv w wr a) : w.heap.size + 2 ≤ wr.heap.size := blk_lt h.M
theorem eat_inv {w wr : World} {a : List Int} (h : DigInv w wr a) (x : Int) (hx0 : 0 ≤ x) (hx1 : x ≤ 255) :
  Calls Try.prog 117 #[.int .u8 x,.pointer (some ⟨w.heap.size,0,none⟩),.pointer (some ⟨w.heap.size + 1,0,none⟩)] wr fun e w' => e = .returned (.tuple #[]) ∧ DigInv w w' (dgMix a x) ∧ OnlyB wr w' w.heap.size :=
 (eat_calls x a h.len h.bd _ _ wr hx0 hx1 h.A h.M (by omega)).mono fun e w' ⟨he,h1,h2⟩ => ⟨he,h.to hx0 h1 h2,h2⟩
theorem DigInv.start (w : World) : DigInv w ((w.alloc (.cells #[.int .i64 11,.int .i64 22,.int .i64 33,.int .i64 44] 113)).alloc (.cells #[.int .i64 1103515245,.int .i64 69069,.int .i64 1664525,.int .i64 22695477] 113)) [11,22,33,44] :=
 ⟨zq (blk_new w _) _,by have := blk_new (w.alloc (.cells #[.int .i64 11,.int .i64 22,.int .i64 33,.int .i64 44] 113)) (.cells (nums .i64 mulT).toArray 113 (0,0));simpa [nums,mulT] using this,((Below.refl _ _).alloc (Nat.le_refl _) _).alloc (by simp) _,rfl,by decide⟩
theorem rd_mem {l : List Int} {k : Nat} (h : k < l.length) : rd l k ∈ l := by
 simp [rd,List.getD_eq_getElem?_getD,List.getElem?_eq_getElem h]
theorem take_snoc_rd {l : List Int} {k : Nat} (h : k < l.length) : l.take (k + 1) = l.take k ++ [rd l k] := by
 rw [List.take_succ_eq_append_getElem h];simp [rd,List.getD_eq_getElem?_getD,List.getElem?_eq_getElem h]
theorem dgAll_nil (a : List Int) : dgAll a [] = a := rfl
theorem dgAll_snoc (a l : List Int) (x : Int) : dgAll a (l ++ [x]) = dgMix (dgAll a l) x := by simp [dgAll]
theorem R_only {α : Type} {d : Kd α} {e base : Nat} {w w' : World} {ok : Nat → Prop} {v : Value} {xs : List α} (h : d.R e w base ok v xs) {g : Nat} (ho : OnlyB w w' g) (hg : g < base) : d.R e w' base ok v xs :=
 Kd.R_mono (Kd.R_move (Kd.R_bound h) (fun k hk => ho.block k (by have := hk.2.1;omega))) (fun _ hk => hk.1)
theorem R_at {e base n c : Nat} {w : World} {ok : Nat → Prop} {kd : IntKind} {A : Option Addr} {xs : List Int} (h : (Kd.int kd).R e w base ok (.slice A n c) xs) (k : Nat) (hk : k < xs.length) :
  ∃ ad,A = some ad ∧ w.cell? (ad.add k) = some (.int kd (rd xs k)) := by
 obtain ⟨A',c',he,_,hC⟩ := Kd.R_reads h
 injection he with h1 h2 h3
 subst h1
 obtain ⟨ad,h4,h5⟩ := Kd.at_int hC k (by omega) (by omega)
 exact ⟨ad,h4,by simpa using h5⟩
theorem agg4_index0 (b0 b1 b2 b3 : Int) (W : World) : (Instr.index 113 (.agg #[.int .i64 b0,.int .i64 b1,.int .i64 b2,.int .i64 b3]) (.int .i64 0)).run Try.prog W = .ok (.int .i64 b0) W := by kernel_rfl
theorem agg4_index1 (b0 b1 b2 b3 : Int) (W : World) : (Instr.index 113 (.agg #[.int .i64 b0,.int .i64 b1,.int .i64 b2,.int .i64 b3]) (.int .i64 1)).run Try.prog W = .ok (.int .i64 b1) W := by kernel_rfl
theorem agg4_index2 (b0 b1 b2 b3 : Int) (W : World) : (Instr.index 113 (.agg #[.int .i64 b0,.int .i64 b1,.int .i64 b2,.int .i64 b3]) (.int .i64 2)).run Try.prog W = .ok (.int .i64 b2) W := by kernel_rfl
theorem agg4_index3 (b0 b1 b2 b3 : Int) (W : World) : (Instr.index 113 (.agg #[.int .i64 b0,.int .i64 b1,.int .i64 b2,.int .i64 b3]) (.int .i64 3)).run Try.prog W = .ok (.int .i64 b3) W := by kernel_rfl
theorem agg4_index (b0 b1 b2 b3 : Int) (k : Nat) (hk : k < 4) (W : World) : (Instr.index 113 (.agg #[.int .i64 b0,.int .i64 b1,.int .i64 b2,.int .i64 b3]) (.int .i64 (k : Int))).run Try.prog W = .ok (.int .i64 (rd [b0,b1,b2,b3] k)) W := by
 rcases k with _ | _ | _ | _ | k
 ·exact agg4_index0 b0 b1 b2 b3 W
 ·exact agg4_index1 b0 b1 b2 b3 W
 ·exact agg4_index2 b0 b1 b2 b3 W
 ·exact agg4_index3 b0 b1 b2 b3 W
 ·omega
set_option maxHeartbeats 1000000 in
set_option maxRecDepth 100000 in
theorem xz.calls (A0 : Option Addr) (c0 : Nat) (l0 : List Int) (r : List Int) (w : World) (hr0 : Kd.C (Kd.int .u8) w A0 l0.length l0) (hc0 : l0.length ≤ c0) (h : xz.f l0 = some r) :
  Calls Try.prog 77 #[.slice A0 l0.length c0] w fun e w' => ∃ v0_ : Value,e = .returned (v0_) ∧ Kd.R (Kd.int .u8) 5 w' w.heap.size (fun _ => True) v0_ r ∧ Below w.heap.size w w' := by
 have HR0 := qq.mk hr0
 have HC0 := qq.mk hc0
 clear hr0 hc0
 unfold xz.f at h
 by_cases hb : isBytes l0
 case neg => rw [if_neg hb] at h;cases h
 rw [if_pos hb] at h
 have HBY := qq.mk hb
 clear hb
 by_cases hbig : (l0.length : Int) > 20000
 ·rw [if_pos hbig] at h
  cases h
 ·rw [if_neg hbig] at h
  obtain rfl := Option.some.inj h
  clear h
  go_enter Try.func77,Try.ntmps77
  go_wp2
  have HI := qq.mk (DigInv.start w)
  generalize ((w.alloc (.cells #[.int .i64 11,.int .i64 22,.int .i64 33,.int .i64 44] 113)).alloc (.cells #[.int .i64 1103515245,.int .i64 69069,.int .i64 1664525,.int .i64 22695477] 113)) = w2 at HI ⊢
  go_loopw [21] (fun i wr => ∃ k : Nat,k ≤ l0.length ∧ i = .int .i64 k ∧ qq (DigInv w wr (dgAll [11,22,33,44] (l0.take k)))) (fun i _ => l0.length - (intOf i).toNat)
  case atStart => exact ⟨0,by omega,rfl,HI⟩
  case round =>
   clear HI
   obtain ⟨k,hk,rfl,HW⟩ := hrel
   by_cases hlt : k < l0.length
   ·obtain ⟨ad,rfl,hcell⟩ := Kd.at_int (Kd.C_below HR0.out HW.out.B) k (by omega) (by omega)
    have hby := HBY.out (rd l0 k) (rd_mem hlt)
    obtain ⟨x,ex⟩ : ∃ x,x = rd l0 k := ⟨_,rfl⟩
    rw [Int.toNat_natCast] at hcell
    rw [← ex] at hcell hby
    have EX := qq.mk ex
    clear ex
    go_wp2_with (go_at_call 117;refine (eat_inv HW.out x hby.1 hby.2).mono ?_;rintro e w' ⟨rfl,HN,_⟩;replace HN := qq.mk HN)
    go_roundw
    case rel => exact ⟨k + 1,by omega,by go_num,⟨by rw [take_snoc_rd hlt,← EX.out,dgAll_snoc];exact HN.out⟩⟩
    case measure => simp [intOf];omega
   ·obtain rfl : k = l0.length := by omega
    rw [List.take_length] at HW
    clear hlt hk
    have HX := HW
    go_wp2_with (go_at_call 79;refine (qqq.calls (l0.length : Int) (yb l0.length) _ rfl).mono ?_;rintro e w1 ⟨v1,rfl,HV,HB1⟩;obtain ⟨A1,c1,rfl⟩ := Kd.R_slice HV;replace HW := qq.mk (HW.out.keep (HB1.mono HW.out.lt));replace HV := qq.mk (Kd.R_lower HV (base' := w.heap.size + 2) (DigInv.lt HX.out));clear HB1)
    clear HX
    have HYB := qq.mk (yb_bytes l0.length)
    have hyl : (yb (l0.length : Int)).length = 4 := rfl
    replace hyl := qq.mk hyl
    go_loopw [33] (fun i wr => ∃ k : Nat,k ≤ (yb l0.length).length ∧ i = .int .i64 k ∧ qq (DigInv w wr (dgAll (dgAll [11,22,33,44] l0) ((yb l0.length).take k)) ∧ Kd.R (Kd.int .u8) 5 wr (w.heap.size + 2) (fun _ => True) (.slice A1 (yb (l0.length : Int)).length c1) (yb l0.length))) (fun i _ => (yb l0.length).length - (intOf i).toNat)
    case atStart => exact ⟨0,by omega,rfl,⟨HW.out,HV.out⟩⟩
    case round =>
     clear HW HV
     obtain ⟨k,hk,rfl,HW⟩ := hrel
     by_cases hlt : k < (yb l0.length).length
     ·obtain ⟨ad,rfl,hcell⟩ := R_at HW.out.2 k hlt
      have hby := HYB.out (rd (yb l0.length) k) (rd_mem hlt)
      obtain ⟨x,ex⟩ : ∃ x,x = rd (yb l0.length) k := ⟨_,rfl⟩
      rw [← ex] at hcell hby
      have EX := qq.mk ex
      clear ex
      have hyl5 : (yb (l0.length : Int)).length ≤ 4 := Nat.le_of_eq hyl.out
      go_wp2_with (go_at_call 117;refine (eat_inv HW.out.1 x hby.1 hby.2).mono ?_;rintro e w' ⟨rfl,HN,HO⟩;replace HN := qq.mk HN;replace HO := qq.mk (R_only HW.out.2 HO (by omega)))
      go_roundw
      case rel => exact ⟨k + 1,by omega,by go_num,⟨by rw [take_snoc_rd hlt,← EX.out,dgAll_snoc];exact HN.out,HO.out⟩⟩
      case measure => simp [intOf];omega
     ·obtain rfl : k = (yb l0.length).length := by omega
      rw [List.take_length] at HW
      clear hlt hk
      replace HW := qq.mk HW.out.1
      go_wp2
      go_loopw [41] (fun i wr => ∃ k : Nat,k ≤ 8 ∧ i = .int .i64 k ∧ qq (DigInv w wr (dgAll (dgAll (dgAll [11,22,33,44] l0) (yb l0.length)) (List.replicate k 0)))) (fun i _ => 8 - (intOf i).toNat)
      case atStart => exact ⟨0,by omega,rfl,⟨by rw [List.replicate_zero,dgAll_nil];exact HW.out⟩⟩
      case round =>
       clear HW
       obtain ⟨k,hk,rfl,HW⟩ := hrel
       by_cases hlt : k < 8
       ·go_wp2_with (go_at_call 117;refine (eat_inv HW.out 0 (by omega) (by omega)).mono ?_;rintro e w' ⟨rfl,HN,HO⟩;clear HO;replace HN := qq.mk HN)
        go_roundw
        case rel => exact ⟨k + 1,by omega,by go_num,⟨by rw [List.replicate_succ',dgAll_snoc];exact HN.out⟩⟩
        case measure => simp [intOf];omega
       ·obtain rfl : k = 8 := by omega
        rw [show ((8 : Nat) : Int) = 8 from rfl]
        clear hlt hk
        replace HW : qq (DigInv w wr (dgS l0)) := HW
        obtain ⟨b0,b1,b2,b3,eb⟩ : ∃ b0 b1 b2 b3,dgS l0 = [b0,b1,b2,b3] := by
         have := HW.out.len
         match dgS l0,this with
         | [b0,b1,b2,b3],_ => exact ⟨b0,b1,b2,b3,rfl⟩
        have hb0 : wr.cell? ⟨w.heap.size,0,none⟩ = some (.int .i64 b0) := by rw [qw HW.out.A,eb];rfl
        have hb1 : wr.cell? ⟨w.heap.size,1,none⟩ = some (.int .i64 b1) := by rw [qw HW.out.A,eb];rfl
        have hb2 : wr.cell? ⟨w.heap.size,2,none⟩ = some (.int .i64 b2) := by rw [qw HW.out.A,eb];rfl
        have hb3 : wr.cell? ⟨w.heap.size,3,none⟩ = some (.int .i64 b3) := by rw [qw HW.out.A,eb];rfl
        replace eb := qq.mk eb
        go_wp2
        replace HW := qq.mk HW.out.B
        clear hb0 hb1 hb2 hb3 hbig
        go_loopw [47,10] (fun i v W => ∃ (k : Nat) (ys : List Int),k ≤ 4 ∧ i = .int .i64 k ∧ qq (ys = ([b0,b1,b2,b3].take k).flatMap yb ∧ ys.length = 4 * k ∧ Kd.R (Kd.int .u8) 5 W w.heap.size (fun _ => True) v ys ∧ Below w.heap.size w W)) (fun i _ _ => 4 - (intOf i).toNat)
        case atStart => exact ⟨0,[],by omega,rfl,⟨rfl,by simp,Kd.R_nil _ _ _ _ _,HW.out⟩⟩
        case round =>
         clear HW
         obtain ⟨k,ys,hk,rfl,HW⟩ := hrel
         obtain ⟨A2,c2,rfl⟩ := Kd.R_slice HW.out.2.2.1
         by_cases hlt : k < 4
         ·have hi := agg4_index b0 b1 b2 b3 k hlt
          obtain ⟨q,eq⟩ : ∃ q,q = rd [b0,b1,b2,b3] k := ⟨_,rfl⟩
          rw [← eq] at hi
          replace eq := qq.mk eq
          obtain ⟨zs,ez⟩ : ∃ zs,zs = yb q := ⟨_,rfl⟩
          have hz : qq (qqq.f q = some zs ∧ zs.length = 4) := ⟨by rw [ez];rfl,by rw [ez];rfl⟩
          replace ez := qq.mk ez
          go_wp2_with (first | (go_at_call 79;refine (qqq.calls q zs _ hz.out.1).mono ?_;rintro e w1 ⟨v1,rfl,HV,HB1⟩;obtain ⟨A3,c3,rfl,hc3,hC3⟩ := Kd.R_reads HV;have HW2 := qq.mk (⟨Kd.R_below HW.out.2.2.1 HB1,zv HW.out.2.2.2 HB1⟩ : _ ∧ _);replace HV := qq.mk hC3;clear hC3 HB1) | ((with_reducible refine gate_builtin (b := .append) (xs := #[.tmp 50,.tmp 52]) rfl ?_);at_builtin;refine Kd.R_append_row (Value.int .u8) 0 (w0 := w) w.heap.size rfl (.tmp 50) (.tmp 52) 22 5 (.int .u8 0) 1 rfl Try.underlying22 info5 rfl (by decide) _ ys zs _ _ _ (fun _ => True) rfl rfl (fun _ _ => trivial) HW2.out.1 HV.out HW2.out.2 HW2.out.2.size ?aL ?_;(case aL => have h1 := HW.out.2.1;have h2 := hz.out.2;omega);intro v1 w3 hr hb hg hat;replace hr := qq.mk hr;replace hb := qq.mk hb;clear hg hat))
          go_roundw
          case rel => exact ⟨k + 1,ys ++ zs,by omega,by go_num,⟨by rw [take_snoc_rd (by simpa using hlt),← eq.out,List.flatMap_append,← HW.out.1,ez.out];simp,by have h1 := HW.out.2.1;have h2 := hz.out.2;rw [List.length_append];omega,hr.out,hb.out⟩⟩
          case measure => simp [intOf];omega
         ·obtain rfl : k = 4 := by omega
          go_wp2
          go_ret
          refine ⟨_,rfl,?_,HW.out.2.2.2⟩
          have e1 := HW.out.1
          rw [List.take_of_length_le (by simp)] at e1
          have e2 : ys = dg l0 := by rw [e1,dg,eb.out]
          rw [← e2]
          exact HW.out.2.2.1
open Go.RowKit Go.Proofs.YtipdkendfcopiaaW.PrintWords
def nilS.f (l : List Int) : Option Bool := some (decide (l.length = 0))
theorem nil_absurd {l : List Int} {P : Prop} (hp : 0 < l.length) : l.length = 0 → P := fun h => absurd h (Nat.ne_of_gt hp)
theorem nil_absurd' {l : List Int} {P : Prop} (hp : 0 < l.length) : l = [] → P := fun h => absurd (congrArg List.length h) (Nat.ne_of_gt hp)
theorem eqlnil (W : World) (A : Option Addr) (n c : Nat) : (binOp .eql 22 (.slice A n c) (.slice none 0 0)).run Try.prog W = .ok (.bool A.isNone) W := Lib.run_eql_slice_nil W 22 5 A n c 0 0 Try.underlying22
theorem nil_is {l : List Int} {A : Option Addr} {n c : Nat} (hn : l.length = 0 → Value.slice A n c = .slice none 0 0) (h : nilS.f l = some true) : A.isNone = true := by
 have := hn (of_decide_eq_true (Option.some.inj h))
 injection this with h1
 rw [h1]
 rfl
theorem nil_isnt {e : Nat} {w : World} {base : Nat} {ok : Nat → Prop} {l : List Int} {A : Option Addr} {n c : Nat} (ho : Kd.R (Kd.int .u8) e w base ok (.slice A n c) l) (h : nilS.f l = some false) : A.isNone = false := by
 obtain ⟨g,cp,h1,_⟩ := Kd.R_form ho (Nat.pos_of_ne_zero (of_decide_eq_false (Option.some.inj h)))
 injection h1 with h1
 rw [h1]
 rfl
theorem mixN_len (a : List Int) (x : Int) : ∀ n,(mixN a x n).length = a.length := fun n => mix_len a x n
theorem dgAll_length : ∀ (l a : List Int),(dgAll a l).length = a.length
 | [],a => rfl
 | x :: l,a => by
  show (dgAll (dgMix a x) l).length = _
  rw [dgAll_length l (dgMix a x)]
  exact mixN_len a x 4
theorem flatMap_yb_len : ∀ a : List Int,(a.flatMap yb).length = 4 * a.length
 | [] => rfl
 | x :: a => by
  rw [List.flatMap_cons,List.length_append,flatMap_yb_len a]
  simp only [yb,List.length_cons,List.length_nil]
  omega
theorem digest_pos {l r : List Int} (h : xz.f l = some r) : 0 < r.length := by
 unfold xz.f at h
 by_cases hb : isBytes l
 case neg => rw [if_neg hb] at h;cases h
 rw [if_pos hb] at h
 by_cases hl : (l.length : Int) > 20000
 ·rw [if_pos hl] at h;cases h
 ·rw [if_neg hl] at h
  obtain rfl := Option.some.inj h
  rw [dg,flatMap_yb_len,dgS,dgAll_length,dgAll_length,dgAll_length]
  simp
theorem grown_R (w : World) (n : Nat) (hn : n ≤ 140737488355328) (e : TypeId) :
  (Kd.int .u8).R e (w.drew.alloc (.cells (Builtin.zeroCells (Value.int .u8 0).cells n ++ Builtin.zeroCells (Value.int .u8 0).cells (grownCap w n 0 e - n)) e)) w.heap.size (fun _ => True) (.slice (some ⟨w.heap.size,0,none⟩) 0 (grownCap w n 0 e)) [] := by
 refine Kd.R_of_own (h1 := fun _ => rfl) (World.ownsRow_made w.drew _ _ (Nat.le_refl _) (grownCap_le_maxLen w n 0 e (by unfold maxLen;omega)) ?_) (fun _ _ => trivial)
 have := grownCap_ge w n 0 e
 simp [Builtin.zeroCells,Value.cells]
 omega
set_option maxHeartbeats 1000000 in
set_option maxRecDepth 100000 in
theorem grow_calls (n : Nat) (hn : n ≤ 140737488355328) (w : World) :
  Calls Try.prog 118 #[.slice none 0 0,.int .i64 (n : Int)] w fun e w' => ∃ (A : Option Addr) (c : Nat),e = .returned (.slice A 0 c) ∧ Kd.R (Kd.int .u8) 5 w' w.heap.size (fun _ => True) (.slice A 0 c) [] ∧ Below w.heap.size w w' := by
 by_cases hz : n = 0
 ·subst hz
  go_enter Try.func118,Try.ntmps118
  go_wp2
  go_ret
  exact ⟨none,0,rfl,Kd.R_nil _ _ _ _ _,Below.refl _ _⟩
 ·have e1 : IntKind.i64.wrap (n : Int) = n := IntWalk.i64_in _ (by omega)
  have h0 : 0 < n := by omega
  have hr := Lib.run_append_nil_zeros (P := Try.prog) w 22 3 22 5 _ (.int .u8 0) .i64 .i64 Try.underlying22 Try.underlying3 (show Try.prog.info? 5 = some Try.t5 by kernel_rfl) rfl n h0 (by decide) (by omega) (by rw [show Try.t5.bytes = 1 from rfl];omega)
  have HR := qq.mk hr
  clear hr
  have hc : grownCap w n 0 5 ≤ maxLen := grownCap_le_maxLen w n 0 5 (by unfold maxLen;omega)
  have hl : n ≤ grownCap w n 0 5 := grownCap_ge w n 0 5
  have HQ := qq.mk (grown_R w n hn 5)
  generalize grownCap w n 0 5 = c at HR HQ hc hl
  have HB : qq (Below w.heap.size w (w.drew.alloc (.cells (Builtin.zeroCells (Value.int .u8 0).cells n ++ Builtin.zeroCells (Value.int .u8 0).cells (c - n)) 5))) := ⟨qj (below_drew (Below.refl _ _)) _⟩
  generalize (w.drew.alloc (.cells (Builtin.zeroCells (Value.int .u8 0).cells n ++ Builtin.zeroCells (Value.int .u8 0).cells (c - n)) 5)) = w2 at HR HQ HB
  go_enter Try.func118,Try.ntmps118
  go_wp2_with ((with_reducible refine gate_builtin (b := .append) (xs := #[.tmp 20,.tmp 21]) rfl ?_);at_builtin;refine Lib.wpList_append_run _ rfl (.tmp 20) (.tmp 21) 22 3 rfl _ _ rfl rfl _ _ HR.out ?_)
  go_ret
  exact ⟨_,_,rfl,HQ.out,HB.out⟩
def qkq.f (l0 : List (List Int)) : Option (List Int) := if l0.flatten.length ≤ 140737488355328 then some l0.flatten else none
theorem take_rd_L2 {l : List (List Int)} {k : Nat} (h : k < l.length) : (l.take (k + 1)).flatten = (l.take k).flatten ++ rd_L2 l k := by
 rw [List.take_succ_eq_append_getElem h,List.flatten_append];simp [rd_L2,List.getD_eq_getElem?_getD,List.getElem?_eq_getElem h]
theorem take_flat_le (l : List (List Int)) (k : Nat) : (l.take k).flatten.length ≤ l.flatten.length := by
 conv => rhs;rw [← List.take_append_drop k l]
 rw [List.flatten_append,List.length_append]
 omega
set_option maxHeartbeats 1000000 in
set_option maxRecDepth 100000 in
theorem qkq.calls (A0 : Option Addr) (c0 : Nat) (l0 : List (List Int)) (r : List Int) (w : World) (hr0 : Kd.C (Kd.slice 5 (Kd.int .u8)) w A0 l0.length l0) (hc0 : l0.length ≤ c0) (h : qkq.f l0 = some r) :
  Calls Try.prog 78 #[.slice A0 l0.length c0] w fun e w' => ∃ v0_ : Value,e = .returned (v0_) ∧ Kd.R (Kd.int .u8) 5 w' w.heap.size (fun _ => True) v0_ r ∧ Below w.heap.size w w' := by
 unfold qkq.f at h
 by_cases hs : l0.flatten.length ≤ 140737488355328
 case neg => rw [if_neg hs] at h;cases h
 rw [if_pos hs] at h
 obtain rfl := Option.some.inj h
 clear h
 have hmax := Kd.C_max hr0
 have HR0 := qq.mk hr0
 have HC0 := qq.mk hc0
 have HS := qq.mk hs
 have HM := qq.mk hmax
 clear hr0 hc0 hs hmax
 go_enter Try.func78,Try.ntmps78
 go_wp2
 go_loopw [3,11] (fun v3 i W => ∃ k s : Nat,k ≤ l0.length ∧ i = .int .i64 k ∧ v3 = .int .i64 s ∧ qq (s = (l0.take k).flatten.length ∧ Below w.heap.size w W)) (fun _ i _ => l0.length - (intOf i).toNat)
 case atStart => exact ⟨0,0,by omega,rfl,rfl,⟨rfl,Below.refl _ _⟩⟩
 case round =>
  obtain ⟨k,s,hk,rfl,rfl,HW⟩ := hrel
  have hmax := HM.out
  have hsb : s ≤ 140737488355328 := by have h1 := HW.out.1;have h2 := take_flat_le l0 k;have h3 := HS.out;omega
  by_cases hlt : k < l0.length
  ·obtain ⟨ad,A1,c1,rfl,hcell,hl1,hC1⟩ := at_L2 HR0.out k (by omega) (by omega)
   replace hcell := (HW.out.2.cell (World.block_lt_of_cell? w _ hcell)).trans hcell
   rw [Int.toNat_natCast] at hcell
   obtain ⟨ys,ey⟩ : ∃ ys,ys = rd_L2 l0 k := ⟨_,rfl⟩
   rw [← ey] at hcell
   obtain ⟨n,en⟩ : ∃ n,n = ys.length := ⟨_,rfl⟩
   rw [← en] at hcell
   have hsn : s + n ≤ 140737488355328 := by
    have h1 := HW.out.1;have h2 := take_flat_le l0 (k + 1);have h3 := HS.out
    rw [take_rd_L2 hlt,List.length_append,← ey,← h1,← en] at h2
    omega
   have EY : qq (ys = rd_L2 l0 k ∧ n = ys.length) := ⟨ey,en⟩
   clear ey en
   go_wp2
   go_roundw
   case rel => exact ⟨k + 1,s + n,by omega,by go_num,by go_num,⟨by rw [take_rd_L2 hlt,List.length_append,← HW.out.1,← EY.out.1,← EY.out.2],by repeat (first | exact HW.out.2 | apply below_drew)⟩⟩
   case measure => simp [intOf];omega
  ·obtain rfl : k = l0.length := by omega
   rw [List.take_length] at HW
   clear hlt hk
   go_wp2_with (go_at_call 118;refine (grow_calls s hsb _).mono ?_;rintro e w1 ⟨A1,c1,rfl,HV,HB1⟩;replace HV := qq.mk (Kd.R_lower HV (base' := w.heap.size) HW.out.2.size);replace HB1 := qq.mk (zv HW.out.2 HB1))
   clear HW
   go_loopw [6,27] (fun v i W => ∃ (k : Nat) (ys : List Int),k ≤ l0.length ∧ i = .int .i64 k ∧ qq (ys = (l0.take k).flatten ∧ Kd.R (Kd.int .u8) 5 W w.heap.size (fun _ => True) v ys ∧ Below w.heap.size w W)) (fun _ i _ => l0.length - (intOf i).toNat)
   case atStart => exact ⟨0,[],by omega,rfl,⟨rfl,HV.out,HB1.out⟩⟩
   case round =>
    clear HV HB1
    obtain ⟨k,ys,hk,rfl,HW⟩ := hrel
    obtain ⟨A2,c2,rfl⟩ := Kd.R_slice HW.out.2.1
    have hmax := HM.out
    by_cases hlt : k < l0.length
    ·obtain ⟨ad,A3,c3,rfl,hcell,hl3,hC3⟩ := at_L2 HR0.out k (by omega) (by omega)
     replace hcell := (HW.out.2.2.cell (World.block_lt_of_cell? w _ hcell)).trans hcell
     rw [Int.toNat_natCast] at hcell
     obtain ⟨zs,ez⟩ : ∃ zs,zs = rd_L2 l0 k := ⟨_,rfl⟩
     rw [← ez] at hcell hC3
     replace hC3 := qq.mk hC3
     replace ez := qq.mk ez
     go_wp2_with ((with_reducible refine gate_builtin (b := .append) (xs := #[.tmp 31,.tmp 32]) rfl ?_);at_builtin;refine Kd.R_append_row (Value.int .u8) 0 (w0 := w) w.heap.size rfl (.tmp 31) (.tmp 32) 22 5 (.int .u8 0) 1 rfl Try.underlying22 info5 rfl (by decide) _ ys zs _ _ _ (fun _ => True) rfl rfl (fun _ _ => trivial) (by repeat (first | exact HW.out.2.1 | apply Kd.jz)) (by repeat (first | exact (Kd.C_below hC3.out HW.out.2.2) | apply Kd.C_drew)) (by repeat (first | exact HW.out.2.2 | apply below_drew)) HW.out.2.2.size ?aL ?_;(case aL => have h1 := HW.out.1;have h2 := take_flat_le l0 (k + 1);have h3 := HS.out;rw [take_rd_L2 hlt,List.length_append,← ez.out,← h1] at h2;omega);intro v1 w3 hr hb hg hat;replace hr := qq.mk hr;replace hb := qq.mk hb;clear hg hat)
     go_roundw
     case rel => exact ⟨k + 1,ys ++ zs,by omega,by go_num,⟨by rw [take_rd_L2 hlt,← HW.out.1,← ez.out],by repeat (first | exact hr.out | apply Kd.jz),by repeat (first | exact hb.out | apply below_drew)⟩⟩
     case measure => simp [intOf];omega
    ·obtain rfl : k = l0.length := by omega
     rw [List.take_length] at HW
     clear hlt hk
     go_wp2
     go_ret
     refine ⟨_,rfl,?_,HW.out.2.2⟩
     rw [← HW.out.1]
     exact HW.out.2.1
def wk.f (l0 : List Int) : Option (List Int) := if l0.length ≤ 140737488355328 then some l0 else none
set_option maxHeartbeats 1000000 in
set_option maxRecDepth 100000 in
theorem wk.calls (A0 : Option Addr) (c0 : Nat) (l0 : List Int) (r : List Int) (w : World) (hr0 : Kd.C (Kd.int .u8) w A0 l0.length l0) (hc0 : l0.length ≤ c0) (h : wk.f l0 = some r) :
  Calls Try.prog 74 #[.slice A0 l0.length c0] w fun e w' => ∃ v0_ : Value,e = .returned (v0_) ∧ Kd.R (Kd.int .u8) 5 w' w.heap.size (fun _ => True) v0_ r ∧ Below w.heap.size w w' := by
 unfold wk.f at h
 by_cases hs : l0.length ≤ 140737488355328
 case neg => rw [if_neg hs] at h;cases h
 rw [if_pos hs] at h
 obtain rfl := Option.some.inj h
 clear h
 have HR0 := qq.mk hr0
 have HC0 := qq.mk hc0
 have HS := qq.mk hs
 clear hr0 hc0 hs
 cases A0 with
 | none =>
  have h0 : l0.length = 0 := by
   rcases Nat.eq_zero_or_pos l0.length with h0 | h0
   ·exact h0
   ·obtain ⟨ad,h,_⟩ := HR0.out.2.2 h0
    cases h
  obtain rfl := List.eq_nil_of_length_eq_zero h0
  have qe := fun (W : World) => Lib.run_eql_slice_nil (P := Try.prog) W 22 5 none 0 c0 0 0 Try.underlying22
  simp only [List.length_nil]
  go_enter Try.func74,Try.ntmps74
  go_wp2
  go_ret
  exact ⟨_,rfl,Kd.R_nil _ _ _ _ _,Below.refl _ _⟩
 | some ad =>
  have qe := fun (W : World) => Lib.run_eql_slice_nil (P := Try.prog) W 22 5 (some ad) l0.length c0 0 0 Try.underlying22
  have HO : qq ((Kd.int .u8).R 5 (w.alloc (.cells #[] 5)) w.heap.size (fun _ => True) (.slice (some ⟨w.heap.size,0,none⟩) 0 0) []) := ⟨Kd.R_of_own (h1 := fun _ => rfl) (own_lit w w.heap.size 5 .u8 [] (Nat.le_refl _) (by simp)) (fun _ _ => trivial)⟩
  have HB : qq (Below w.heap.size w (w.alloc (.cells #[] 5))) := ⟨qj (Below.refl _ _) _⟩
  go_enter Try.func74,Try.ntmps74
  go_wp2_with ((with_reducible refine gate_builtin (b := .append) (xs := #[.tmp 5,.tmp 6]) rfl ?_);at_builtin;refine Kd.R_append_row (Value.int .u8) 0 (w0 := w) w.heap.size rfl (.tmp 5) (.tmp 6) 22 5 (.int .u8 0) 1 rfl Try.underlying22 info5 rfl (by decide) _ [] l0 _ _ _ (fun _ => True) rfl rfl (fun _ _ => trivial) HO.out (Kd.C_below HR0.out HB.out) HB.out HB.out.size ?aL ?_;(case aL => have := HS.out;simp;omega);intro v1 w3 hr hb hg hat;replace hr := qq.mk hr;replace hb := qq.mk hb;clear hg hat)
  go_ret
  have h := hr.out
  rw [List.nil_append] at h
  exact ⟨_,rfl,h,hb.out⟩
def xv.j0 : Nat → List Int → List Int → Bool → Option (List Int)
 | 0,_,_,_ => none
 | k + 1,x0,x1,x12 => if x12 = true then (some ([] : List Int)) else ((xz.f x0).bind fun t101 => ((xz.f x1).bind fun t104 => (if t101.length + t104.length < 140737488355328 then ((xz.f (t101 ++ t104)).bind fun t110 => (some t110)) else (none))))
def xv.f (k : Nat) (l0 : List Int) (l1 : List Int) : Option (List Int) := if (l0.length : Int) > 20000 then (xv.j0 k l0 l1 true) else (xv.j0 k l0 l1 (decide ((l1.length : Int) > 20000)))
set_option maxHeartbeats 8000000 in
set_option maxRecDepth 100000 in
theorem xv.calls (k : Nat) (A0 : Option Addr) (c0 : Nat) (l0 : List Int) (A1 : Option Addr) (c1 : Nat) (l1 : List Int) (r : List Int) (w : World) (hr0 : Kd.C (Kd.int .u8) w A0 l0.length l0) (hc0 : l0.length ≤ c0) (hr1 : Kd.C (Kd.int .u8) w A1 l1.length l1) (hc1 : l1.length ≤ c1) (h : xv.f k l0 l1 = some r) :
  Calls Try.prog 75 #[.slice A0 l0.length c0,.slice A1 l1.length c1] w fun e w' => ∃ v0_ : Value,e = .returned (v0_) ∧ Kd.R (Kd.int .u8) 5 w' w.heap.size (fun _ => True) v0_ r ∧ Below w.heap.size w w' := by
 have HR0 := qq.mk hr0
 have HC0 := qq.mk hc0
 clear hr0 hc0
 have HR1 := qq.mk hr1
 have HC1 := qq.mk hc1
 clear hr1 hc1
 have HB := qq.mk (Below.refl w.heap.size w)
 have H : (if (l0.length : Int) > 20000 then (xv.j0 k l0 l1 true) else (xv.j0 k l0 l1 (decide ((l1.length : Int) > 20000)))) = some r := h
 clear h
 have HC3 := qq.mk H
 clear H
 go_enter Try.func75,Try.ntmps75
 go_upto_region 1 with (fail)
 go_cut [12] (fun v12 wc => ∃ (kq : Nat) (x12_2 : Bool),v12 = .bool x12_2 ∧ qq (xv.j0 kq l0 l1 x12_2 = some r) ∧ qq (kq ≤ k) ∧ qq (Below w.heap.size w wc))
 case first =>
  have H := HC3.out
  clear HC3
  by_cases c4 : (l0.length : Int) > 20000
  ·rw [if_pos c4] at H
   have c4b0 : decide (20000 < (l0.length : Int)) = true := decide_eq_true c4
   have c4b1 : decide (20000 < l0.length) = true := decide_eq_true (by omega)
   clear c4
   (first | rw [c4b0] | (simp only [i64_w,i32_w];rw [c4b0]) | skip)
   have H' := qq.mk H
   clear H
   go_wp2
   go_meet
   case rel => exact ⟨_,(true),(by first | rfl | (simp;done) | (simp [*];done)),H',⟨by first | omega | exact Nat.le_refl _⟩,⟨by repeat (first | (with_reducible first | exact HB.out | apply qj | apply qz | apply qk) | exact HB.out)⟩⟩
  ·rw [if_neg c4] at H
   have c4b0 : decide (20000 < (l0.length : Int)) = false := decide_eq_false c4
   have c4b1 : decide (20000 < l0.length) = false := decide_eq_false (by omega)
   clear c4
   (first | rw [c4b0] | (simp only [i64_w,i32_w];rw [c4b0]) | skip)
   have H' := qq.mk H
   clear H
   go_wp2
   go_meet
   case rel => exact ⟨_,(decide ((l1.length : Int) > 20000)),(by first | rfl | (simp;done) | (simp [*];done)),H',⟨by first | omega | exact Nat.le_refl _⟩,⟨by repeat (first | (with_reducible first | exact HB.out | apply qj | apply qz | apply qk) | exact HB.out)⟩⟩
 case rest =>
  clear HC3
  try clear c1
  try clear p2
  try clear c4
  try clear c4b0
  try clear c4b1
  obtain ⟨kq,x12_2,rfl,HA,HJ2,HB⟩ := hcut
  cases kq with
  | zero => exact absurd HA.out (by simp [xv.j0])
  | succ kj2 =>
   have H := HA.out
   clear HA
   simp only [xv.j0] at H
   by_cases c5 : x12_2 = true
   ·subst c5
    have H1 : (some ([] : List Int)) = some r := by rw [if_pos rfl] at H;exact H
    clear H
    have H := H1
    clear H1
    obtain rfl := Option.some.inj H
    go_wp2
    go_ret
    exact ⟨_,by first | rfl | (simp [*,jk,jj] <;> rfl),by first | exact Kd.R_nil _ _ _ _ _ | exact Kd.N_nil _ _ _ _ _ | exact Kd.V_nil _ _ _ _ _ | exact Kd.Q_nil _ _ _ _ _ | exact Kd.S_nil _ _ _ _ _,by repeat (first | (with_reducible first | exact HB.out | apply qj | apply qz | apply qk) | exact HB.out)⟩
   ·replace c5 := Bool.eq_false_iff.mpr c5
    subst c5
    have H1 : ((xz.f l0).bind fun t101 => ((xz.f l1).bind fun t104 => (if t101.length + t104.length < 140737488355328 then ((xz.f (t101 ++ t104)).bind fun t110 => (some t110)) else (none)))) = some r := by rw [if_neg (show ¬ (false = true) by decide)] at H;exact H
    clear H
    have H := H1
    clear H1
    replace H := Option.bind_eq_some_iff.mp H
    obtain ⟨t101,A60,H⟩ := H
    replace H : ((xz.f l1).bind fun t104 => (if t101.length + t104.length < 140737488355328 then ((xz.f (t101 ++ t104)).bind fun t110 => (some t110)) else (none))) = some r := H
    have A6 := qq.mk A60
    clear A60
    replace H := Option.bind_eq_some_iff.mp H
    obtain ⟨t104,A70,H⟩ := H
    replace H : (if t101.length + t104.length < 140737488355328 then ((xz.f (t101 ++ t104)).bind fun t110 => (some t110)) else (none)) = some r := H
    have A7 := qq.mk A70
    clear A70
    by_cases c8 : t101.length + t104.length < 140737488355328
    ·rw [if_pos c8] at H
     have LMc8 := qq.mk c8
     clear c8
     obtain ⟨y107,hy107⟩ : ∃ y_ : List Int,y_ = (t101 ++ t104) := ⟨_,rfl⟩
     replace H : ((xz.f y107).bind fun t110 => (some t110)) = some r := by first | (rw [hy107];with_reducible exact H) | (have H2_ := (Option.bind_some _ _).symm.trans H;rw [hy107];with_reducible exact H2_) | (have H2_ := (Option.bind_some _ _).symm.trans H;with_reducible exact H2_) | with_reducible exact H | (rw [hy107];exact H) | exact H
     have Ny107 := qq.mk hy107
     clear hy107
     replace H := Option.bind_eq_some_iff.mp H
     obtain ⟨t110,A90,H⟩ := H
     replace H : (some t110) = some r := H
     have A9 := qq.mk A90
     clear A90
     obtain rfl := Option.some.inj H
     go_wp2_with (first | ((with_reducible refine jv (f := 77) rfl ?_);refine goesL_ (some 14) rfl rfl Try.func77 (by kernel_rfl) rfl #[.slice A0 l0.length c0] rfl (by (try simp only [List.map_toArray,List.map_cons,List.map_nil]);first | done | rfl | (simp only [List.length_drop,List.length_take];rfl)) ?_;(with_reducible refine (xz.calls _ _ l0 t101 _ ?side1 ?side2 A6.out).mono ?_);(case side1 => repeat (first | exact (Kd.C_below HR0.out HB.out) | (with_reducible refine Kd.C_alloc ?_ _) | (with_reducible refine Kd.C_drewN ?_ _) | (with_reducible refine Kd.C_drew ?_)));(case side2 => exact HC0.out);rintro e w10 ⟨v102,rfl,ho0,hb⟩;refine ⟨_,rfl,?_⟩;have n0_ := qq.mk (Kd.R_lower ho0 (zw (by repeat (first | (with_reducible first | exact HB.out | apply qj | apply qz | apply qk) | exact HB.out))));have n1_ := qq.mk (zv (by repeat (first | (with_reducible first | exact HB.out | apply qj | apply qz | apply qk) | exact HB.out)) hb);clear HB;have HO103 := n0_;have HB := n1_;clear n0_ n1_;(try clear hb);(try clear hb2);(try clear hk);(try clear hi);(try clear ho0)) | ((with_reducible refine jv (f := 77) rfl ?_);refine goesL_ (some 16) rfl rfl Try.func77 (by kernel_rfl) rfl #[.slice A1 l1.length c1] rfl (by (try simp only [List.map_toArray,List.map_cons,List.map_nil]);first | done | rfl | (simp only [List.length_drop,List.length_take];rfl)) ?_;(with_reducible refine (xz.calls _ _ l1 t104 _ ?side1 ?side2 A7.out).mono ?_);(case side1 => repeat (first | exact (Kd.C_below HR1.out HB.out) | (with_reducible refine Kd.C_alloc ?_ _) | (with_reducible refine Kd.C_drewN ?_ _) | (with_reducible refine Kd.C_drew ?_)));(case side2 => exact HC1.out);rintro e w11 ⟨v105,rfl,ho0,hb⟩;refine ⟨_,rfl,?_⟩;have n0_ := qq.mk (Kd.R_elder' (by (with_reducible repeat (first | apply Kd.jq | apply Kd.zx | apply Kd.jz));exact HO103.out) (Kd.R_base ho0) hb);have n1_ := qq.mk (Kd.R_lower (Kd.R_new' ho0 (Kd.R_lt (by (with_reducible repeat (first | apply Kd.jq | apply Kd.zx | apply Kd.jz));exact HO103.out))) (zw (by repeat (first | (with_reducible first | exact HB.out | apply qj | apply qz | apply qk) | exact HB.out))));have n2_ := qq.mk (zv (by repeat (first | (with_reducible first | exact HB.out | apply qj | apply qz | apply qk) | exact HB.out)) hb);clear HO103;clear HB;have HO103 := n0_;have HO106 := n1_;have HB := n2_;clear n0_ n1_ n2_;(try clear hb);(try clear hb2);(try clear hk);(try clear hi);(try clear ho0);obtain ⟨Ao13,co13,eo13⟩ := Kd.R_slice HO106.out;subst eo13) | ((with_reducible refine gate_builtin (b := .append) (xs := #[.tmp 14,.tmp 16]) rfl ?_);(try (refine gate_guard (by rfl) ?_;dsimp only));at_builtin;refine Kd.R_append_rows (Kd.int .u8) (w0 := w) w.heap.size rfl (.tmp 14) (.tmp 16) 22 5 (.int .u8 0) 1 rfl Try.underlying22 info5 rfl (by decide) (by omega) v102 t101 t104 _ _ _ (fun k_ => some k_ ≠ (.slice Ao13 t104.length co13 : Value).ownBlock) (fun _ => False) rfl rfl ?aO ?aR (fun _ _ h => h) (fun _ h => h.elim) ?aF ?aB ?aS ?aL ?_;(case aR => repeat (first | exact (Kd.R_reads' HO106.out).2.2 | (with_reducible refine Kd.C_alloc ?_ _) | (with_reducible refine Kd.C_drewN ?_ _) | (with_reducible refine Kd.C_drew ?_)));(case aB => exact (by repeat (first | (with_reducible first | exact HB.out | apply qj | apply qz | apply qk) | exact HB.out)));(case aF => exact (fun k_ hk => Kd.fresh' (Kd.R_lt (by (with_reducible repeat (first | apply Kd.jq | apply Kd.zx | apply Kd.jz));exact HO106.out)) k_ hk));(case aO => exact (by (with_reducible repeat (first | apply Kd.jq | apply Kd.zx | apply Kd.jz));exact Kd.R_mono HO103.out (fun _ hk => hk.2)));(case aS => exact (zw (by repeat (first | (with_reducible first | exact HB.out | apply qj | apply qz | apply qk) | exact HB.out))));(case aL => have := LMc8.out;omega);intro v108 w12 ho hb hg hat;rw [← Ny107.out] at ho;have n0_ := qq.mk (Kd.R_after (ok := (fun _ => True)) (by (with_reducible repeat (first | apply Kd.jq | apply Kd.zx | apply Kd.jz));exact HO106.out) hg hat);have n1_ := qq.mk (hb);have n2_ := qq.mk (ho);clear HO106;clear HB;clear HO103;have HO106 := n0_;have HB := n1_;have HO109 := n2_;clear n0_ n1_ n2_;clear ho hb hg hat;obtain ⟨Ao14,co14,eo14⟩ := Kd.R_slice HO109.out;subst eo14) | ((with_reducible refine jv (f := 77) rfl ?_);refine goesL_ (some 18) rfl rfl Try.func77 (by kernel_rfl) rfl #[.slice Ao14 y107.length co14] rfl (by (try simp only [List.map_toArray,List.map_cons,List.map_nil]);first | done | rfl | (simp only [List.length_drop,List.length_take];rfl)) ?_;(with_reducible refine (xz.calls _ _ y107 t110 _ ?side1 ?side2 A9.out).mono ?_);(case side1 => repeat (first | exact (Kd.R_reads' HO109.out).2.2 | (with_reducible refine Kd.C_alloc ?_ _) | (with_reducible refine Kd.C_drewN ?_ _) | (with_reducible refine Kd.C_drew ?_)));(case side2 => exact (Kd.R_reads' HO109.out).2.1);rintro e w15 ⟨v111,rfl,ho0,hb⟩;refine ⟨_,rfl,?_⟩;have n0_ := qq.mk (Kd.R_elder' (by (with_reducible repeat (first | apply Kd.jq | apply Kd.zx | apply Kd.jz));exact HO106.out) (Kd.R_base ho0) hb);have n1_ := qq.mk (Kd.R_elder' (by (with_reducible repeat (first | apply Kd.jq | apply Kd.zx | apply Kd.jz));exact HO109.out) (Kd.R_base ho0) hb);have n2_ := qq.mk (Kd.R_lower (Kd.R_new' (Kd.R_new' ho0 (Kd.R_lt (by (with_reducible repeat (first | apply Kd.jq | apply Kd.zx | apply Kd.jz));exact HO106.out))) (Kd.R_lt (by (with_reducible repeat (first | apply Kd.jq | apply Kd.zx | apply Kd.jz));exact HO109.out))) (zw (by repeat (first | (with_reducible first | exact HB.out | apply qj | apply qz | apply qk) | exact HB.out))));have n3_ := qq.mk (zv (by repeat (first | (with_reducible first | exact HB.out | apply qj | apply qz | apply qk) | exact HB.out)) hb);clear HO106;clear HO109;clear HB;have HO106 := n0_;have HO109 := n1_;have HO112 := n2_;have HB := n3_;clear n0_ n1_ n2_ n3_;(try clear hb);(try clear hb2);(try clear hk);(try clear hi);(try clear ho0)))
     go_ret
     exact ⟨_,by first | rfl | (simp [*,jk,jj] <;> rfl),by (with_reducible repeat (first | apply Kd.jq | apply Kd.zx | apply Kd.jz));exact Kd.R_mono HO112.out (fun _ hk => trivial),by repeat (first | (with_reducible first | exact HB.out | apply qj | apply qz | apply qk) | exact HB.out)⟩
    ·rw [if_neg c8] at H
     exact absurd H (by simp)
mutual
def qqk.j0 : Nat → ByteArray → Bool → Option (Bool)
 | 0,_,_ => none
 | k + 1,x0,x17 => if x17 = true then (some false) else (qqk.l0 k x0 (x0.size : Int) 0)
def qqk.l0 : Nat → ByteArray → Int → Int → Option (Bool)
 | 0,_,_,_ => none
 | k + 1,x0,x19,x20 => if x20 < x19 then (if 0 ≤ x20 then (if x20 < (x0.size : Int) then (if (bt x0 x20) < 32 then (some false) else (if (bt x0 x20) > 126 then (some false) else (qqk.l0 k x0 x19 (wrap64 (x20 + 1))))) else (none)) else (none)) else (some true)
end
def qqk.f (k : Nat) (a0 : ByteArray) (a1 : Int) (a2 : Int) : Option (Bool) := if (a0.size : Int) < a1 then (qqk.j0 k a0 true) else (qqk.j0 k a0 (decide ((a0.size : Int) > a2)))
set_option maxHeartbeats 8000000 in
set_option maxRecDepth 100000 in
theorem qqk.calls (k : Nat) (a0 : ByteArray) (a1 : Int) (a2 : Int) (r : Bool) (w : World) (h : qqk.f k a0 a1 a2 = some r) :
  Calls Try.prog 72 #[.string a0,.int .i64 a1,.int .i64 a2] w fun e w' => e = .returned (.bool r) ∧ Drawn0 w w' := by
 have H : (if (a0.size : Int) < a1 then (qqk.j0 k a0 true) else (qqk.j0 k a0 (decide ((a0.size : Int) > a2)))) = some r := h
 clear h
 have HC4 := qq.mk H
 clear H
 go_enter Try.func72,Try.ntmps72
 go_upto_region 1 with (fail)
 go_cut [17] (fun v17 wc => ∃ (kq : Nat) (x17_3 : Bool),v17 = .bool x17_3 ∧ qq (qqk.j0 kq a0 x17_3 = some r) ∧ qq (kq ≤ k) ∧ Drawn0 w wc)
 case first =>
  have H := HC4.out
  clear HC4
  by_cases c5 : (a0.size : Int) < a1
  ·rw [if_pos c5] at H
   have c5b0 : decide ((a0.size : Int) < a1) = true := decide_eq_true c5
   clear c5
   (first | rw [c5b0] | (simp only [i64_w,i32_w];rw [c5b0]) | skip)
   have H' := qq.mk H
   clear H
   go_wp2
   go_meet
   case rel => exact ⟨_,(true),(by first | rfl | (simp;done) | (simp [*];done)),H',⟨by first | omega | exact Nat.le_refl _⟩,by repeat (first | exact Drawn0.refl _ | apply Drawn0.step)⟩
  ·rw [if_neg c5] at H
   have c5b0 : decide ((a0.size : Int) < a1) = false := decide_eq_false c5
   clear c5
   (first | rw [c5b0] | (simp only [i64_w,i32_w];rw [c5b0]) | skip)
   have H' := qq.mk H
   clear H
   go_wp2
   go_meet
   case rel => exact ⟨_,(decide ((a0.size : Int) > a2)),(by first | rfl | (simp;done) | (simp [*];done)),H',⟨by first | omega | exact Nat.le_refl _⟩,by repeat (first | exact Drawn0.refl _ | apply Drawn0.step)⟩
 case rest =>
  clear HC4
  try clear p2
  try clear c5
  try clear c5b0
  obtain ⟨kq,x17_3,rfl,HA,HJ3,⟨mc3,rfl⟩⟩ := hcut
  cases kq with
  | zero => exact absurd HA.out (by simp [qqk.j0])
  | succ kj3 =>
   have H := HA.out
   clear HA
   simp only [qqk.j0] at H
   by_cases c6 : x17_3 = true
   ·subst c6
    have H1 : (some false) = some r := by rw [if_pos rfl] at H;exact H
    clear H
    have H := H1
    clear H1
    obtain rfl := Option.some.inj H
    go_wp2
    go_ret
    exact ⟨by first | rfl | (simp;done) | (simp [*];done),by repeat (first | exact Drawn0.refl _ | apply Drawn0.step)⟩
   ·replace c6 := Bool.eq_false_iff.mpr c6
    subst c6
    have H1 : (qqk.l0 kj3 a0 (a0.size : Int) 0) = some r := by rw [if_neg (show ¬ (false = true) by decide)] at H;exact H
    clear H
    have H := H1
    clear H1
    have H' := qq.mk H
    clear H
    go_wp2
    go_loopg [20] kj3 (fun kq v20 w' => ∃ (x20_2 : Int),v20 = .int .i64 x20_2 ∧ qq (qqk.l0 kq a0 (a0.size : Int) x20_2 = some r) ∧ qq (kq ≤ kj3) ∧ Drawn0 w w')
    case atStart => exact ⟨(0),(by first | rfl | (simp;done) | (simp [*];done)),H',⟨Nat.le_refl _⟩,by repeat (first | exact Drawn0.refl _ | apply Drawn0.step)⟩
    case round =>
     clear H'
     try clear p2
     try clear c3
     try clear c5
     try clear c5b0
     try clear c6
     try clear p2
     obtain ⟨x20_2,rfl,HA,HK2,⟨m2,rfl⟩⟩ := hrel
     cases gk with
     | zero => exact absurd HA.out (by simp [qqk.l0])
     | succ k2 =>
      have H := HA.out
      clear HA
      simp only [qqk.l0] at H
      by_cases c7 : x20_2 < (a0.size : Int)
      ·rw [if_pos c7] at H
       have c7b0 : decide (x20_2 < (a0.size : Int)) = true := decide_eq_true c7
       clear c7
       by_cases c8 : 0 ≤ x20_2
       ·rw [if_pos c8] at H
        have c8b0 : decide (0 ≤ x20_2) = true := decide_eq_true c8
        clear c8
        by_cases c9 : x20_2 < (a0.size : Int)
        ·rw [if_pos c9] at H
         have c9b0 : decide (x20_2 < (a0.size : Int)) = true := decide_eq_true c9
         clear c9
         by_cases c11 : (bt a0 x20_2) < 32
         ·rw [if_pos c11] at H
          have c11b0 : decide ((bt a0 x20_2) < 32) = true := decide_eq_true c11
          clear c11
          obtain rfl := Option.some.inj H
          have p10 : 0 ≤ (x20_2 : Int) := of_decide_eq_true (by assumption)
          have q10 : x20_2 < (a0.size : Int) := of_decide_eq_true (by assumption)
          have hx10 := bt_at a0 x20_2
          replace p10 := eq_true p10
          replace q10 := eq_true q10
          go_wp2
          go_ret
          exact ⟨by first | rfl | (simp;done) | (simp [*];done),by repeat (first | exact Drawn0.refl _ | apply Drawn0.step)⟩
         ·rw [if_neg c11] at H
          have c11b0 : decide ((bt a0 x20_2) < 32) = false := decide_eq_false c11
          clear c11
          by_cases c13 : (bt a0 x20_2) > 126
          ·rw [if_pos c13] at H
           have c13b0 : decide (126 < (bt a0 x20_2)) = true := decide_eq_true c13
           clear c13
           obtain rfl := Option.some.inj H
           have p10 : 0 ≤ (x20_2 : Int) := of_decide_eq_true (by assumption)
           have q10 : x20_2 < (a0.size : Int) := of_decide_eq_true (by assumption)
           have hx10 := bt_at a0 x20_2
           replace p10 := eq_true p10
           replace q10 := eq_true q10
           have p12 : 0 ≤ (x20_2 : Int) := of_decide_eq_true (by assumption)
           have q12 : x20_2 < (a0.size : Int) := of_decide_eq_true (by assumption)
           have hx12 := bt_at a0 x20_2
           replace p12 := eq_true p12
           replace q12 := eq_true q12
           go_wp2
           go_ret
           exact ⟨by first | rfl | (simp;done) | (simp [*];done),by repeat (first | exact Drawn0.refl _ | apply Drawn0.step)⟩
          ·rw [if_neg c13] at H
           have c13b0 : decide (126 < (bt a0 x20_2)) = false := decide_eq_false c13
           clear c13
           have H' := qq.mk H
           clear H
           have p10 : 0 ≤ (x20_2 : Int) := of_decide_eq_true (by assumption)
           have q10 : x20_2 < (a0.size : Int) := of_decide_eq_true (by assumption)
           have hx10 := bt_at a0 x20_2
           replace p10 := eq_true p10
           replace q10 := eq_true q10
           have p12 : 0 ≤ (x20_2 : Int) := of_decide_eq_true (by assumption)
           have q12 : x20_2 < (a0.size : Int) := of_decide_eq_true (by assumption)
           have hx12 := bt_at a0 x20_2
           replace p12 := eq_true p12
           replace q12 := eq_true q12
           go_wp2
           go_roundg k2
           case measure => have := HJ3.out;have := HK2.out;omega
           case rel => exact ⟨(wrap64 (x20_2 + 1)),(by first | rfl | (simp;done) | (simp [*];done)),H',⟨by have := HJ3.out;have := HK2.out;omega⟩,by repeat (first | exact Drawn0.refl _ | apply Drawn0.step)⟩
        ·rw [if_neg c9] at H
         exact absurd H (by simp)
       ·rw [if_neg c8] at H
        exact absurd H (by simp)
      ·rw [if_neg c7] at H
       have c7b0 : decide (x20_2 < (a0.size : Int)) = false := decide_eq_false c7
       clear c7
       obtain rfl := Option.some.inj H
       go_wp2
       go_ret
       exact ⟨by first | rfl | (simp;done) | (simp [*];done),by repeat (first | exact Drawn0.refl _ | apply Drawn0.step)⟩
def xj.j0 : Nat → Bool → Int → ByteArray → ByteArray → List Int → List Int → Option (Bool)
 | 0,_,_,_,_,_,_ => none
 | k + 1,x16,x102000,x102001,x102002,x102003,x102004 => if x16 = true then (some false) else (if (x102004.length : Int) = 0 then ((qqk.f k x102002 0 200).bind fun t103 => (if t103 = true then (some (decide ((x102003.length : Int) ≤ 20))) else (some false))) else (if (x102004.length : Int) = 16 then (if x102002.toList = ([] : List UInt8) then (some ((x102003.length : Int) == 0)) else (some false)) else (some false)))
def xj.f (k : Nat) (a0_0 : Int) (a0_1 : ByteArray) (a0_2 : ByteArray) (l0_3 : List Int) (l0_4 : List Int) : Option (Bool) := if a0_0 < 0 then (xj.j0 k true a0_0 a0_1 a0_2 l0_3 l0_4) else (if a0_0 > 100000000000 then (xj.j0 k true a0_0 a0_1 a0_2 l0_3 l0_4) else ((qqk.f k a0_1 0 60).bind fun t102 => (xj.j0 k (!t102) a0_0 a0_1 a0_2 l0_3 l0_4)))
set_option maxHeartbeats 8000000 in
set_option maxRecDepth 100000 in
theorem xj.calls (k : Nat) (a0_0 : Int) (a0_1 : ByteArray) (a0_2 : ByteArray) (A0_3 : Option Addr) (c0_3 : Nat) (l0_3 : List Int) (A0_4 : Option Addr) (c0_4 : Nat) (l0_4 : List Int) (r : Bool) (w : World) (hr0_3 : Kd.C (Kd.int .u8) w A0_3 l0_3.length l0_3) (hc0_3 : l0_3.length ≤ c0_3) (hr0_4 : Kd.C (Kd.int .u8) w A0_4 l0_4.length l0_4) (hc0_4 : l0_4.length ≤ c0_4) (h : xj.f k a0_0 a0_1 a0_2 l0_3 l0_4 = some r) :
  Calls Try.prog 20 #[.agg #[.int .i64 a0_0,.string a0_1,.string a0_2,.slice A0_3 l0_3.length c0_3,.slice A0_4 l0_4.length c0_4]] w fun e w' => e = .returned (.bool r) ∧ Below w.heap.size w w' := by
 have hu27 := Try.underlying27
 have HR0_3 := qq.mk hr0_3
 have HC0_3 := qq.mk hc0_3
 clear hr0_3 hc0_3
 have HR0_4 := qq.mk hr0_4
 have HC0_4 := qq.mk hc0_4
 clear hr0_4 hc0_4
 have HB := qq.mk (Below.refl w.heap.size w)
 have H : (if a0_0 < 0 then (xj.j0 k true a0_0 a0_1 a0_2 l0_3 l0_4) else (if a0_0 > 100000000000 then (xj.j0 k true a0_0 a0_1 a0_2 l0_3 l0_4) else ((qqk.f k a0_1 0 60).bind fun t102 => (xj.j0 k (!t102) a0_0 a0_1 a0_2 l0_3 l0_4)))) = some r := h
 clear h
 have HC2 := qq.mk H
 clear H
 go_enter Try.func20,Try.ntmps20
 go_upto_region 1 with (first | ((with_reducible refine gate_dst (N := 1) rfl ?_);(try (refine gate_guard (by rfl) ?_;dsimp only));refine box_event ?hg (N := 1) ?hd (cs := #[.int .i64 a0_0,.string a0_1,.string a0_2,.slice A0_3 l0_3.length c0_3,.slice A0_4 l0_4.length c0_4]) (t := 27) ?hr ?_;(case hd => rfl);(case hg => rfl);(case hr => first | (go_simp;done) | (go_simp;rfl));intro gb101 hg w3 hbox hb;have n0_ := qq.mk (zv (by repeat (first | (with_reducible first | exact HB.out | apply qj | apply qz | apply qk) | exact HB.out)) hb);have n1_ := qq.mk (hbox);have n2_ := qq.mk ((by rw [hg];exact (zw (by repeat (first | (with_reducible first | exact HB.out | apply qj | apply qz | apply qk) | exact HB.out))) : w.heap.size ≤ gb101));have n3_ := qq.mk ((by rw [hg];exact (zw (by repeat (first | (with_reducible first | exact HB.out | apply qj | apply qz | apply qk) | exact HB.out))) : w.heap.size ≤ gb101));clear HB;have HB := n0_;have BK101 := n1_;have GW101 := n2_;have GE101 := n3_;clear n0_ n1_ n2_ n3_;clear hb hbox hg))
 (try simp only [Act.put,List.setIfInBounds_toArray,List.set_cons_zero,List.set_cons_succ])
 go_cut [16] (fun v16 wc => ∃ (kq : Nat) (x16_1 : Bool),v16 = .bool x16_1 ∧ qq (xj.j0 kq x16_1 a0_0 a0_1 a0_2 l0_3 l0_4 = some r) ∧ qq (kq ≤ k) ∧ qq (wc.heap[gb101]? = some (.cells #[.int .i64 a0_0,.string a0_1,.string a0_2,(.slice A0_3 l0_3.length c0_3),(.slice A0_4 l0_4.length c0_4)] 27 (0,0))) ∧ qq (Below w.heap.size w wc))
 case first =>
  have H := HC2.out
  clear HC2
  by_cases c4 : a0_0 < 0
  ·rw [if_pos c4] at H
   have c4b0 : decide (a0_0 < 0) = true := decide_eq_true c4
   clear c4
   (first | rw [c4b0] | (simp only [i64_w,i32_w];rw [c4b0]) | skip)
   have H' := qq.mk H
   clear H
   have hcz5_0 : w3.cell? ⟨gb101,0,none⟩ = some (.int .i64 a0_0) := (qw BK101.out 0).trans rfl
   have hcz5_1 : w3.cell? ⟨gb101,1,none⟩ = some (.string a0_1) := (qw BK101.out 1).trans rfl
   have hcz5_2 : w3.cell? ⟨gb101,2,none⟩ = some (.string a0_2) := (qw BK101.out 2).trans rfl
   have hcz5_3 : w3.cell? ⟨gb101,3,none⟩ = some (.slice A0_3 l0_3.length c0_3) := (qw BK101.out 3).trans rfl
   have hcz5_4 : w3.cell? ⟨gb101,4,none⟩ = some (.slice A0_4 l0_4.length c0_4) := (qw BK101.out 4).trans rfl
   have hfz5_0 := qv BK101.out 0
   have hfz5_1 := qv BK101.out 1
   have hfz5_2 := qv BK101.out 2
   have hfz5_3 := qv BK101.out 3
   have hfz5_4 := qv BK101.out 4
   go_wp2
   go_meet
   case rel => exact ⟨_,(true),(by first | rfl | (simp;done) | (simp [*];done) | (generalize ByteArray.toList _ = l_;cases l_ <;> first | rfl | (simp;done))),H',⟨by first | omega | exact Nat.le_refl _⟩,⟨by (with_reducible repeat (first | refine zz ?_ _ | refine zj ?_ | refine zq ?_ _));exact BK101.out⟩,⟨by repeat (first | (with_reducible first | exact HB.out | apply qj | apply qz | apply qk | refine qx ?_ GE101.out) | exact HB.out)⟩⟩
  ·rw [if_neg c4] at H
   have c4b0 : decide (a0_0 < 0) = false := decide_eq_false c4
   clear c4
   (first | rw [c4b0] | (simp only [i64_w,i32_w];rw [c4b0]) | skip)
   by_cases c6 : a0_0 > 100000000000
   ·rw [if_pos c6] at H
    have c6b0 : decide (100000000000 < a0_0) = true := decide_eq_true c6
    clear c6
    have H' := qq.mk H
    clear H
    have hcz7_0 : w3.cell? ⟨gb101,0,none⟩ = some (.int .i64 a0_0) := (qw BK101.out 0).trans rfl
    have hcz7_1 : w3.cell? ⟨gb101,1,none⟩ = some (.string a0_1) := (qw BK101.out 1).trans rfl
    have hcz7_2 : w3.cell? ⟨gb101,2,none⟩ = some (.string a0_2) := (qw BK101.out 2).trans rfl
    have hcz7_3 : w3.cell? ⟨gb101,3,none⟩ = some (.slice A0_3 l0_3.length c0_3) := (qw BK101.out 3).trans rfl
    have hcz7_4 : w3.cell? ⟨gb101,4,none⟩ = some (.slice A0_4 l0_4.length c0_4) := (qw BK101.out 4).trans rfl
    have hfz7_0 := qv BK101.out 0
    have hfz7_1 := qv BK101.out 1
    have hfz7_2 := qv BK101.out 2
    have hfz7_3 := qv BK101.out 3
    have hfz7_4 := qv BK101.out 4
    go_wp2
    go_meet
    case rel => exact ⟨_,(true),(by first | rfl | (simp;done) | (simp [*];done) | (generalize ByteArray.toList _ = l_;cases l_ <;> first | rfl | (simp;done))),H',⟨by first | omega | exact Nat.le_refl _⟩,⟨by (with_reducible repeat (first | refine zz ?_ _ | refine zj ?_ | refine zq ?_ _));exact BK101.out⟩,⟨by repeat (first | (with_reducible first | exact HB.out | apply qj | apply qz | apply qk | refine qx ?_ GE101.out) | exact HB.out)⟩⟩
   ·rw [if_neg c6] at H
    have c6b0 : decide (100000000000 < a0_0) = false := decide_eq_false c6
    clear c6
    replace H := Option.bind_eq_some_iff.mp H
    obtain ⟨t102,A80,H⟩ := H
    replace H : (xj.j0 k (!t102) a0_0 a0_1 a0_2 l0_3 l0_4) = some r := H
    have A8 := qq.mk A80
    clear A80
    have H' := qq.mk H
    clear H
    have hcz9_0 : w3.cell? ⟨gb101,0,none⟩ = some (.int .i64 a0_0) := (qw BK101.out 0).trans rfl
    have hcz9_1 : w3.cell? ⟨gb101,1,none⟩ = some (.string a0_1) := (qw BK101.out 1).trans rfl
    have hcz9_2 : w3.cell? ⟨gb101,2,none⟩ = some (.string a0_2) := (qw BK101.out 2).trans rfl
    have hcz9_3 : w3.cell? ⟨gb101,3,none⟩ = some (.slice A0_3 l0_3.length c0_3) := (qw BK101.out 3).trans rfl
    have hcz9_4 : w3.cell? ⟨gb101,4,none⟩ = some (.slice A0_4 l0_4.length c0_4) := (qw BK101.out 4).trans rfl
    have hfz9_0 := qv BK101.out 0
    have hfz9_1 := qv BK101.out 1
    have hfz9_2 := qv BK101.out 2
    have hfz9_3 := qv BK101.out 3
    have hfz9_4 := qv BK101.out 4
    go_wp2_with (first | (go_at_call 72;(with_reducible refine (qqk.calls k a0_1 0 60 t102 _ A8.out).mono ?_);rintro e w' ⟨rfl,⟨nd,rfl⟩⟩))
    go_meet
    case rel => exact ⟨_,(!t102),(by first | rfl | (simp;done) | (simp [*];done) | (generalize ByteArray.toList _ = l_;cases l_ <;> first | rfl | (simp;done))),H',⟨by first | omega | exact Nat.le_refl _⟩,⟨by (with_reducible repeat (first | refine zz ?_ _ | refine zj ?_ | refine zq ?_ _));exact BK101.out⟩,⟨by repeat (first | (with_reducible first | exact HB.out | apply qj | apply qz | apply qk | refine qx ?_ GE101.out) | exact HB.out)⟩⟩
 case rest =>
  clear HC2
  try clear c2
  try clear p2
  try clear c4
  try clear c4b0
  try clear c6
  try clear c6b0
  try clear hcz5_0
  try clear hcz5_1
  try clear hcz5_2
  try clear hcz5_3
  try clear hcz5_4
  try clear hcz7_0
  try clear hcz7_1
  try clear hcz7_2
  try clear hcz7_3
  try clear hcz7_4
  try clear hcz9_0
  try clear hcz9_1
  try clear hcz9_2
  try clear hcz9_3
  try clear hcz9_4
  try clear hfz5_0
  try clear hfz5_1
  try clear hfz5_2
  try clear hfz5_3
  try clear hfz5_4
  try clear hfz7_0
  try clear hfz7_1
  try clear hfz7_2
  try clear hfz7_3
  try clear hfz7_4
  try clear hfz9_0
  try clear hfz9_1
  try clear hfz9_2
  try clear hfz9_3
  try clear hfz9_4
  obtain ⟨kq,x16_1,rfl,HA,HJ1,BK101,HB⟩ := hcut
  cases kq with
  | zero => exact absurd HA.out (by simp [xj.j0])
  | succ kj1 =>
   have H := HA.out
   clear HA
   simp only [xj.j0] at H
   by_cases c10 : x16_1 = true
   ·subst c10
    have H1 : (some false) = some r := by rw [if_pos rfl] at H;exact H
    clear H
    have H := H1
    clear H1
    obtain rfl := Option.some.inj H
    go_wp2
    go_ret
    exact ⟨by first | rfl | (simp [*,jk,jj] <;> rfl),by repeat (first | (with_reducible first | exact HB.out | apply qj | apply qz | apply qk | refine qx ?_ GE101.out) | exact HB.out)⟩
   ·replace c10 := Bool.eq_false_iff.mpr c10
    subst c10
    have H1 : (if (l0_4.length : Int) = 0 then ((qqk.f kj1 a0_2 0 200).bind fun t103 => (if t103 = true then (some (decide ((l0_3.length : Int) ≤ 20))) else (some false))) else (if (l0_4.length : Int) = 16 then (if a0_2.toList = ([] : List UInt8) then (some ((l0_3.length : Int) == 0)) else (some false)) else (some false))) = some r := by rw [if_neg (show ¬ (false = true) by decide)] at H;exact H
    clear H
    have H := H1
    clear H1
    by_cases c11 : (l0_4.length : Int) = 0
    ·rw [if_pos c11] at H
     have c11b0 : ((l0_4.length : Int) == 0) = true := beq_iff_eq.mpr c11
     have c11b1 : ((l0_4.length : Int) != 0) = false := bne_eq_false_iff_eq.mpr c11
     clear c11
     replace H := Option.bind_eq_some_iff.mp H
     obtain ⟨t103,A120,H⟩ := H
     replace H : (if t103 = true then (some (decide ((l0_3.length : Int) ≤ 20))) else (some false)) = some r := H
     have A12 := qq.mk A120
     clear A120
     by_cases c13 : t103 = true
     ·subst c13
      have H1 : (some (decide ((l0_3.length : Int) ≤ 20))) = some r := by rw [if_pos rfl] at H;exact H
      clear H
      have H := H1
      clear H1
      obtain rfl := Option.some.inj H
      have hcz14_0 : wc.cell? ⟨gb101,0,none⟩ = some (.int .i64 a0_0) := (qw BK101.out 0).trans rfl
      have hcz14_1 : wc.cell? ⟨gb101,1,none⟩ = some (.string a0_1) := (qw BK101.out 1).trans rfl
      have hcz14_2 : wc.cell? ⟨gb101,2,none⟩ = some (.string a0_2) := (qw BK101.out 2).trans rfl
      have hcz14_3 : wc.cell? ⟨gb101,3,none⟩ = some (.slice A0_3 l0_3.length c0_3) := (qw BK101.out 3).trans rfl
      have hcz14_4 : wc.cell? ⟨gb101,4,none⟩ = some (.slice A0_4 l0_4.length c0_4) := (qw BK101.out 4).trans rfl
      have hfz14_0 := qv BK101.out 0
      have hfz14_1 := qv BK101.out 1
      have hfz14_2 := qv BK101.out 2
      have hfz14_3 := qv BK101.out 3
      have hfz14_4 := qv BK101.out 4
      go_wp2_with (first | ((with_reducible refine jv (f := 72) rfl ?_);refine goesL_ (some 23) rfl rfl Try.func72 (by kernel_rfl) rfl #[.string a0_2,.int .i64 0,.int .i64 200] rfl (by (try simp only [List.map_toArray,List.map_cons,List.map_nil]);first | done | rfl | (simp only [List.length_drop,List.length_take];rfl)) ?_;(with_reducible refine (qqk.calls kj1 a0_2 0 200 true _ A12.out).mono ?_);rintro e w' ⟨rfl,⟨nd,rfl⟩⟩;refine ⟨_,rfl,?_⟩))
      go_ret
      exact ⟨by first | rfl | (simp [*,jk,jj] <;> rfl),by repeat (first | (with_reducible first | exact HB.out | apply qj | apply qz | apply qk | refine qx ?_ GE101.out) | exact HB.out)⟩
     ·replace c13 := Bool.eq_false_iff.mpr c13
      subst c13
      have H1 : (some false) = some r := by rw [if_neg (show ¬ (false = true) by decide)] at H;exact H
      clear H
      have H := H1
      clear H1
      obtain rfl := Option.some.inj H
      have hcz15_0 : wc.cell? ⟨gb101,0,none⟩ = some (.int .i64 a0_0) := (qw BK101.out 0).trans rfl
      have hcz15_1 : wc.cell? ⟨gb101,1,none⟩ = some (.string a0_1) := (qw BK101.out 1).trans rfl
      have hcz15_2 : wc.cell? ⟨gb101,2,none⟩ = some (.string a0_2) := (qw BK101.out 2).trans rfl
      have hcz15_3 : wc.cell? ⟨gb101,3,none⟩ = some (.slice A0_3 l0_3.length c0_3) := (qw BK101.out 3).trans rfl
      have hcz15_4 : wc.cell? ⟨gb101,4,none⟩ = some (.slice A0_4 l0_4.length c0_4) := (qw BK101.out 4).trans rfl
      have hfz15_0 := qv BK101.out 0
      have hfz15_1 := qv BK101.out 1
      have hfz15_2 := qv BK101.out 2
      have hfz15_3 := qv BK101.out 3
      have hfz15_4 := qv BK101.out 4
      go_wp2_with (first | ((with_reducible refine jv (f := 72) rfl ?_);refine goesL_ (some 23) rfl rfl Try.func72 (by kernel_rfl) rfl #[.string a0_2,.int .i64 0,.int .i64 200] rfl (by (try simp only [List.map_toArray,List.map_cons,List.map_nil]);first | done | rfl | (simp only [List.length_drop,List.length_take];rfl)) ?_;(with_reducible refine (qqk.calls kj1 a0_2 0 200 false _ A12.out).mono ?_);rintro e w' ⟨rfl,⟨nd,rfl⟩⟩;refine ⟨_,rfl,?_⟩))
      go_ret
      exact ⟨by first | rfl | (simp [*,jk,jj] <;> rfl),by repeat (first | (with_reducible first | exact HB.out | apply qj | apply qz | apply qk | refine qx ?_ GE101.out) | exact HB.out)⟩
    ·rw [if_neg c11] at H
     have c11b0 : ((l0_4.length : Int) == 0) = false := beq_eq_false_iff_ne.mpr c11
     have c11b1 : ((l0_4.length : Int) != 0) = true := bne_iff_ne.mpr c11
     have c11b2 : ¬ (l0_4 = []) := fun h_ => c11 (by rw [h_];rfl)
     by_cases c16 : (l0_4.length : Int) = 16
     ·rw [if_pos c16] at H
      have c16b0 : ((l0_4.length : Int) == 16) = true := beq_iff_eq.mpr c16
      have c16b1 : ((l0_4.length : Int) != 16) = false := bne_eq_false_iff_eq.mpr c16
      clear c16
      by_cases c17 : a0_2.toList = ([] : List UInt8)
      ·rw [if_pos c17] at H
       have c17b0 : (a0_2.toList == ([] : List UInt8)) = true := beq_iff_eq.mpr c17
       have c17b1 : (a0_2.toList != ([] : List UInt8)) = false := bne_eq_false_iff_eq.mpr c17
       clear c17
       obtain rfl := Option.some.inj H
       have hcz18_0 : wc.cell? ⟨gb101,0,none⟩ = some (.int .i64 a0_0) := (qw BK101.out 0).trans rfl
       have hcz18_1 : wc.cell? ⟨gb101,1,none⟩ = some (.string a0_1) := (qw BK101.out 1).trans rfl
       have hcz18_2 : wc.cell? ⟨gb101,2,none⟩ = some (.string a0_2) := (qw BK101.out 2).trans rfl
       have hcz18_3 : wc.cell? ⟨gb101,3,none⟩ = some (.slice A0_3 l0_3.length c0_3) := (qw BK101.out 3).trans rfl
       have hcz18_4 : wc.cell? ⟨gb101,4,none⟩ = some (.slice A0_4 l0_4.length c0_4) := (qw BK101.out 4).trans rfl
       have hfz18_0 := qv BK101.out 0
       have hfz18_1 := qv BK101.out 1
       have hfz18_2 := qv BK101.out 2
       have hfz18_3 := qv BK101.out 3
       have hfz18_4 := qv BK101.out 4
       go_wp2
       go_ret
       exact ⟨by first | rfl | (simp [*,jk,jj] <;> rfl),by repeat (first | (with_reducible first | exact HB.out | apply qj | apply qz | apply qk | refine qx ?_ GE101.out) | exact HB.out)⟩
      ·rw [if_neg c17] at H
       have c17b0 : (a0_2.toList == ([] : List UInt8)) = false := beq_eq_false_iff_ne.mpr c17
       have c17b1 : (a0_2.toList != ([] : List UInt8)) = true := bne_iff_ne.mpr c17
       obtain rfl := Option.some.inj H
       have hcz19_0 : wc.cell? ⟨gb101,0,none⟩ = some (.int .i64 a0_0) := (qw BK101.out 0).trans rfl
       have hcz19_1 : wc.cell? ⟨gb101,1,none⟩ = some (.string a0_1) := (qw BK101.out 1).trans rfl
       have hcz19_2 : wc.cell? ⟨gb101,2,none⟩ = some (.string a0_2) := (qw BK101.out 2).trans rfl
       have hcz19_3 : wc.cell? ⟨gb101,3,none⟩ = some (.slice A0_3 l0_3.length c0_3) := (qw BK101.out 3).trans rfl
       have hcz19_4 : wc.cell? ⟨gb101,4,none⟩ = some (.slice A0_4 l0_4.length c0_4) := (qw BK101.out 4).trans rfl
       have hfz19_0 := qv BK101.out 0
       have hfz19_1 := qv BK101.out 1
       have hfz19_2 := qv BK101.out 2
       have hfz19_3 := qv BK101.out 3
       have hfz19_4 := qv BK101.out 4
       go_wp2
       go_ret
       exact ⟨by first | rfl | (simp [*,jk,jj] <;> rfl),by repeat (first | (with_reducible first | exact HB.out | apply qj | apply qz | apply qk | refine qx ?_ GE101.out) | exact HB.out)⟩
     ·rw [if_neg c16] at H
      have c16b0 : ((l0_4.length : Int) == 16) = false := beq_eq_false_iff_ne.mpr c16
      have c16b1 : ((l0_4.length : Int) != 16) = true := bne_iff_ne.mpr c16
      obtain rfl := Option.some.inj H
      have hcz20_0 : wc.cell? ⟨gb101,0,none⟩ = some (.int .i64 a0_0) := (qw BK101.out 0).trans rfl
      have hcz20_1 : wc.cell? ⟨gb101,1,none⟩ = some (.string a0_1) := (qw BK101.out 1).trans rfl
      have hcz20_2 : wc.cell? ⟨gb101,2,none⟩ = some (.string a0_2) := (qw BK101.out 2).trans rfl
      have hcz20_3 : wc.cell? ⟨gb101,3,none⟩ = some (.slice A0_3 l0_3.length c0_3) := (qw BK101.out 3).trans rfl
      have hcz20_4 : wc.cell? ⟨gb101,4,none⟩ = some (.slice A0_4 l0_4.length c0_4) := (qw BK101.out 4).trans rfl
      have hfz20_0 := qv BK101.out 0
      have hfz20_1 := qv BK101.out 1
      have hfz20_2 := qv BK101.out 2
      have hfz20_3 := qv BK101.out 3
      have hfz20_4 := qv BK101.out 4
      go_wp2
      go_ret
      exact ⟨by first | rfl | (simp [*,jk,jj] <;> rfl),by repeat (first | (with_reducible first | exact HB.out | apply qj | apply qz | apply qk | refine qx ?_ GE101.out) | exact HB.out)⟩
end Go.Proofs.Ytipdkendfcopiaa.Pr
namespace Go.Proofs.Ytipdkendfcopiaa.Pr
open Go.RowKit Go.Proofs.YtipdkendfcopiaaW.PrintWords Go.Proofs.YtipdkendfcopiaaW.PrintLast Go.Proofs.YtipdkendfcopiaaW.PrintMore
attribute [local go_sem] max2_int min2_int max_two min_two max_three min_three max_four min_four
set_option linter.unusedVariables false
set_option linter.unusedSimpArgs false
def xq.f (k : Nat) (a0_0 : Int) (a0_1 : ByteArray) (a0_2 : ByteArray) (l0_3 : List Int) (l0_4 : List Int) : Option (List Int) := (xj.f k a0_0 a0_1 a0_2 l0_3 l0_4).bind fun t102 => (if t102 = true then (if (l0_4.length : Int) > 0 then ((wk.f l0_4).bind fun t103 => (some t103)) else ((bytesOfS.f a0_2).bind fun t106 => ((xv.f k l0_3 t106).bind fun t109 => (some t109)))) else (some ([] : List Int)))
set_option maxHeartbeats 8000000 in
set_option maxRecDepth 100000 in
theorem xq.calls (k : Nat) (a0_0 : Int) (a0_1 : ByteArray) (a0_2 : ByteArray) (A0_3 : Option Addr) (c0_3 : Nat) (l0_3 : List Int) (A0_4 : Option Addr) (c0_4 : Nat) (l0_4 : List Int) (r : List Int) (w : World) (hr0_3 : Kd.C (Kd.int .u8) w A0_3 l0_3.length l0_3) (hc0_3 : l0_3.length ≤ c0_3) (hr0_4 : Kd.C (Kd.int .u8) w A0_4 l0_4.length l0_4) (hc0_4 : l0_4.length ≤ c0_4) (h : xq.f k a0_0 a0_1 a0_2 l0_3 l0_4 = some r) :
  Calls Try.prog 23 #[.agg #[.int .i64 a0_0,.string a0_1,.string a0_2,.slice A0_3 l0_3.length c0_3,.slice A0_4 l0_4.length c0_4]] w fun e w' => ∃ v0_ : Value,e = .returned (v0_) ∧ Kd.R (Kd.int .u8) 5 w' w.heap.size (fun _ => True) v0_ r ∧ Below w.heap.size w w' := by
 have hu27 := Try.underlying27
 have HR0_3 := qq.mk hr0_3
 have HC0_3 := qq.mk hc0_3
 clear hr0_3 hc0_3
 have HR0_4 := qq.mk hr0_4
 have HC0_4 := qq.mk hc0_4
 clear hr0_4 hc0_4
 have HB := qq.mk (Below.refl w.heap.size w)
 have H : ((xj.f k a0_0 a0_1 a0_2 l0_3 l0_4).bind fun t102 => (if t102 = true then (if (l0_4.length : Int) > 0 then ((wk.f l0_4).bind fun t103 => (some t103)) else ((bytesOfS.f a0_2).bind fun t106 => ((xv.f k l0_3 t106).bind fun t109 => (some t109)))) else (some ([] : List Int)))) = some r := h
 clear h
 replace H := Option.bind_eq_some_iff.mp H
 obtain ⟨t102,A20,H⟩ := H
 replace H : (if t102 = true then (if (l0_4.length : Int) > 0 then ((wk.f l0_4).bind fun t103 => (some t103)) else ((bytesOfS.f a0_2).bind fun t106 => ((xv.f k l0_3 t106).bind fun t109 => (some t109)))) else (some ([] : List Int))) = some r := H
 have A2 := qq.mk A20
 clear A20
 by_cases c3 : t102 = true
 ·subst c3
  have H1 : (if (l0_4.length : Int) > 0 then ((wk.f l0_4).bind fun t103 => (some t103)) else ((bytesOfS.f a0_2).bind fun t106 => ((xv.f k l0_3 t106).bind fun t109 => (some t109)))) = some r := by rw [if_pos rfl] at H;exact H
  clear H
  have H := H1
  clear H1
  by_cases c4 : (l0_4.length : Int) > 0
  ·rw [if_pos c4] at H
   have c4b0 : decide (0 < (l0_4.length : Int)) = true := decide_eq_true c4
   have c4b1 : decide (0 < l0_4.length) = true := decide_eq_true (by omega)
   clear c4
   replace H := Option.bind_eq_some_iff.mp H
   obtain ⟨t103,A50,H⟩ := H
   replace H : (some t103) = some r := H
   have A5 := qq.mk A50
   clear A50
   obtain rfl := Option.some.inj H
   go_enter Try.func23,Try.ntmps23
   go_wp2_with (first | ((with_reducible refine gate_dst (N := 1) rfl ?_);refine box_event ?hg (N := 1) ?hd (cs := #[.int .i64 a0_0,.string a0_1,.string a0_2,.slice A0_3 l0_3.length c0_3,.slice A0_4 l0_4.length c0_4]) (t := 27) ?hr ?_;(case hd => rfl);(case hg => rfl);(case hr => first | (go_simp;done) | (go_simp;rfl));intro gb101 hg w6 hbox hb;have n0_ := qq.mk (zv (by repeat (first | (with_reducible first | exact HB.out | apply qj | apply qz | apply qk) | exact HB.out)) hb);have n1_ := qq.mk (hbox);have n2_ := qq.mk ((by rw [hg];exact (zw (by repeat (first | (with_reducible first | exact HB.out | apply qj | apply qz | apply qk) | exact HB.out))) : w.heap.size ≤ gb101));have n3_ := qq.mk ((by rw [hg];exact (zw (by repeat (first | (with_reducible first | exact HB.out | apply qj | apply qz | apply qk) | exact HB.out))) : w.heap.size ≤ gb101));clear HB;have HB := n0_;have BK101 := n1_;have GW101 := n2_;have GE101 := n3_;clear n0_ n1_ n2_ n3_;clear hb hbox hg;have hcz7_0 : w6.cell? ⟨gb101,0,none⟩ = some (.int .i64 a0_0) := (qw BK101.out 0).trans rfl;have hcz7_1 : w6.cell? ⟨gb101,1,none⟩ = some (.string a0_1) := (qw BK101.out 1).trans rfl;have hcz7_2 : w6.cell? ⟨gb101,2,none⟩ = some (.string a0_2) := (qw BK101.out 2).trans rfl;have hcz7_3 : w6.cell? ⟨gb101,3,none⟩ = some (.slice A0_3 l0_3.length c0_3) := (qw BK101.out 3).trans rfl;have hcz7_4 : w6.cell? ⟨gb101,4,none⟩ = some (.slice A0_4 l0_4.length c0_4) := (qw BK101.out 4).trans rfl;have hfz7_0 := qv BK101.out 0;have hfz7_1 := qv BK101.out 1;have hfz7_2 := qv BK101.out 2;have hfz7_3 := qv BK101.out 3;have hfz7_4 := qv BK101.out 4) | ((with_reducible refine jv (f := 20) rfl ?_);refine goesL_ (some 4) rfl rfl Try.func20 (by kernel_rfl) rfl #[.agg #[.int .i64 a0_0,.string a0_1,.string a0_2,.slice A0_3 l0_3.length c0_3,.slice A0_4 l0_4.length c0_4]] rfl (by (try simp only [List.map_toArray,List.map_cons,List.map_nil]);first | done | rfl | (simp only [List.length_drop,List.length_take];rfl)) ?_;(with_reducible refine (xj.calls k a0_0 a0_1 a0_2 _ _ l0_3 _ _ l0_4 true _ ?side1 ?side2 ?side3 ?side4 A2.out).mono ?_);(case side1 => repeat (first | exact (Kd.C_below HR0_3.out HB.out) | (with_reducible refine Kd.C_alloc ?_ _) | (with_reducible refine Kd.C_drewN ?_ _) | (with_reducible refine Kd.C_drew ?_)));(case side2 => exact HC0_3.out);(case side3 => repeat (first | exact (Kd.C_below HR0_4.out HB.out) | (with_reducible refine Kd.C_alloc ?_ _) | (with_reducible refine Kd.C_drewN ?_ _) | (with_reducible refine Kd.C_drew ?_)));(case side4 => exact HC0_4.out);rintro e w8 ⟨rfl,hb⟩;refine ⟨_,rfl,?_⟩;have n0_ := qq.mk (vw (g := gb101) (o := .cells #[.int .i64 a0_0,.string a0_1,.string a0_2,.slice A0_3 l0_3.length c0_3,.slice A0_4 l0_4.length c0_4] 27 (0,0)) (by (with_reducible repeat (first | refine zz ?_ _ | refine zj ?_ | refine zq ?_ _));exact BK101.out) hb);have n1_ := qq.mk (zv (by repeat (first | (with_reducible first | exact HB.out | apply qj | apply qz | apply qk | refine qx ?_ GE101.out) | exact HB.out)) hb);clear BK101;clear HB;have BK101 := n0_;have HB := n1_;clear n0_ n1_;(try clear hb);(try clear hb2);(try clear hk);(try clear hi);have hcz9_0 : w8.cell? ⟨gb101,0,none⟩ = some (.int .i64 a0_0) := (qw BK101.out 0).trans rfl;have hcz9_1 : w8.cell? ⟨gb101,1,none⟩ = some (.string a0_1) := (qw BK101.out 1).trans rfl;have hcz9_2 : w8.cell? ⟨gb101,2,none⟩ = some (.string a0_2) := (qw BK101.out 2).trans rfl;have hcz9_3 : w8.cell? ⟨gb101,3,none⟩ = some (.slice A0_3 l0_3.length c0_3) := (qw BK101.out 3).trans rfl;have hcz9_4 : w8.cell? ⟨gb101,4,none⟩ = some (.slice A0_4 l0_4.length c0_4) := (qw BK101.out 4).trans rfl;have hfz9_0 := qv BK101.out 0;have hfz9_1 := qv BK101.out 1;have hfz9_2 := qv BK101.out 2;have hfz9_3 := qv BK101.out 3;have hfz9_4 := qv BK101.out 4) | ((with_reducible refine jv (f := 74) rfl ?_);refine goesL_ (some 12) rfl rfl Try.func74 (by kernel_rfl) rfl #[.slice A0_4 l0_4.length c0_4] rfl (by (try simp only [List.map_toArray,List.map_cons,List.map_nil]);first | done | rfl | (simp only [List.length_drop,List.length_take];rfl)) ?_;(with_reducible refine (wk.calls _ _ l0_4 t103 _ ?side1 ?side2 A5.out).mono ?_);(case side1 => repeat (first | exact (Kd.C_below HR0_4.out HB.out) | (with_reducible refine Kd.C_alloc ?_ _) | (with_reducible refine Kd.C_drewN ?_ _) | (with_reducible refine Kd.C_drew ?_)));(case side2 => exact HC0_4.out);rintro e w10 ⟨v104,rfl,ho0,hb⟩;refine ⟨_,rfl,?_⟩;have n0_ := qq.mk (Kd.R_lower ho0 (zw (by repeat (first | (with_reducible first | exact HB.out | apply qj | apply qz | apply qk | refine qx ?_ GE101.out) | exact HB.out))));have n1_ := qq.mk (vw (g := gb101) (o := .cells #[.int .i64 a0_0,.string a0_1,.string a0_2,.slice A0_3 l0_3.length c0_3,.slice A0_4 l0_4.length c0_4] 27 (0,0)) (by (with_reducible repeat (first | refine zz ?_ _ | refine zj ?_ | refine zq ?_ _));exact BK101.out) hb);have n2_ := qq.mk (zv (by repeat (first | (with_reducible first | exact HB.out | apply qj | apply qz | apply qk | refine qx ?_ GE101.out) | exact HB.out)) hb);clear BK101;clear HB;have HO105 := n0_;have BK101 := n1_;have HB := n2_;clear n0_ n1_ n2_;(try clear hb);(try clear hb2);(try clear hk);(try clear hi);(try clear ho0)))
   go_ret
   exact ⟨_,by first | rfl | (simp [*,jk,jj] <;> rfl),by (with_reducible repeat (first | apply Kd.jq | apply Kd.zx | apply Kd.jz));exact HO105.out,by repeat (first | (with_reducible first | exact HB.out | apply qj | apply qz | apply qk | refine qx ?_ GE101.out) | exact HB.out)⟩
  ·rw [if_neg c4] at H
   have c4b0 : decide (0 < (l0_4.length : Int)) = false := decide_eq_false c4
   have c4b1 : decide (0 < l0_4.length) = false := decide_eq_false (by omega)
   clear c4
   replace H := Option.bind_eq_some_iff.mp H
   obtain ⟨t106,A110,H⟩ := H
   replace H : ((xv.f k l0_3 t106).bind fun t109 => (some t109)) = some r := H
   have A11 := qq.mk A110
   clear A110
   replace H := Option.bind_eq_some_iff.mp H
   obtain ⟨t109,A120,H⟩ := H
   replace H : (some t109) = some r := H
   have A12 := qq.mk A120
   clear A120
   obtain rfl := Option.some.inj H
   go_enter Try.func23,Try.ntmps23
   go_wp2_with (first | ((with_reducible refine gate_dst (N := 1) rfl ?_);refine box_event ?hg (N := 1) ?hd (cs := #[.int .i64 a0_0,.string a0_1,.string a0_2,.slice A0_3 l0_3.length c0_3,.slice A0_4 l0_4.length c0_4]) (t := 27) ?hr ?_;(case hd => rfl);(case hg => rfl);(case hr => first | (go_simp;done) | (go_simp;rfl));intro gb101 hg w13 hbox hb;have n0_ := qq.mk (zv (by repeat (first | (with_reducible first | exact HB.out | apply qj | apply qz | apply qk) | exact HB.out)) hb);have n1_ := qq.mk (hbox);have n2_ := qq.mk ((by rw [hg];exact (zw (by repeat (first | (with_reducible first | exact HB.out | apply qj | apply qz | apply qk) | exact HB.out))) : w.heap.size ≤ gb101));have n3_ := qq.mk ((by rw [hg];exact (zw (by repeat (first | (with_reducible first | exact HB.out | apply qj | apply qz | apply qk) | exact HB.out))) : w.heap.size ≤ gb101));clear HB;have HB := n0_;have BK101 := n1_;have GW101 := n2_;have GE101 := n3_;clear n0_ n1_ n2_ n3_;clear hb hbox hg;have hcz14_0 : w13.cell? ⟨gb101,0,none⟩ = some (.int .i64 a0_0) := (qw BK101.out 0).trans rfl;have hcz14_1 : w13.cell? ⟨gb101,1,none⟩ = some (.string a0_1) := (qw BK101.out 1).trans rfl;have hcz14_2 : w13.cell? ⟨gb101,2,none⟩ = some (.string a0_2) := (qw BK101.out 2).trans rfl;have hcz14_3 : w13.cell? ⟨gb101,3,none⟩ = some (.slice A0_3 l0_3.length c0_3) := (qw BK101.out 3).trans rfl;have hcz14_4 : w13.cell? ⟨gb101,4,none⟩ = some (.slice A0_4 l0_4.length c0_4) := (qw BK101.out 4).trans rfl;have hfz14_0 := qv BK101.out 0;have hfz14_1 := qv BK101.out 1;have hfz14_2 := qv BK101.out 2;have hfz14_3 := qv BK101.out 3;have hfz14_4 := qv BK101.out 4) | ((with_reducible refine jv (f := 20) rfl ?_);refine goesL_ (some 4) rfl rfl Try.func20 (by kernel_rfl) rfl #[.agg #[.int .i64 a0_0,.string a0_1,.string a0_2,.slice A0_3 l0_3.length c0_3,.slice A0_4 l0_4.length c0_4]] rfl (by (try simp only [List.map_toArray,List.map_cons,List.map_nil]);first | done | rfl | (simp only [List.length_drop,List.length_take];rfl)) ?_;(with_reducible refine (xj.calls k a0_0 a0_1 a0_2 _ _ l0_3 _ _ l0_4 true _ ?side1 ?side2 ?side3 ?side4 A2.out).mono ?_);(case side1 => repeat (first | exact (Kd.C_below HR0_3.out HB.out) | (with_reducible refine Kd.C_alloc ?_ _) | (with_reducible refine Kd.C_drewN ?_ _) | (with_reducible refine Kd.C_drew ?_)));(case side2 => exact HC0_3.out);(case side3 => repeat (first | exact (Kd.C_below HR0_4.out HB.out) | (with_reducible refine Kd.C_alloc ?_ _) | (with_reducible refine Kd.C_drewN ?_ _) | (with_reducible refine Kd.C_drew ?_)));(case side4 => exact HC0_4.out);rintro e w15 ⟨rfl,hb⟩;refine ⟨_,rfl,?_⟩;have n0_ := qq.mk (vw (g := gb101) (o := .cells #[.int .i64 a0_0,.string a0_1,.string a0_2,.slice A0_3 l0_3.length c0_3,.slice A0_4 l0_4.length c0_4] 27 (0,0)) (by (with_reducible repeat (first | refine zz ?_ _ | refine zj ?_ | refine zq ?_ _));exact BK101.out) hb);have n1_ := qq.mk (zv (by repeat (first | (with_reducible first | exact HB.out | apply qj | apply qz | apply qk | refine qx ?_ GE101.out) | exact HB.out)) hb);clear BK101;clear HB;have BK101 := n0_;have HB := n1_;clear n0_ n1_;(try clear hb);(try clear hb2);(try clear hk);(try clear hi);have hcz16_0 : w15.cell? ⟨gb101,0,none⟩ = some (.int .i64 a0_0) := (qw BK101.out 0).trans rfl;have hcz16_1 : w15.cell? ⟨gb101,1,none⟩ = some (.string a0_1) := (qw BK101.out 1).trans rfl;have hcz16_2 : w15.cell? ⟨gb101,2,none⟩ = some (.string a0_2) := (qw BK101.out 2).trans rfl;have hcz16_3 : w15.cell? ⟨gb101,3,none⟩ = some (.slice A0_3 l0_3.length c0_3) := (qw BK101.out 3).trans rfl;have hcz16_4 : w15.cell? ⟨gb101,4,none⟩ = some (.slice A0_4 l0_4.length c0_4) := (qw BK101.out 4).trans rfl;have hfz16_0 := qv BK101.out 0;have hfz16_1 := qv BK101.out 1;have hfz16_2 := qv BK101.out 2;have hfz16_3 := qv BK101.out 3;have hfz16_4 := qv BK101.out 4) | ((with_reducible refine gate_convert (src := 9) (dst := 22) rfl ?_);refine bytesGoesL_ (some 17) rfl rfl (s := a0_2) rfl rfl ?_;(with_reducible refine (bytesOfS.calls a0_2 t106 _ A11.out).mono ?_);rintro e w17 ⟨v107,rfl,ho0,hb⟩;refine ⟨_,rfl,?_⟩;have n0_ := qq.mk (Kd.V_lower (Kd.V_mono (ok' := fun k_ => k_ ≠ gb101) ho0 (fun k_ hk_ => (Kd.freshB (g := gb101) (o := .cells #[.int .i64 a0_0,.string a0_1,.string a0_2,.slice A0_3 l0_3.length c0_3,.slice A0_4 l0_4.length c0_4] 27 (0,0)) (by (with_reducible repeat (first | refine zz ?_ _ | refine zj ?_ | refine zq ?_ _));exact BK101.out) k_ hk_))) (zw (by repeat (first | (with_reducible first | exact HB.out | apply qj | apply qz | apply qk | refine qx ?_ GE101.out) | exact HB.out))));have n1_ := qq.mk (vw (g := gb101) (o := .cells #[.int .i64 a0_0,.string a0_1,.string a0_2,.slice A0_3 l0_3.length c0_3,.slice A0_4 l0_4.length c0_4] 27 (0,0)) (by (with_reducible repeat (first | refine zz ?_ _ | refine zj ?_ | refine zq ?_ _));exact BK101.out) hb);have n2_ := qq.mk (zv (by repeat (first | (with_reducible first | exact HB.out | apply qj | apply qz | apply qk | refine qx ?_ GE101.out) | exact HB.out)) hb);clear BK101;clear HB;have HO108 := n0_;have BK101 := n1_;have HB := n2_;clear n0_ n1_ n2_;(try clear hb);(try clear hb2);(try clear hk);(try clear hi);(try clear ho0);obtain ⟨Ao18,co18,eo18⟩ := Kd.V_slice HO108.out;subst eo18) | ((with_reducible refine jv (f := 75) rfl ?_);refine goesL_ (some 18) rfl rfl Try.func75 (by kernel_rfl) rfl #[.slice A0_3 l0_3.length c0_3,.slice Ao18 t106.length co18] rfl (by (try simp only [List.map_toArray,List.map_cons,List.map_nil]);first | done | rfl | (simp only [List.length_drop,List.length_take];rfl)) ?_;(with_reducible refine (xv.calls k _ _ l0_3 _ _ t106 t109 _ ?side1 ?side2 ?side3 ?side4 A12.out).mono ?_);(case side1 => repeat (first | exact (Kd.C_below HR0_3.out HB.out) | (with_reducible refine Kd.C_alloc ?_ _) | (with_reducible refine Kd.C_drewN ?_ _) | (with_reducible refine Kd.C_drew ?_)));(case side2 => exact HC0_3.out);(case side3 => repeat (first | exact (Kd.V_reads' HO108.out).2.2 | (with_reducible refine Kd.C_alloc ?_ _) | (with_reducible refine Kd.C_drewN ?_ _) | (with_reducible refine Kd.C_drew ?_)));(case side4 => exact (Kd.V_reads' HO108.out).2.1);rintro e w19 ⟨v110,rfl,ho0,hb⟩;refine ⟨_,rfl,?_⟩;have n0_ := qq.mk (Kd.V_elder' (by (with_reducible repeat (first | apply Kd.vk | apply Kd.vz | apply Kd.vv));exact HO108.out) (Kd.R_base ho0) hb);have n1_ := qq.mk (Kd.R_lower ho0 (zw (by repeat (first | (with_reducible first | exact HB.out | apply qj | apply qz | apply qk | refine qx ?_ GE101.out) | exact HB.out))));have n2_ := qq.mk (vw (g := gb101) (o := .cells #[.int .i64 a0_0,.string a0_1,.string a0_2,.slice A0_3 l0_3.length c0_3,.slice A0_4 l0_4.length c0_4] 27 (0,0)) (by (with_reducible repeat (first | refine zz ?_ _ | refine zj ?_ | refine zq ?_ _));exact BK101.out) hb);have n3_ := qq.mk (zv (by repeat (first | (with_reducible first | exact HB.out | apply qj | apply qz | apply qk | refine qx ?_ GE101.out) | exact HB.out)) hb);clear HO108;clear BK101;clear HB;have HO108 := n0_;have HO111 := n1_;have BK101 := n2_;have HB := n3_;clear n0_ n1_ n2_ n3_;(try clear hb);(try clear hb2);(try clear hk);(try clear hi);(try clear ho0)))
   go_ret
   exact ⟨_,by first | rfl | (simp [*,jk,jj] <;> rfl),by (with_reducible repeat (first | apply Kd.jq | apply Kd.zx | apply Kd.jz));exact HO111.out,by repeat (first | (with_reducible first | exact HB.out | apply qj | apply qz | apply qk | refine qx ?_ GE101.out) | exact HB.out)⟩
 ·replace c3 := Bool.eq_false_iff.mpr c3
  subst c3
  have H1 : (some ([] : List Int)) = some r := by rw [if_neg (show ¬ (false = true) by decide)] at H;exact H
  clear H
  have H := H1
  clear H1
  obtain rfl := Option.some.inj H
  go_enter Try.func23,Try.ntmps23
  go_wp2_with (first | ((with_reducible refine gate_dst (N := 1) rfl ?_);refine box_event ?hg (N := 1) ?hd (cs := #[.int .i64 a0_0,.string a0_1,.string a0_2,.slice A0_3 l0_3.length c0_3,.slice A0_4 l0_4.length c0_4]) (t := 27) ?hr ?_;(case hd => rfl);(case hg => rfl);(case hr => first | (go_simp;done) | (go_simp;rfl));intro gb101 hg w20 hbox hb;have n0_ := qq.mk (zv (by repeat (first | (with_reducible first | exact HB.out | apply qj | apply qz | apply qk) | exact HB.out)) hb);have n1_ := qq.mk (hbox);have n2_ := qq.mk ((by rw [hg];exact (zw (by repeat (first | (with_reducible first | exact HB.out | apply qj | apply qz | apply qk) | exact HB.out))) : w.heap.size ≤ gb101));have n3_ := qq.mk ((by rw [hg];exact (zw (by repeat (first | (with_reducible first | exact HB.out | apply qj | apply qz | apply qk) | exact HB.out))) : w.heap.size ≤ gb101));clear HB;have HB := n0_;have BK101 := n1_;have GW101 := n2_;have GE101 := n3_;clear n0_ n1_ n2_ n3_;clear hb hbox hg;have hcz21_0 : w20.cell? ⟨gb101,0,none⟩ = some (.int .i64 a0_0) := (qw BK101.out 0).trans rfl;have hcz21_1 : w20.cell? ⟨gb101,1,none⟩ = some (.string a0_1) := (qw BK101.out 1).trans rfl;have hcz21_2 : w20.cell? ⟨gb101,2,none⟩ = some (.string a0_2) := (qw BK101.out 2).trans rfl;have hcz21_3 : w20.cell? ⟨gb101,3,none⟩ = some (.slice A0_3 l0_3.length c0_3) := (qw BK101.out 3).trans rfl;have hcz21_4 : w20.cell? ⟨gb101,4,none⟩ = some (.slice A0_4 l0_4.length c0_4) := (qw BK101.out 4).trans rfl;have hfz21_0 := qv BK101.out 0;have hfz21_1 := qv BK101.out 1;have hfz21_2 := qv BK101.out 2;have hfz21_3 := qv BK101.out 3;have hfz21_4 := qv BK101.out 4) | ((with_reducible refine jv (f := 20) rfl ?_);refine goesL_ (some 4) rfl rfl Try.func20 (by kernel_rfl) rfl #[.agg #[.int .i64 a0_0,.string a0_1,.string a0_2,.slice A0_3 l0_3.length c0_3,.slice A0_4 l0_4.length c0_4]] rfl (by (try simp only [List.map_toArray,List.map_cons,List.map_nil]);first | done | rfl | (simp only [List.length_drop,List.length_take];rfl)) ?_;(with_reducible refine (xj.calls k a0_0 a0_1 a0_2 _ _ l0_3 _ _ l0_4 false _ ?side1 ?side2 ?side3 ?side4 A2.out).mono ?_);(case side1 => repeat (first | exact (Kd.C_below HR0_3.out HB.out) | (with_reducible refine Kd.C_alloc ?_ _) | (with_reducible refine Kd.C_drewN ?_ _) | (with_reducible refine Kd.C_drew ?_)));(case side2 => exact HC0_3.out);(case side3 => repeat (first | exact (Kd.C_below HR0_4.out HB.out) | (with_reducible refine Kd.C_alloc ?_ _) | (with_reducible refine Kd.C_drewN ?_ _) | (with_reducible refine Kd.C_drew ?_)));(case side4 => exact HC0_4.out);rintro e w22 ⟨rfl,hb⟩;refine ⟨_,rfl,?_⟩;have n0_ := qq.mk (vw (g := gb101) (o := .cells #[.int .i64 a0_0,.string a0_1,.string a0_2,.slice A0_3 l0_3.length c0_3,.slice A0_4 l0_4.length c0_4] 27 (0,0)) (by (with_reducible repeat (first | refine zz ?_ _ | refine zj ?_ | refine zq ?_ _));exact BK101.out) hb);have n1_ := qq.mk (zv (by repeat (first | (with_reducible first | exact HB.out | apply qj | apply qz | apply qk | refine qx ?_ GE101.out) | exact HB.out)) hb);clear BK101;clear HB;have BK101 := n0_;have HB := n1_;clear n0_ n1_;(try clear hb);(try clear hb2);(try clear hk);(try clear hi)))
  go_ret
  exact ⟨_,by first | rfl | (simp [*,jk,jj] <;> rfl),by first | exact Kd.R_nil _ _ _ _ _ | exact Kd.N_nil _ _ _ _ _ | exact Kd.V_nil _ _ _ _ _ | exact Kd.Q_nil _ _ _ _ _ | exact Kd.S_nil _ _ _ _ _,by repeat (first | (with_reducible first | exact HB.out | apply qj | apply qz | apply qk | refine qx ?_ GE101.out) | exact HB.out)⟩
end Go.Proofs.Ytipdkendfcopiaa.Pr
namespace Go.Proofs.Ytipdkendfcopiaa.Pr
open Go.RowKit Go.Proofs.YtipdkendfcopiaaW.PrintWords Go.Proofs.YtipdkendfcopiaaW.PrintLast Go.Proofs.YtipdkendfcopiaaW.PrintMore
attribute [local go_sem] max2_int min2_int max_two min_two max_three min_three max_four min_four
set_option linter.unusedVariables false
set_option linter.unusedSimpArgs false
def xk.f (k : Nat) (a0_0 : Int) (a0_1 : ByteArray) (a0_2 : ByteArray) (l0_3 : List Int) (l0_4 : List Int) : Option (List Int) := (xj.f k a0_0 a0_1 a0_2 l0_3 l0_4).bind fun t102 => (if t102 = true then ((qqq.f a0_0).bind fun t106 => ((qqq.f (a0_0 / 4294967296)).bind fun t109 => ((bytesOfS.f a0_1).bind fun t112 => ((xz.f t112).bind fun t115 => ((xq.f k a0_0 a0_1 a0_2 l0_3 l0_4).bind fun t118 => ((qkq.f (([(([0] : List Int)),t106,t109,t115,t118] : List (List Int)))).bind fun t124 => ((xz.f t124).bind fun t127 => (some t127)))))))) else (some ([] : List Int)))
def xk.T3 : Bool × List (List Nat × List Nat) := (true,[([],[]),([],[]),([1],[1]),([2],[2]),([],[]),([4],[4]),([5],[5]),([6,3],[6]),([],[]),([8],[8]),([9],[9]),([10,7],[10]),([],[]),([12,11],[12]),([0,3,7,11,13],[0,3,7,11,13]),([14,13],[14]),([15,15],[15]),([16,16,0,1,2,3,4,5,6,7,8,9,10,11,12,13,14,15,16],[16])])
def xk.B3 : List Nat := [0,0,2,6,0,16,48,126,0,256,768,2046,0,8190,16383,32767,65535,131071]
theorem xk.tab3 : rtab .any (opsOf Try.f29 3) = xk.T3 := by kernel_rfl
theorem xk.bits3 : waitsOk xk.T3.2 xk.B3 = true := by kernel_rfl
set_option maxHeartbeats 8000000 in
set_option maxRecDepth 100000 in
theorem xk.callsN (k : Nat) (a0_0 : Int) (a0_1 : ByteArray) (a0_2 : ByteArray) (A0_3 : Option Addr) (c0_3 : Nat) (l0_3 : List Int) (A0_4 : Option Addr) (c0_4 : Nat) (l0_4 : List Int) (r : List Int) (w : World) (hr0_3 : Kd.C (Kd.int .u8) w A0_3 l0_3.length l0_3) (hc0_3 : l0_3.length ≤ c0_3) (hr0_4 : Kd.C (Kd.int .u8) w A0_4 l0_4.length l0_4) (hc0_4 : l0_4.length ≤ c0_4) (h : xk.f k a0_0 a0_1 a0_2 l0_3 l0_4 = some r) :
  Calls Try.prog 29 #[.agg #[.int .i64 a0_0,.string a0_1,.string a0_2,.slice A0_3 l0_3.length c0_3,.slice A0_4 l0_4.length c0_4]] w fun e w' => ∃ v0_ : Value,e = .returned (v0_) ∧ (r.length = 0 → v0_ = .slice none 0 0) ∧ Kd.R (Kd.int .u8) 5 w' w.heap.size (fun _ => True) v0_ r ∧ Below w.heap.size w w' := by
 have hu27 := Try.underlying27
 have HR0_3 := qq.mk hr0_3
 have HC0_3 := qq.mk hc0_3
 clear hr0_3 hc0_3
 have HR0_4 := qq.mk hr0_4
 have HC0_4 := qq.mk hc0_4
 clear hr0_4 hc0_4
 have HB := qq.mk (Below.refl w.heap.size w)
 have H : ((xj.f k a0_0 a0_1 a0_2 l0_3 l0_4).bind fun t102 => (if t102 = true then ((qqq.f a0_0).bind fun t106 => ((qqq.f (a0_0 / 4294967296)).bind fun t109 => ((bytesOfS.f a0_1).bind fun t112 => ((xz.f t112).bind fun t115 => ((xq.f k a0_0 a0_1 a0_2 l0_3 l0_4).bind fun t118 => ((qkq.f (([(([0] : List Int)),t106,t109,t115,t118] : List (List Int)))).bind fun t124 => ((xz.f t124).bind fun t127 => (some t127)))))))) else (some ([] : List Int)))) = some r := h
 clear h
 replace H := Option.bind_eq_some_iff.mp H
 obtain ⟨t102,A20,H⟩ := H
 replace H : (if t102 = true then ((qqq.f a0_0).bind fun t106 => ((qqq.f (a0_0 / 4294967296)).bind fun t109 => ((bytesOfS.f a0_1).bind fun t112 => ((xz.f t112).bind fun t115 => ((xq.f k a0_0 a0_1 a0_2 l0_3 l0_4).bind fun t118 => ((qkq.f (([(([0] : List Int)),t106,t109,t115,t118] : List (List Int)))).bind fun t124 => ((xz.f t124).bind fun t127 => (some t127)))))))) else (some ([] : List Int))) = some r := H
 have A2 := qq.mk A20
 clear A20
 by_cases c3 : t102 = true
 ·subst c3
  have H1 : ((qqq.f a0_0).bind fun t106 => ((qqq.f (a0_0 / 4294967296)).bind fun t109 => ((bytesOfS.f a0_1).bind fun t112 => ((xz.f t112).bind fun t115 => ((xq.f k a0_0 a0_1 a0_2 l0_3 l0_4).bind fun t118 => ((qkq.f (([(([0] : List Int)),t106,t109,t115,t118] : List (List Int)))).bind fun t124 => ((xz.f t124).bind fun t127 => (some t127)))))))) = some r := by rw [if_pos rfl] at H;exact H
  clear H
  have H := H1
  clear H1
  obtain ⟨y103,hy103⟩ : ∃ y_ : List Int,y_ = (([0] : List Int)) := ⟨_,rfl⟩
  replace H : ((qqq.f a0_0).bind fun t106 => ((qqq.f (a0_0 / 4294967296)).bind fun t109 => ((bytesOfS.f a0_1).bind fun t112 => ((xz.f t112).bind fun t115 => ((xq.f k a0_0 a0_1 a0_2 l0_3 l0_4).bind fun t118 => ((qkq.f (([y103,t106,t109,t115,t118] : List (List Int)))).bind fun t124 => ((xz.f t124).bind fun t127 => (some t127)))))))) = some r := by first | (rw [hy103];with_reducible exact H) | (have H2_ := (Option.bind_some _ _).symm.trans H;rw [hy103];with_reducible exact H2_) | (have H2_ := (Option.bind_some _ _).symm.trans H;with_reducible exact H2_) | with_reducible exact H | (rw [hy103];exact H) | exact H
  have Ny103 := qq.mk hy103
  clear hy103
  replace H := Option.bind_eq_some_iff.mp H
  obtain ⟨t106,A40,H⟩ := H
  replace H : ((qqq.f (a0_0 / 4294967296)).bind fun t109 => ((bytesOfS.f a0_1).bind fun t112 => ((xz.f t112).bind fun t115 => ((xq.f k a0_0 a0_1 a0_2 l0_3 l0_4).bind fun t118 => ((qkq.f (([y103,t106,t109,t115,t118] : List (List Int)))).bind fun t124 => ((xz.f t124).bind fun t127 => (some t127))))))) = some r := H
  have A4 := qq.mk A40
  clear A40
  replace H := Option.bind_eq_some_iff.mp H
  obtain ⟨t109,A50,H⟩ := H
  replace H : ((bytesOfS.f a0_1).bind fun t112 => ((xz.f t112).bind fun t115 => ((xq.f k a0_0 a0_1 a0_2 l0_3 l0_4).bind fun t118 => ((qkq.f (([y103,t106,t109,t115,t118] : List (List Int)))).bind fun t124 => ((xz.f t124).bind fun t127 => (some t127)))))) = some r := H
  have A5 := qq.mk A50
  clear A50
  replace H := Option.bind_eq_some_iff.mp H
  obtain ⟨t112,A60,H⟩ := H
  replace H : ((xz.f t112).bind fun t115 => ((xq.f k a0_0 a0_1 a0_2 l0_3 l0_4).bind fun t118 => ((qkq.f (([y103,t106,t109,t115,t118] : List (List Int)))).bind fun t124 => ((xz.f t124).bind fun t127 => (some t127))))) = some r := H
  have A6 := qq.mk A60
  clear A60
  replace H := Option.bind_eq_some_iff.mp H
  obtain ⟨t115,A70,H⟩ := H
  replace H : ((xq.f k a0_0 a0_1 a0_2 l0_3 l0_4).bind fun t118 => ((qkq.f (([y103,t106,t109,t115,t118] : List (List Int)))).bind fun t124 => ((xz.f t124).bind fun t127 => (some t127)))) = some r := H
  have A7 := qq.mk A70
  clear A70
  replace H := Option.bind_eq_some_iff.mp H
  obtain ⟨t118,A80,H⟩ := H
  replace H : ((qkq.f (([y103,t106,t109,t115,t118] : List (List Int)))).bind fun t124 => ((xz.f t124).bind fun t127 => (some t127))) = some r := H
  have A8 := qq.mk A80
  clear A80
  obtain ⟨y121,hy121⟩ : ∃ y_ : List (List Int),y_ = (([y103,t106,t109,t115,t118] : List (List Int))) := ⟨_,rfl⟩
  replace H : ((qkq.f y121).bind fun t124 => ((xz.f t124).bind fun t127 => (some t127))) = some r := by first | (rw [hy121];with_reducible exact H) | (have H2_ := (Option.bind_some _ _).symm.trans H;rw [hy121];with_reducible exact H2_) | (have H2_ := (Option.bind_some _ _).symm.trans H;with_reducible exact H2_) | with_reducible exact H | (rw [hy121];exact H) | exact H
  have Ny121 := qq.mk hy121
  clear hy121
  replace H := Option.bind_eq_some_iff.mp H
  obtain ⟨t124,A90,H⟩ := H
  replace H : ((xz.f t124).bind fun t127 => (some t127)) = some r := H
  have A9 := qq.mk A90
  clear A90
  replace H := Option.bind_eq_some_iff.mp H
  obtain ⟨t127,A100,H⟩ := H
  replace H : (some t127) = some r := H
  have A10 := qq.mk A100
  clear A100
  obtain rfl := Option.some.inj H
  go_enter Try.func29,Try.ntmps29
  try go_wp2_with (first | ((with_reducible refine gate_dst (N := 1) rfl ?_);refine box_event ?hg (N := 1) ?hd (cs := #[.int .i64 a0_0,.string a0_1,.string a0_2,.slice A0_3 l0_3.length c0_3,.slice A0_4 l0_4.length c0_4]) (t := 27) ?hr ?_;(case hd => rfl);(case hg => rfl);(case hr => first | (go_simp;done) | (go_simp;rfl));intro gb101 hg w11 hbox hb;have n0_ := qq.mk (zv (by repeat (first | (with_reducible first | exact HB.out | apply qj | apply qz | apply qk) | exact HB.out)) hb);have n1_ := qq.mk (hbox);have n2_ := qq.mk ((by rw [hg];exact (zw (by repeat (first | (with_reducible first | exact HB.out | apply qj | apply qz | apply qk) | exact HB.out))) : w.heap.size ≤ gb101));have n3_ := qq.mk ((by rw [hg];exact (zw (by repeat (first | (with_reducible first | exact HB.out | apply qj | apply qz | apply qk) | exact HB.out))) : w.heap.size ≤ gb101));clear HB;have HB := n0_;have BK101 := n1_;have GW101 := n2_;have GE101 := n3_;clear n0_ n1_ n2_ n3_;clear hb hbox hg;have hcz12_0 : w11.cell? ⟨gb101,0,none⟩ = some (.int .i64 a0_0) := (qw BK101.out 0).trans rfl;have hcz12_1 : w11.cell? ⟨gb101,1,none⟩ = some (.string a0_1) := (qw BK101.out 1).trans rfl;have hcz12_2 : w11.cell? ⟨gb101,2,none⟩ = some (.string a0_2) := (qw BK101.out 2).trans rfl;have hcz12_3 : w11.cell? ⟨gb101,3,none⟩ = some (.slice A0_3 l0_3.length c0_3) := (qw BK101.out 3).trans rfl;have hcz12_4 : w11.cell? ⟨gb101,4,none⟩ = some (.slice A0_4 l0_4.length c0_4) := (qw BK101.out 4).trans rfl;have hfz12_0 := qv BK101.out 0;have hfz12_1 := qv BK101.out 1;have hfz12_2 := qv BK101.out 2;have hfz12_3 := qv BK101.out 3;have hfz12_4 := qv BK101.out 4) | ((with_reducible refine jv (f := 20) rfl ?_);refine goesL_ (some 4) rfl rfl Try.func20 (by kernel_rfl) rfl #[.agg #[.int .i64 a0_0,.string a0_1,.string a0_2,.slice A0_3 l0_3.length c0_3,.slice A0_4 l0_4.length c0_4]] rfl (by (try simp only [List.map_toArray,List.map_cons,List.map_nil]);first | done | rfl | (simp only [List.length_drop,List.length_take];rfl)) ?_;(with_reducible refine (xj.calls k a0_0 a0_1 a0_2 _ _ l0_3 _ _ l0_4 true _ ?side1 ?side2 ?side3 ?side4 A2.out).mono ?_);(case side1 => repeat (first | exact (Kd.C_below HR0_3.out HB.out) | (with_reducible refine Kd.C_alloc ?_ _) | (with_reducible refine Kd.C_drewN ?_ _) | (with_reducible refine Kd.C_drew ?_)));(case side2 => exact HC0_3.out);(case side3 => repeat (first | exact (Kd.C_below HR0_4.out HB.out) | (with_reducible refine Kd.C_alloc ?_ _) | (with_reducible refine Kd.C_drewN ?_ _) | (with_reducible refine Kd.C_drew ?_)));(case side4 => exact HC0_4.out);rintro e w13 ⟨rfl,hb⟩;refine ⟨_,rfl,?_⟩;have n0_ := qq.mk (vw (g := gb101) (o := .cells #[.int .i64 a0_0,.string a0_1,.string a0_2,.slice A0_3 l0_3.length c0_3,.slice A0_4 l0_4.length c0_4] 27 (0,0)) (by (with_reducible repeat (first | refine zz ?_ _ | refine zj ?_ | refine zq ?_ _));exact BK101.out) hb);have n1_ := qq.mk (zv (by repeat (first | (with_reducible first | exact HB.out | apply qj | apply qz | apply qk | refine qx ?_ GE101.out) | exact HB.out)) hb);clear BK101;clear HB;have BK101 := n0_;have HB := n1_;clear n0_ n1_;(try clear hb);(try clear hb2);(try clear hk);(try clear hi)))
  have n0_ := qq.mk (zj BK101.out)
  have n1_ := qq.mk (qk HB.out)
  clear BK101
  clear HB
  have BK101 := n0_
  have HB := n1_
  clear n0_ n1_
  refine start_ (n := 18) (S := fun w' => True) (ds := []) #[false,false,false,false,false,false,false,false,false,false,false,false,false,false,false,false,false,false] (by kernel_rfl) rfl rfl trivial (fun hHeld => ?_);refine with_tabW xk.tab3 xk.bits3 (fun HT_ HW_ => ?_)
  generalize w13.drew = w14 at BK101 HB hHeld ⊢
  refine pure_ (i := 1) (N := some 7) (v := ?_) (a' := ?_) #[false,true,false,false,false,false,false,false,false,false,false,false,false,false,false,false,false,false] rfl rfl (any_of HT_.out (by kernel_rfl)) (fun _ _ _ h => h) (Or.inl ⟨by rfl,?_⟩) ?_ ?_
  rotate_left
  ·intro w'
   go_simp
   with_reducible rfl
  rotate_left
  ·simp only [Act.put,List.setIfInBounds_toArray,List.set_cons_zero,List.set_cons_succ,i64_w,i32_w]
   rfl
  refine pure_ (i := 4) (N := some 10) (v := ?_) (a' := ?_) #[false,true,false,false,true,false,false,false,false,false,false,false,false,false,false,false,false,false] rfl rfl (any_of HT_.out (by kernel_rfl)) (fun _ _ _ h => h) (Or.inl ⟨by rfl,?_⟩) ?_ ?_
  rotate_left
  ·intro w'
   go_simp
   with_reducible rfl
  rotate_left
  ·simp only [Act.put,List.setIfInBounds_toArray,List.set_cons_zero,List.set_cons_succ,i64_w,i32_w]
   rfl
  refine pure_ (i := 8) (N := some 14) (v := ?_) (a' := ?_) #[false,true,false,false,true,false,false,false,true,false,false,false,false,false,false,false,false,false] rfl rfl (any_of HT_.out (by kernel_rfl)) (fun _ _ _ h => h) (Or.inl ⟨by rfl,?_⟩) ?_ ?_
  rotate_left
  ·intro w'
   go_simp
   with_reducible rfl
  rotate_left
  ·simp only [Act.put,List.setIfInBounds_toArray,List.set_cons_zero,List.set_cons_succ,i64_w,i32_w]
   rfl
  refine inv_at [0,2,3,5,6,7,9,10,11,12,13,14,15,16,17] (fun a0_ b a w' => ∃ (v104 : Value) (v107 : Value) (v110 : Value) (v113 : Value) (v116 : Value) (v119 : Value) (v122 : Value) (v125 : Value) (v128 : Value) (m17_ : Value),a = putSel a0_ b [(0,6,v104),(2,8,.int .i64 a0_0),(3,9,v107),(5,11,.int .i64 a0_0),(6,12,.int .i64 (a0_0 / 4294967296)),(7,13,v110),(9,15,.string a0_1),(10,16,v113),(11,17,v116),(12,18,.agg #[.int .i64 a0_0,.string a0_1,.string a0_2,.slice A0_3 l0_3.length c0_3,.slice A0_4 l0_4.length c0_4]),(13,19,v119),(14,20,v122),(15,21,v125),(16,22,v128),(17,2,m17_)] ∧ (w'.heap[gb101]? = some (.cells #[.int .i64 a0_0,.string a0_1,.string a0_2,.slice A0_3 l0_3.length c0_3,.slice A0_4 l0_4.length c0_4] 27 (0,0))) ∧ (Below w.heap.size w w') ∧ (b 0 = true → b 14 = false → Kd.R (Kd.int .u8) 5 w' w.heap.size (fun _ => True) v104 y103) ∧ (b 3 = true → b 14 = false → Kd.R (Kd.int .u8) 5 w' w.heap.size (fun _ => True) v107 t106) ∧ (b 7 = true → b 14 = false → Kd.R (Kd.int .u8) 5 w' w.heap.size (fun _ => True) v110 t109) ∧ (b 10 = true → Kd.V (Kd.int .u8) 5 w' w.heap.size (fun k_ => k_ ≠ gb101) v113 t112) ∧ (b 11 = true → b 14 = false → Kd.R (Kd.int .u8) 5 w' w.heap.size (fun _ => True) v116 t115) ∧ (b 13 = true → b 14 = false → Kd.R (Kd.int .u8) 5 w' w.heap.size (fun _ => True) v119 t118) ∧ (b 14 = true → Kd.N (Kd.slice 5 (Kd.int .u8)) 22 w' w.heap.size (fun k_ => k_ ≠ gb101) v122 y121) ∧ (b 15 = true → Kd.R (Kd.int .u8) 5 w' w.heap.size (fun _ => True) v125 t124) ∧ (b 16 = true → Kd.R (Kd.int .u8) 5 w' w.heap.size (fun _ => True) v128 t127) ∧ (b 17 = true → (m17_ : Value) = v128)) HT_.out HW_.out (by kernel_rfl) (by kernel_rfl) ?_ ?_ ?_
  ·exact ⟨.bool false,.bool false,.bool false,.bool false,.bool false,.bool false,.bool false,.bool false,.bool false,.bool false,by simp only [putSel,Bool.false_eq_true,if_false],BK101.out,HB.out,fun h_ => absurd h_ (by decide),fun h_ => absurd h_ (by decide),fun h_ => absurd h_ (by decide),fun h_ => absurd h_ (by decide),fun h_ => absurd h_ (by decide),fun h_ => absurd h_ (by decide),fun h_ => absurd h_ (by decide),fun h_ => absurd h_ (by decide),fun h_ => absurd h_ (by decide),fun h_ => absurd h_ (by decide)⟩
  ·skip
   clear BK101 HB
   refine steps_cons ?_ ?_
   ·rintro b a w' ⟨v104,v107,v110,v113,v116,v119,v122,v125,v128,m17_,ha,Q_BK101,Q_HB,Q_HO105,Q_HO108,Q_HO111,Q_HO114,Q_HO117,Q_HO120,Q_HO123,Q_HO126,Q_HO129,Q_X17_⟩ hb_ hon hoff
    refine ⟨_,rfl,fun K hK => ?_⟩
    replace ha := qq.mk ha
    have BK101 := qq.mk Q_BK101
    have HB := qq.mk Q_HB
    refine Kd.R_lit_step (Kd.int .u8) _ 5 ?hg (N := 6) ?hd (xs := ([0] : List Int)) (inner := [.int .u8 0]) (ok := fun _ => True) (okp := fun _ => True) ?hr ?hp (fun _ hk => by first | exact hk | trivial | (simp_all;done) | grind) trivial (Below.refl _ _) (Nat.le_refl _) (by simp) ?_;(case hd => rfl);(case hg => rfl);(case hr => first | (go_simp;done) | (go_simp;rfl));(case hp => exact (Reps.one (show Kd.M (Kd.int .u8) _ _ _ 0 [.int .u8 0] from rfl) (Reps.none _ _)))
    intro v104 w15 ho16 hb hg_ hnew_
    clear hg_ hnew_
    (first | rw [← Ny103.out] at ho16 | (simp only [Int.reduceToNat] at ho16;rw [← Ny103.out] at ho16))
    have n0_ := qq.mk (Kd.R_lower ho16 (zw (by repeat (first | (with_reducible first | exact HB.out | apply qj | apply qz | apply qk | refine qx ?_ GE101.out) | exact HB.out))))
    have n1_ := qq.mk (vw (g := gb101) (o := .cells #[.int .i64 a0_0,.string a0_1,.string a0_2,.slice A0_3 l0_3.length c0_3,.slice A0_4 l0_4.length c0_4] 27 (0,0)) (by (with_reducible repeat (first | refine zz ?_ _ | refine zj ?_ | refine zq ?_ _));exact BK101.out) hb)
    have n2_ := qq.mk (zv (by repeat (first | (with_reducible first | exact HB.out | apply qj | apply qz | apply qk | refine qx ?_ GE101.out) | exact HB.out)) hb)
    have z_HO108 := fun (h0_ : b 3 = true) (h1_ : b 14 = false) => (show Kd.R (Kd.int .u8) 5 w15 w.heap.size (fun _ => True) v107 t106 from by first | exact (Kd.R_elder' (by (with_reducible repeat (first | apply Kd.jq | apply Kd.zx | apply Kd.jz));exact (Q_HO108 h0_ h1_)) (Kd.R_base ho16) hb) | exact Kd.R_mono (Kd.R_elder' (by (with_reducible repeat (first | apply Kd.jq | apply Kd.zx | apply Kd.jz));exact (Q_HO108 h0_ h1_)) (Kd.R_base ho16) hb) (fun _ h_ => by first | trivial | exact h_ | exact h_.1))
    have z_HO111 := fun (h0_ : b 7 = true) (h1_ : b 14 = false) => (show Kd.R (Kd.int .u8) 5 w15 w.heap.size (fun _ => True) v110 t109 from by first | exact (Kd.R_elder' (by (with_reducible repeat (first | apply Kd.jq | apply Kd.zx | apply Kd.jz));exact (Q_HO111 h0_ h1_)) (Kd.R_base ho16) hb) | exact Kd.R_mono (Kd.R_elder' (by (with_reducible repeat (first | apply Kd.jq | apply Kd.zx | apply Kd.jz));exact (Q_HO111 h0_ h1_)) (Kd.R_base ho16) hb) (fun _ h_ => by first | trivial | exact h_ | exact h_.1))
    have z_HO114 := fun (h0_ : b 10 = true) => (show Kd.V (Kd.int .u8) 5 w15 w.heap.size (fun k_ => k_ ≠ gb101) v113 t112 from by first | exact (Kd.V_elder' (by (with_reducible repeat (first | apply Kd.vk | apply Kd.vz | apply Kd.vv));exact (Q_HO114 h0_)) (Kd.R_base ho16) hb) | exact Kd.V_mono (Kd.V_elder' (by (with_reducible repeat (first | apply Kd.vk | apply Kd.vz | apply Kd.vv));exact (Q_HO114 h0_)) (Kd.R_base ho16) hb) (fun _ h_ => by first | trivial | exact h_ | exact h_.1))
    have z_HO117 := fun (h0_ : b 11 = true) (h1_ : b 14 = false) => (show Kd.R (Kd.int .u8) 5 w15 w.heap.size (fun _ => True) v116 t115 from by first | exact (Kd.R_elder' (by (with_reducible repeat (first | apply Kd.jq | apply Kd.zx | apply Kd.jz));exact (Q_HO117 h0_ h1_)) (Kd.R_base ho16) hb) | exact Kd.R_mono (Kd.R_elder' (by (with_reducible repeat (first | apply Kd.jq | apply Kd.zx | apply Kd.jz));exact (Q_HO117 h0_ h1_)) (Kd.R_base ho16) hb) (fun _ h_ => by first | trivial | exact h_ | exact h_.1))
    have z_HO120 := fun (h0_ : b 13 = true) (h1_ : b 14 = false) => (show Kd.R (Kd.int .u8) 5 w15 w.heap.size (fun _ => True) v119 t118 from by first | exact (Kd.R_elder' (by (with_reducible repeat (first | apply Kd.jq | apply Kd.zx | apply Kd.jz));exact (Q_HO120 h0_ h1_)) (Kd.R_base ho16) hb) | exact Kd.R_mono (Kd.R_elder' (by (with_reducible repeat (first | apply Kd.jq | apply Kd.zx | apply Kd.jz));exact (Q_HO120 h0_ h1_)) (Kd.R_base ho16) hb) (fun _ h_ => by first | trivial | exact h_ | exact h_.1))
    clear BK101
    clear HB
    have HO105 := n0_
    have BK101 := n1_
    have HB := n2_
    clear n0_ n1_ n2_
    clear hb ho16
    refine hK.out _ _ ⟨v104,v107,v110,v113,v116,v119,v122,v125,v128,m17_,(by rw [ha.out];exact putSel_upk 0 hb_ rfl rfl rfl),(by (with_reducible repeat (first | refine zz ?_ _ | refine zj ?_ | refine zq ?_ _));exact BK101.out),(by repeat (first | (with_reducible first | exact HB.out | apply qj | apply qz | apply qk | refine qx ?_ GE101.out) | exact HB.out)),fun _ _ => (by (with_reducible repeat (first | apply Kd.jq | apply Kd.zx | apply Kd.jz));first | exact HO105.out | exact Kd.R_mono HO105.out (fun _ hk => by first | trivial | (simp_all;done) | grind)),z_HO108,z_HO111,z_HO114,z_HO117,z_HO120,fun h0_ => absurd ((hoff 14 (by kernel_rfl)).symm.trans h0_) (by decide),fun h0_ => absurd ((hoff 15 (by kernel_rfl)).symm.trans h0_) (by decide),fun h0_ => absurd ((hoff 16 (by kernel_rfl)).symm.trans h0_) (by decide),fun h0_ => absurd ((hoff 17 (by kernel_rfl)).symm.trans h0_) (by decide)⟩
   refine steps_cons ?_ ?_
   ·rintro b a w' ⟨v104,v107,v110,v113,v116,v119,v122,v125,v128,m17_,ha,Q_BK101,Q_HB,Q_HO105,Q_HO108,Q_HO111,Q_HO114,Q_HO117,Q_HO120,Q_HO123,Q_HO126,Q_HO129,Q_X17_⟩ hb_ hon hoff
    refine ⟨_,rfl,fun K hK => ?_⟩
    have e7 : a.tmps[7]? = some (.pointer (some ⟨gb101,0,none⟩)) := by rw [ha];exact (putSel_off rfl).trans rfl
    replace ha := qq.mk ha
    have BK101 := qq.mk Q_BK101
    have HB := qq.mk Q_HB
    have hc0_ : w'.cell? ⟨gb101,0,none⟩ = some (.int .i64 a0_0) := (qw BK101.out 0).trans rfl
    have hc1_ : w'.cell? ⟨gb101,1,none⟩ = some (.string a0_1) := (qw BK101.out 1).trans rfl
    have hc2_ : w'.cell? ⟨gb101,2,none⟩ = some (.string a0_2) := (qw BK101.out 2).trans rfl
    have hc3_ : w'.cell? ⟨gb101,3,none⟩ = some (.slice A0_3 l0_3.length c0_3) := (qw BK101.out 3).trans rfl
    have hc4_ : w'.cell? ⟨gb101,4,none⟩ = some (.slice A0_4 l0_4.length c0_4) := (qw BK101.out 4).trans rfl
    refine value_ (w1 := w') (v := .int .i64 a0_0) (by rfl) rfl ?_ ?_
    ·go_simp
     (try simp only [i64_w])
     try rfl
    refine hK.out _ _ ⟨v104,v107,v110,v113,v116,v119,v122,v125,v128,m17_,(by rw [ha.out];exact putSel_upk 1 hb_ rfl rfl rfl),Q_BK101,Q_HB,Q_HO105,fun h0_ _ => absurd ((hoff 3 (by kernel_rfl)).symm.trans h0_) (by decide),fun h0_ _ => absurd ((hoff 7 (by kernel_rfl)).symm.trans h0_) (by decide),Q_HO114,fun h0_ _ => absurd ((hoff 11 (by kernel_rfl)).symm.trans h0_) (by decide),fun h0_ _ => absurd ((hoff 13 (by kernel_rfl)).symm.trans h0_) (by decide),fun h0_ => absurd ((hoff 14 (by kernel_rfl)).symm.trans h0_) (by decide),fun h0_ => absurd ((hoff 15 (by kernel_rfl)).symm.trans h0_) (by decide),fun h0_ => absurd ((hoff 16 (by kernel_rfl)).symm.trans h0_) (by decide),fun h0_ => absurd ((hoff 17 (by kernel_rfl)).symm.trans h0_) (by decide)⟩
   refine steps_cons ?_ ?_
   ·rintro b a w' ⟨v104,v107,v110,v113,v116,v119,v122,v125,v128,m17_,ha,Q_BK101,Q_HB,Q_HO105,Q_HO108,Q_HO111,Q_HO114,Q_HO117,Q_HO120,Q_HO123,Q_HO126,Q_HO129,Q_X17_⟩ hb_ hon hoff
    refine ⟨_,rfl,fun K hK => ?_⟩
    have e8 : a.tmps[8]? = some (.int .i64 a0_0) := by rw [ha];exact putSel_on (e := (2,8,.int .i64 a0_0)) 1 rfl rfl (hon 2 (by kernel_rfl)) rfl
    replace ha := qq.mk ha
    have BK101 := qq.mk Q_BK101
    have HB := qq.mk Q_HB
    refine goes_ Try.func79 (by kernel_rfl) rfl #[.int .i64 a0_0] (by rfl) rfl rfl (by first | (simp only [List.map_toArray,List.map_cons,List.map_nil,Act.eval,Array.getD_eq_getD_getElem?,Option.getD_some,e8];done) | (simp only [List.map_toArray,List.map_cons,List.map_nil,Act.eval,Array.getD_eq_getD_getElem?,Option.getD_some,e8];rfl)) ?_
    with_reducible refine (qqq.calls a0_0 t106 _ A4.out).mono ?_
    rintro e w15 ⟨v107,rfl,ho0,hb⟩
    refine ⟨_,rfl,?_⟩
    have n0_ := qq.mk (Kd.R_lower ho0 (zw (by repeat (first | (with_reducible first | exact HB.out | apply qj | apply qz | apply qk | refine qx ?_ GE101.out) | exact HB.out))))
    have n1_ := qq.mk (vw (g := gb101) (o := .cells #[.int .i64 a0_0,.string a0_1,.string a0_2,.slice A0_3 l0_3.length c0_3,.slice A0_4 l0_4.length c0_4] 27 (0,0)) (by (with_reducible repeat (first | refine zz ?_ _ | refine zj ?_ | refine zq ?_ _));exact BK101.out) hb)
    have n2_ := qq.mk (zv (by repeat (first | (with_reducible first | exact HB.out | apply qj | apply qz | apply qk | refine qx ?_ GE101.out) | exact HB.out)) hb)
    have z_HO105 := fun (h0_ : b 0 = true) (h1_ : b 14 = false) => (show Kd.R (Kd.int .u8) 5 w15 w.heap.size (fun _ => True) v104 y103 from by first | exact (Kd.R_elder' (by (with_reducible repeat (first | apply Kd.jq | apply Kd.zx | apply Kd.jz));exact (Q_HO105 h0_ h1_)) (Kd.R_base ho0) hb) | exact Kd.R_mono (Kd.R_elder' (by (with_reducible repeat (first | apply Kd.jq | apply Kd.zx | apply Kd.jz));exact (Q_HO105 h0_ h1_)) (Kd.R_base ho0) hb) (fun _ h_ => by first | trivial | exact h_ | exact h_.1))
    have z_HO114 := fun (h0_ : b 10 = true) => (show Kd.V (Kd.int .u8) 5 w15 w.heap.size (fun k_ => k_ ≠ gb101) v113 t112 from by first | exact (Kd.V_elder' (by (with_reducible repeat (first | apply Kd.vk | apply Kd.vz | apply Kd.vv));exact (Q_HO114 h0_)) (Kd.R_base ho0) hb) | exact Kd.V_mono (Kd.V_elder' (by (with_reducible repeat (first | apply Kd.vk | apply Kd.vz | apply Kd.vv));exact (Q_HO114 h0_)) (Kd.R_base ho0) hb) (fun _ h_ => by first | trivial | exact h_ | exact h_.1))
    clear BK101
    clear HB
    have HO108 := n0_
    have BK101 := n1_
    have HB := n2_
    clear n0_ n1_ n2_
    (try clear hb)
    (try clear hb2)
    (try clear hk)
    (try clear hi)
    (try clear ho0)
    refine hK.out _ _ ⟨v104,v107,v110,v113,v116,v119,v122,v125,v128,m17_,(by rw [ha.out];exact putSel_upk 2 hb_ rfl rfl rfl),(by (with_reducible repeat (first | refine zz ?_ _ | refine zj ?_ | refine zq ?_ _));exact BK101.out),(by repeat (first | (with_reducible first | exact HB.out | apply qj | apply qz | apply qk | refine qx ?_ GE101.out) | exact HB.out)),z_HO105,fun _ _ => (by (with_reducible repeat (first | apply Kd.jq | apply Kd.zx | apply Kd.jz));first | exact HO108.out | exact Kd.R_mono HO108.out (fun _ hk => by first | trivial | (simp_all;done) | grind)),fun h0_ _ => absurd ((hoff 7 (by kernel_rfl)).symm.trans h0_) (by decide),z_HO114,fun h0_ _ => absurd ((hoff 11 (by kernel_rfl)).symm.trans h0_) (by decide),fun h0_ _ => absurd ((hoff 13 (by kernel_rfl)).symm.trans h0_) (by decide),fun h0_ => absurd ((hoff 14 (by kernel_rfl)).symm.trans h0_) (by decide),fun h0_ => absurd ((hoff 15 (by kernel_rfl)).symm.trans h0_) (by decide),fun h0_ => absurd ((hoff 16 (by kernel_rfl)).symm.trans h0_) (by decide),fun h0_ => absurd ((hoff 17 (by kernel_rfl)).symm.trans h0_) (by decide)⟩
   refine steps_cons ?_ ?_
   ·rintro b a w' ⟨v104,v107,v110,v113,v116,v119,v122,v125,v128,m17_,ha,Q_BK101,Q_HB,Q_HO105,Q_HO108,Q_HO111,Q_HO114,Q_HO117,Q_HO120,Q_HO123,Q_HO126,Q_HO129,Q_X17_⟩ hb_ hon hoff
    refine ⟨_,rfl,fun K hK => ?_⟩
    have e10 : a.tmps[10]? = some (.pointer (some ⟨gb101,0,none⟩)) := by rw [ha];exact (putSel_off rfl).trans rfl
    replace ha := qq.mk ha
    have BK101 := qq.mk Q_BK101
    have HB := qq.mk Q_HB
    have hc0_ : w'.cell? ⟨gb101,0,none⟩ = some (.int .i64 a0_0) := (qw BK101.out 0).trans rfl
    have hc1_ : w'.cell? ⟨gb101,1,none⟩ = some (.string a0_1) := (qw BK101.out 1).trans rfl
    have hc2_ : w'.cell? ⟨gb101,2,none⟩ = some (.string a0_2) := (qw BK101.out 2).trans rfl
    have hc3_ : w'.cell? ⟨gb101,3,none⟩ = some (.slice A0_3 l0_3.length c0_3) := (qw BK101.out 3).trans rfl
    have hc4_ : w'.cell? ⟨gb101,4,none⟩ = some (.slice A0_4 l0_4.length c0_4) := (qw BK101.out 4).trans rfl
    refine value_ (w1 := w') (v := .int .i64 a0_0) (by rfl) rfl ?_ ?_
    ·go_simp
     (try simp only [i64_w])
     try rfl
    refine hK.out _ _ ⟨v104,v107,v110,v113,v116,v119,v122,v125,v128,m17_,(by rw [ha.out];exact putSel_upk 3 hb_ rfl rfl rfl),Q_BK101,Q_HB,Q_HO105,Q_HO108,fun h0_ _ => absurd ((hoff 7 (by kernel_rfl)).symm.trans h0_) (by decide),Q_HO114,fun h0_ _ => absurd ((hoff 11 (by kernel_rfl)).symm.trans h0_) (by decide),fun h0_ _ => absurd ((hoff 13 (by kernel_rfl)).symm.trans h0_) (by decide),fun h0_ => absurd ((hoff 14 (by kernel_rfl)).symm.trans h0_) (by decide),fun h0_ => absurd ((hoff 15 (by kernel_rfl)).symm.trans h0_) (by decide),fun h0_ => absurd ((hoff 16 (by kernel_rfl)).symm.trans h0_) (by decide),fun h0_ => absurd ((hoff 17 (by kernel_rfl)).symm.trans h0_) (by decide)⟩
   refine steps_cons ?_ ?_
   ·rintro b a w' ⟨v104,v107,v110,v113,v116,v119,v122,v125,v128,m17_,ha,Q_BK101,Q_HB,Q_HO105,Q_HO108,Q_HO111,Q_HO114,Q_HO117,Q_HO120,Q_HO123,Q_HO126,Q_HO129,Q_X17_⟩ hb_ hon hoff
    refine ⟨_,rfl,fun K hK => ?_⟩
    have e11 : a.tmps[11]? = some (.int .i64 a0_0) := by rw [ha];exact putSel_on (e := (5,11,.int .i64 a0_0)) 3 rfl rfl (hon 5 (by kernel_rfl)) rfl
    replace ha := qq.mk ha
    have BK101 := qq.mk Q_BK101
    have HB := qq.mk Q_HB
    refine value_ (w1 := w') (v := .int .i64 (a0_0 / 4294967296)) (by rfl) rfl ?_ ?_
    ·go_simp
     (try simp only [i64_w])
     try rfl
    refine hK.out _ _ ⟨v104,v107,v110,v113,v116,v119,v122,v125,v128,m17_,(by rw [ha.out];exact putSel_upk 4 hb_ rfl rfl rfl),Q_BK101,Q_HB,Q_HO105,Q_HO108,fun h0_ _ => absurd ((hoff 7 (by kernel_rfl)).symm.trans h0_) (by decide),Q_HO114,fun h0_ _ => absurd ((hoff 11 (by kernel_rfl)).symm.trans h0_) (by decide),fun h0_ _ => absurd ((hoff 13 (by kernel_rfl)).symm.trans h0_) (by decide),fun h0_ => absurd ((hoff 14 (by kernel_rfl)).symm.trans h0_) (by decide),fun h0_ => absurd ((hoff 15 (by kernel_rfl)).symm.trans h0_) (by decide),fun h0_ => absurd ((hoff 16 (by kernel_rfl)).symm.trans h0_) (by decide),fun h0_ => absurd ((hoff 17 (by kernel_rfl)).symm.trans h0_) (by decide)⟩
   refine steps_cons ?_ ?_
   ·rintro b a w' ⟨v104,v107,v110,v113,v116,v119,v122,v125,v128,m17_,ha,Q_BK101,Q_HB,Q_HO105,Q_HO108,Q_HO111,Q_HO114,Q_HO117,Q_HO120,Q_HO123,Q_HO126,Q_HO129,Q_X17_⟩ hb_ hon hoff
    refine ⟨_,rfl,fun K hK => ?_⟩
    have e12 : a.tmps[12]? = some (.int .i64 (a0_0 / 4294967296)) := by rw [ha];exact putSel_on (e := (6,12,.int .i64 (a0_0 / 4294967296))) 4 rfl rfl (hon 6 (by kernel_rfl)) rfl
    replace ha := qq.mk ha
    have BK101 := qq.mk Q_BK101
    have HB := qq.mk Q_HB
    have HO108 := qq.mk (Q_HO108 (hon 3 (by kernel_rfl)) (hoff 14 (by kernel_rfl)))
    refine goes_ Try.func79 (by kernel_rfl) rfl #[.int .i64 (a0_0 / 4294967296)] (by rfl) rfl rfl (by first | (simp only [List.map_toArray,List.map_cons,List.map_nil,Act.eval,Array.getD_eq_getD_getElem?,Option.getD_some,e12];done) | (simp only [List.map_toArray,List.map_cons,List.map_nil,Act.eval,Array.getD_eq_getD_getElem?,Option.getD_some,e12];rfl)) ?_
    with_reducible refine (qqq.calls (a0_0 / 4294967296) t109 _ A5.out).mono ?_
    rintro e w17 ⟨v110,rfl,ho0,hb⟩
    refine ⟨_,rfl,?_⟩
    have n0_ := qq.mk (Kd.R_elder' (by (with_reducible repeat (first | apply Kd.jq | apply Kd.zx | apply Kd.jz));first | exact HO108.out | exact Kd.R_mono HO108.out (fun _ hk => by first | trivial | (simp_all;done) | grind)) (Kd.R_base ho0) hb)
    have n1_ := qq.mk (Kd.R_lower (Kd.R_new' ho0 (Kd.R_lt (by (with_reducible repeat (first | apply Kd.jq | apply Kd.zx | apply Kd.jz));first | exact HO108.out | exact Kd.R_mono HO108.out (fun _ hk => by first | trivial | (simp_all;done) | grind)))) (zw (by repeat (first | (with_reducible first | exact HB.out | apply qj | apply qz | apply qk | refine qx ?_ GE101.out) | exact HB.out))))
    have n2_ := qq.mk (vw (g := gb101) (o := .cells #[.int .i64 a0_0,.string a0_1,.string a0_2,.slice A0_3 l0_3.length c0_3,.slice A0_4 l0_4.length c0_4] 27 (0,0)) (by (with_reducible repeat (first | refine zz ?_ _ | refine zj ?_ | refine zq ?_ _));exact BK101.out) hb)
    have n3_ := qq.mk (zv (by repeat (first | (with_reducible first | exact HB.out | apply qj | apply qz | apply qk | refine qx ?_ GE101.out) | exact HB.out)) hb)
    have z_HO105 := fun (h0_ : b 0 = true) (h1_ : b 14 = false) => (show Kd.R (Kd.int .u8) 5 w17 w.heap.size (fun _ => True) v104 y103 from by first | exact (Kd.R_elder' (by (with_reducible repeat (first | apply Kd.jq | apply Kd.zx | apply Kd.jz));exact (Q_HO105 h0_ h1_)) (Kd.R_base ho0) hb) | exact Kd.R_mono (Kd.R_elder' (by (with_reducible repeat (first | apply Kd.jq | apply Kd.zx | apply Kd.jz));exact (Q_HO105 h0_ h1_)) (Kd.R_base ho0) hb) (fun _ h_ => by first | trivial | exact h_ | exact h_.1))
    have z_HO114 := fun (h0_ : b 10 = true) => (show Kd.V (Kd.int .u8) 5 w17 w.heap.size (fun k_ => k_ ≠ gb101) v113 t112 from by first | exact (Kd.V_elder' (by (with_reducible repeat (first | apply Kd.vk | apply Kd.vz | apply Kd.vv));exact (Q_HO114 h0_)) (Kd.R_base ho0) hb) | exact Kd.V_mono (Kd.V_elder' (by (with_reducible repeat (first | apply Kd.vk | apply Kd.vz | apply Kd.vv));exact (Q_HO114 h0_)) (Kd.R_base ho0) hb) (fun _ h_ => by first | trivial | exact h_ | exact h_.1))
    clear HO108
    clear BK101
    clear HB
    have HO108 := n0_
    have HO111 := n1_
    have BK101 := n2_
    have HB := n3_
    clear n0_ n1_ n2_ n3_
    (try clear hb)
    (try clear hb2)
    (try clear hk)
    (try clear hi)
    (try clear ho0)
    refine hK.out _ _ ⟨v104,v107,v110,v113,v116,v119,v122,v125,v128,m17_,(by rw [ha.out];exact putSel_upk 5 hb_ rfl rfl rfl),(by (with_reducible repeat (first | refine zz ?_ _ | refine zj ?_ | refine zq ?_ _));exact BK101.out),(by repeat (first | (with_reducible first | exact HB.out | apply qj | apply qz | apply qk | refine qx ?_ GE101.out) | exact HB.out)),z_HO105,fun _ _ => (by (with_reducible repeat (first | apply Kd.jq | apply Kd.zx | apply Kd.jz));exact Kd.R_mono HO108.out (fun _ hk => by first | exact hk.2 | trivial | (simp_all;done) | grind)),fun _ _ => (by (with_reducible repeat (first | apply Kd.jq | apply Kd.zx | apply Kd.jz));exact Kd.R_mono HO111.out (fun _ hk => by first | exact hk.2 | trivial | (simp_all;done) | grind)),z_HO114,fun h0_ _ => absurd ((hoff 11 (by kernel_rfl)).symm.trans h0_) (by decide),fun h0_ _ => absurd ((hoff 13 (by kernel_rfl)).symm.trans h0_) (by decide),fun h0_ => absurd ((hoff 14 (by kernel_rfl)).symm.trans h0_) (by decide),fun h0_ => absurd ((hoff 15 (by kernel_rfl)).symm.trans h0_) (by decide),fun h0_ => absurd ((hoff 16 (by kernel_rfl)).symm.trans h0_) (by decide),fun h0_ => absurd ((hoff 17 (by kernel_rfl)).symm.trans h0_) (by decide)⟩
   refine steps_cons ?_ ?_
   ·rintro b a w' ⟨v104,v107,v110,v113,v116,v119,v122,v125,v128,m17_,ha,Q_BK101,Q_HB,Q_HO105,Q_HO108,Q_HO111,Q_HO114,Q_HO117,Q_HO120,Q_HO123,Q_HO126,Q_HO129,Q_X17_⟩ hb_ hon hoff
    refine ⟨_,rfl,fun K hK => ?_⟩
    have e14 : a.tmps[14]? = some (.pointer (some ⟨gb101,1,none⟩)) := by rw [ha];exact (putSel_off rfl).trans rfl
    replace ha := qq.mk ha
    have BK101 := qq.mk Q_BK101
    have HB := qq.mk Q_HB
    have hc0_ : w'.cell? ⟨gb101,0,none⟩ = some (.int .i64 a0_0) := (qw BK101.out 0).trans rfl
    have hc1_ : w'.cell? ⟨gb101,1,none⟩ = some (.string a0_1) := (qw BK101.out 1).trans rfl
    have hc2_ : w'.cell? ⟨gb101,2,none⟩ = some (.string a0_2) := (qw BK101.out 2).trans rfl
    have hc3_ : w'.cell? ⟨gb101,3,none⟩ = some (.slice A0_3 l0_3.length c0_3) := (qw BK101.out 3).trans rfl
    have hc4_ : w'.cell? ⟨gb101,4,none⟩ = some (.slice A0_4 l0_4.length c0_4) := (qw BK101.out 4).trans rfl
    refine value_ (w1 := w') (v := .string a0_1) (by rfl) rfl ?_ ?_
    ·go_simp
     (try simp only [i64_w])
     try rfl
    refine hK.out _ _ ⟨v104,v107,v110,v113,v116,v119,v122,v125,v128,m17_,(by rw [ha.out];exact putSel_upk 6 hb_ rfl rfl rfl),Q_BK101,Q_HB,Q_HO105,Q_HO108,Q_HO111,fun h0_ => absurd ((hoff 10 (by kernel_rfl)).symm.trans h0_) (by decide),fun h0_ _ => absurd ((hoff 11 (by kernel_rfl)).symm.trans h0_) (by decide),fun h0_ _ => absurd ((hoff 13 (by kernel_rfl)).symm.trans h0_) (by decide),fun h0_ => absurd ((hoff 14 (by kernel_rfl)).symm.trans h0_) (by decide),fun h0_ => absurd ((hoff 15 (by kernel_rfl)).symm.trans h0_) (by decide),fun h0_ => absurd ((hoff 16 (by kernel_rfl)).symm.trans h0_) (by decide),fun h0_ => absurd ((hoff 17 (by kernel_rfl)).symm.trans h0_) (by decide)⟩
   refine steps_cons ?_ ?_
   ·rintro b a w' ⟨v104,v107,v110,v113,v116,v119,v122,v125,v128,m17_,ha,Q_BK101,Q_HB,Q_HO105,Q_HO108,Q_HO111,Q_HO114,Q_HO117,Q_HO120,Q_HO123,Q_HO126,Q_HO129,Q_X17_⟩ hb_ hon hoff
    refine ⟨_,rfl,fun K hK => ?_⟩
    have e15 : a.tmps[15]? = some (.string a0_1) := by rw [ha];exact putSel_on (e := (9,15,.string a0_1)) 6 rfl rfl (hon 9 (by kernel_rfl)) rfl
    replace ha := qq.mk ha
    have BK101 := qq.mk Q_BK101
    have HB := qq.mk Q_HB
    refine bytesGoes_ (s := a0_1) (by rfl) rfl rfl (by first | (simp only [List.map_toArray,List.map_cons,List.map_nil,Act.eval,Array.getD_eq_getD_getElem?,Option.getD_some,e15];done) | (simp only [List.map_toArray,List.map_cons,List.map_nil,Act.eval,Array.getD_eq_getD_getElem?,Option.getD_some,e15];rfl)) ?_
    with_reducible refine (bytesOfS.calls a0_1 t112 _ A6.out).mono ?_
    rintro e w15 ⟨v113,rfl,ho0,hb⟩
    refine ⟨_,rfl,?_⟩
    have n0_ := qq.mk (Kd.V_lower (Kd.V_mono (ok' := fun k_ => k_ ≠ gb101) ho0 (fun k_ hk_ => (Kd.freshB (g := gb101) (o := .cells #[.int .i64 a0_0,.string a0_1,.string a0_2,.slice A0_3 l0_3.length c0_3,.slice A0_4 l0_4.length c0_4] 27 (0,0)) (by (with_reducible repeat (first | refine zz ?_ _ | refine zj ?_ | refine zq ?_ _));exact BK101.out) k_ hk_))) (zw (by repeat (first | (with_reducible first | exact HB.out | apply qj | apply qz | apply qk | refine qx ?_ GE101.out) | exact HB.out))))
    have n1_ := qq.mk (vw (g := gb101) (o := .cells #[.int .i64 a0_0,.string a0_1,.string a0_2,.slice A0_3 l0_3.length c0_3,.slice A0_4 l0_4.length c0_4] 27 (0,0)) (by (with_reducible repeat (first | refine zz ?_ _ | refine zj ?_ | refine zq ?_ _));exact BK101.out) hb)
    have n2_ := qq.mk (zv (by repeat (first | (with_reducible first | exact HB.out | apply qj | apply qz | apply qk | refine qx ?_ GE101.out) | exact HB.out)) hb)
    have z_HO105 := fun (h0_ : b 0 = true) (h1_ : b 14 = false) => (show Kd.R (Kd.int .u8) 5 w15 w.heap.size (fun _ => True) v104 y103 from by first | exact (Kd.R_below (by (with_reducible repeat (first | apply Kd.jq | apply Kd.zx | apply Kd.jz));exact (Q_HO105 h0_ h1_)) hb) | exact Kd.R_mono (Kd.R_below (by (with_reducible repeat (first | apply Kd.jq | apply Kd.zx | apply Kd.jz));exact (Q_HO105 h0_ h1_)) hb) (fun _ h_ => by first | trivial | exact h_ | exact h_.1))
    have z_HO108 := fun (h0_ : b 3 = true) (h1_ : b 14 = false) => (show Kd.R (Kd.int .u8) 5 w15 w.heap.size (fun _ => True) v107 t106 from by first | exact (Kd.R_below (by (with_reducible repeat (first | apply Kd.jq | apply Kd.zx | apply Kd.jz));exact (Q_HO108 h0_ h1_)) hb) | exact Kd.R_mono (Kd.R_below (by (with_reducible repeat (first | apply Kd.jq | apply Kd.zx | apply Kd.jz));exact (Q_HO108 h0_ h1_)) hb) (fun _ h_ => by first | trivial | exact h_ | exact h_.1))
    have z_HO111 := fun (h0_ : b 7 = true) (h1_ : b 14 = false) => (show Kd.R (Kd.int .u8) 5 w15 w.heap.size (fun _ => True) v110 t109 from by first | exact (Kd.R_below (by (with_reducible repeat (first | apply Kd.jq | apply Kd.zx | apply Kd.jz));exact (Q_HO111 h0_ h1_)) hb) | exact Kd.R_mono (Kd.R_below (by (with_reducible repeat (first | apply Kd.jq | apply Kd.zx | apply Kd.jz));exact (Q_HO111 h0_ h1_)) hb) (fun _ h_ => by first | trivial | exact h_ | exact h_.1))
    clear BK101
    clear HB
    have HO114 := n0_
    have BK101 := n1_
    have HB := n2_
    clear n0_ n1_ n2_
    (try clear hb)
    (try clear hb2)
    (try clear hk)
    (try clear hi)
    (try clear ho0)
    refine hK.out _ _ ⟨v104,v107,v110,v113,v116,v119,v122,v125,v128,m17_,(by rw [ha.out];exact putSel_upk 7 hb_ rfl rfl rfl),(by (with_reducible repeat (first | refine zz ?_ _ | refine zj ?_ | refine zq ?_ _));exact BK101.out),(by repeat (first | (with_reducible first | exact HB.out | apply qj | apply qz | apply qk | refine qx ?_ GE101.out) | exact HB.out)),z_HO105,z_HO108,z_HO111,fun _ => (by (with_reducible repeat (first | apply Kd.vk | apply Kd.vz | apply Kd.vv));first | exact HO114.out | exact Kd.V_mono HO114.out (fun _ hk => by first | trivial | (simp_all;done) | grind)),fun h0_ _ => absurd ((hoff 11 (by kernel_rfl)).symm.trans h0_) (by decide),fun h0_ _ => absurd ((hoff 13 (by kernel_rfl)).symm.trans h0_) (by decide),fun h0_ => absurd ((hoff 14 (by kernel_rfl)).symm.trans h0_) (by decide),fun h0_ => absurd ((hoff 15 (by kernel_rfl)).symm.trans h0_) (by decide),fun h0_ => absurd ((hoff 16 (by kernel_rfl)).symm.trans h0_) (by decide),fun h0_ => absurd ((hoff 17 (by kernel_rfl)).symm.trans h0_) (by decide)⟩
   refine steps_cons ?_ ?_
   ·rintro b a w' ⟨v104,v107,v110,v113,v116,v119,v122,v125,v128,m17_,ha,Q_BK101,Q_HB,Q_HO105,Q_HO108,Q_HO111,Q_HO114,Q_HO117,Q_HO120,Q_HO123,Q_HO126,Q_HO129,Q_X17_⟩ hb_ hon hoff
    refine ⟨_,rfl,fun K hK => ?_⟩
    have e16 : a.tmps[16]? = some (v113) := by rw [ha];exact putSel_on (e := (10,16,v113)) 7 rfl rfl (hon 10 (by kernel_rfl)) rfl
    replace ha := qq.mk ha
    have BK101 := qq.mk Q_BK101
    have HB := qq.mk Q_HB
    have HO108 := qq.mk (Q_HO108 (hon 3 (by kernel_rfl)) (hoff 14 (by kernel_rfl)))
    have HO111 := qq.mk (Q_HO111 (hon 7 (by kernel_rfl)) (hoff 14 (by kernel_rfl)))
    have HO114 := qq.mk (Q_HO114 (hon 10 (by kernel_rfl)))
    obtain ⟨Ao19,co19,eo19⟩ := Kd.V_slice HO114.out
    (first | subst eo19 | (injection eo19 with f1_ f2_ f3_;have f4_ := f1_.symm;have f5_ := f3_.symm;clear f1_ f2_ f3_;subst f4_;subst f5_))
    refine goes_ Try.func77 (by kernel_rfl) rfl #[.slice Ao19 t112.length co19] (by rfl) rfl rfl (by first | (simp only [List.map_toArray,List.map_cons,List.map_nil,Act.eval,Array.getD_eq_getD_getElem?,Option.getD_some,e16];done) | (simp only [List.map_toArray,List.map_cons,List.map_nil,Act.eval,Array.getD_eq_getD_getElem?,Option.getD_some,e16];rfl)) ?_
    with_reducible refine (xz.calls _ _ t112 t115 _ ?side1 ?side2 A7.out).mono ?_
    (case side1 => repeat (first | exact (Kd.V_reads' HO114.out).2.2 | (with_reducible refine Kd.C_alloc ?_ _) | (with_reducible refine Kd.C_drewN ?_ _) | (with_reducible refine Kd.C_drew ?_)))
    (case side2 => exact (Kd.V_reads' HO114.out).2.1)
    rintro e w20 ⟨v116,rfl,ho0,hb⟩
    refine ⟨_,rfl,?_⟩
    have n0_ := qq.mk (Kd.R_elder' (by (with_reducible repeat (first | apply Kd.jq | apply Kd.zx | apply Kd.jz));first | exact HO108.out | exact Kd.R_mono HO108.out (fun _ hk => by first | trivial | (simp_all;done) | grind)) (Kd.R_base ho0) hb)
    have n1_ := qq.mk (Kd.R_elder' (by (with_reducible repeat (first | apply Kd.jq | apply Kd.zx | apply Kd.jz));first | exact HO111.out | exact Kd.R_mono HO111.out (fun _ hk => by first | trivial | (simp_all;done) | grind)) (Kd.R_base ho0) hb)
    have n2_ := qq.mk (Kd.V_elder' (by (with_reducible repeat (first | apply Kd.vk | apply Kd.vz | apply Kd.vv));first | exact HO114.out | exact Kd.V_mono HO114.out (fun _ hk => by first | trivial | (simp_all;done) | grind)) (Kd.R_base ho0) hb)
    have n3_ := qq.mk (Kd.R_lower (Kd.R_new' (Kd.R_new' ho0 (Kd.R_lt (by (with_reducible repeat (first | apply Kd.jq | apply Kd.zx | apply Kd.jz));first | exact HO108.out | exact Kd.R_mono HO108.out (fun _ hk => by first | trivial | (simp_all;done) | grind)))) (Kd.R_lt (by (with_reducible repeat (first | apply Kd.jq | apply Kd.zx | apply Kd.jz));first | exact HO111.out | exact Kd.R_mono HO111.out (fun _ hk => by first | trivial | (simp_all;done) | grind)))) (zw (by repeat (first | (with_reducible first | exact HB.out | apply qj | apply qz | apply qk | refine qx ?_ GE101.out) | exact HB.out))))
    have n4_ := qq.mk (vw (g := gb101) (o := .cells #[.int .i64 a0_0,.string a0_1,.string a0_2,.slice A0_3 l0_3.length c0_3,.slice A0_4 l0_4.length c0_4] 27 (0,0)) (by (with_reducible repeat (first | refine zz ?_ _ | refine zj ?_ | refine zq ?_ _));exact BK101.out) hb)
    have n5_ := qq.mk (zv (by repeat (first | (with_reducible first | exact HB.out | apply qj | apply qz | apply qk | refine qx ?_ GE101.out) | exact HB.out)) hb)
    have z_HO105 := fun (h0_ : b 0 = true) (h1_ : b 14 = false) => (show Kd.R (Kd.int .u8) 5 w20 w.heap.size (fun _ => True) v104 y103 from by first | exact (Kd.R_elder' (by (with_reducible repeat (first | apply Kd.jq | apply Kd.zx | apply Kd.jz));exact (Q_HO105 h0_ h1_)) (Kd.R_base ho0) hb) | exact Kd.R_mono (Kd.R_elder' (by (with_reducible repeat (first | apply Kd.jq | apply Kd.zx | apply Kd.jz));exact (Q_HO105 h0_ h1_)) (Kd.R_base ho0) hb) (fun _ h_ => by first | trivial | exact h_ | exact h_.1))
    clear HO108
    clear HO111
    clear HO114
    clear BK101
    clear HB
    have HO108 := n0_
    have HO111 := n1_
    have HO114 := n2_
    have HO117 := n3_
    have BK101 := n4_
    have HB := n5_
    clear n0_ n1_ n2_ n3_ n4_ n5_
    (try clear hb)
    (try clear hb2)
    (try clear hk)
    (try clear hi)
    (try clear ho0)
    refine hK.out _ _ ⟨v104,v107,v110,.slice Ao19 t112.length co19,v116,v119,v122,v125,v128,m17_,(by rw [ha.out];exact putSel_upk 8 hb_ rfl rfl rfl),(by (with_reducible repeat (first | refine zz ?_ _ | refine zj ?_ | refine zq ?_ _));exact BK101.out),(by repeat (first | (with_reducible first | exact HB.out | apply qj | apply qz | apply qk | refine qx ?_ GE101.out) | exact HB.out)),z_HO105,fun _ _ => (by (with_reducible repeat (first | apply Kd.jq | apply Kd.zx | apply Kd.jz));first | exact HO108.out | exact Kd.R_mono HO108.out (fun _ hk => by first | trivial | (simp_all;done) | grind)),fun _ _ => (by (with_reducible repeat (first | apply Kd.jq | apply Kd.zx | apply Kd.jz));first | exact HO111.out | exact Kd.R_mono HO111.out (fun _ hk => by first | trivial | (simp_all;done) | grind)),fun _ => (by (with_reducible repeat (first | apply Kd.vk | apply Kd.vz | apply Kd.vv));exact Kd.V_mono HO114.out (fun _ hk => by first | exact ⟨hk.1.1,⟨hk.1.2.1,⟨hk.2,hk.1.2.2⟩⟩⟩ | trivial | (simp_all;done) | grind)),fun _ _ => (by (with_reducible repeat (first | apply Kd.jq | apply Kd.zx | apply Kd.jz));exact Kd.R_mono HO117.out (fun _ hk => by first | exact ⟨hk.1.2,hk.2⟩ | trivial | (simp_all;done) | grind)),fun h0_ _ => absurd ((hoff 13 (by kernel_rfl)).symm.trans h0_) (by decide),fun h0_ => absurd ((hoff 14 (by kernel_rfl)).symm.trans h0_) (by decide),fun h0_ => absurd ((hoff 15 (by kernel_rfl)).symm.trans h0_) (by decide),fun h0_ => absurd ((hoff 16 (by kernel_rfl)).symm.trans h0_) (by decide),fun h0_ => absurd ((hoff 17 (by kernel_rfl)).symm.trans h0_) (by decide)⟩
   refine steps_cons ?_ ?_
   ·rintro b a w' ⟨v104,v107,v110,v113,v116,v119,v122,v125,v128,m17_,ha,Q_BK101,Q_HB,Q_HO105,Q_HO108,Q_HO111,Q_HO114,Q_HO117,Q_HO120,Q_HO123,Q_HO126,Q_HO129,Q_X17_⟩ hb_ hon hoff
    refine ⟨_,rfl,fun K hK => ?_⟩
    have e1 : a.tmps[1]? = some (.pointer (some ⟨gb101,0,none⟩)) := by rw [ha];exact (putSel_off rfl).trans rfl
    replace ha := qq.mk ha
    have BK101 := qq.mk Q_BK101
    have HB := qq.mk Q_HB
    have hc0_ : w'.cell? ⟨gb101,0,none⟩ = some (.int .i64 a0_0) := (qw BK101.out 0).trans rfl
    have hc1_ : w'.cell? ⟨gb101,1,none⟩ = some (.string a0_1) := (qw BK101.out 1).trans rfl
    have hc2_ : w'.cell? ⟨gb101,2,none⟩ = some (.string a0_2) := (qw BK101.out 2).trans rfl
    have hc3_ : w'.cell? ⟨gb101,3,none⟩ = some (.slice A0_3 l0_3.length c0_3) := (qw BK101.out 3).trans rfl
    have hc4_ : w'.cell? ⟨gb101,4,none⟩ = some (.slice A0_4 l0_4.length c0_4) := (qw BK101.out 4).trans rfl
    refine value_ (w1 := w') (v := .agg #[.int .i64 a0_0,.string a0_1,.string a0_2,.slice A0_3 l0_3.length c0_3,.slice A0_4 l0_4.length c0_4]) (by rfl) rfl ?_ ?_
    ·go_simp
     (try simp only [i64_w])
     try rfl
    refine hK.out _ _ ⟨v104,v107,v110,v113,v116,v119,v122,v125,v128,m17_,(by rw [ha.out];exact putSel_upk 9 hb_ rfl rfl rfl),Q_BK101,Q_HB,Q_HO105,Q_HO108,Q_HO111,Q_HO114,Q_HO117,fun h0_ _ => absurd ((hoff 13 (by kernel_rfl)).symm.trans h0_) (by decide),fun h0_ => absurd ((hoff 14 (by kernel_rfl)).symm.trans h0_) (by decide),fun h0_ => absurd ((hoff 15 (by kernel_rfl)).symm.trans h0_) (by decide),fun h0_ => absurd ((hoff 16 (by kernel_rfl)).symm.trans h0_) (by decide),fun h0_ => absurd ((hoff 17 (by kernel_rfl)).symm.trans h0_) (by decide)⟩
   refine steps_cons ?_ ?_
   ·rintro b a w' ⟨v104,v107,v110,v113,v116,v119,v122,v125,v128,m17_,ha,Q_BK101,Q_HB,Q_HO105,Q_HO108,Q_HO111,Q_HO114,Q_HO117,Q_HO120,Q_HO123,Q_HO126,Q_HO129,Q_X17_⟩ hb_ hon hoff
    refine ⟨_,rfl,fun K hK => ?_⟩
    have e18 : a.tmps[18]? = some (.agg #[.int .i64 a0_0,.string a0_1,.string a0_2,.slice A0_3 l0_3.length c0_3,.slice A0_4 l0_4.length c0_4]) := by rw [ha];exact putSel_on (e := (12,18,.agg #[.int .i64 a0_0,.string a0_1,.string a0_2,.slice A0_3 l0_3.length c0_3,.slice A0_4 l0_4.length c0_4])) 9 rfl rfl (hon 12 (by kernel_rfl)) rfl
    replace ha := qq.mk ha
    have BK101 := qq.mk Q_BK101
    have HB := qq.mk Q_HB
    have HO108 := qq.mk (Q_HO108 (hon 3 (by kernel_rfl)) (hoff 14 (by kernel_rfl)))
    have HO111 := qq.mk (Q_HO111 (hon 7 (by kernel_rfl)) (hoff 14 (by kernel_rfl)))
    have HO114 := qq.mk (Q_HO114 (hon 10 (by kernel_rfl)))
    have HO117 := qq.mk (Q_HO117 (hon 11 (by kernel_rfl)) (hoff 14 (by kernel_rfl)))
    refine goes_ Try.func23 (by kernel_rfl) rfl #[.agg #[.int .i64 a0_0,.string a0_1,.string a0_2,.slice A0_3 l0_3.length c0_3,.slice A0_4 l0_4.length c0_4]] (by rfl) rfl rfl (by first | (simp only [List.map_toArray,List.map_cons,List.map_nil,Act.eval,Array.getD_eq_getD_getElem?,Option.getD_some,e18];done) | (simp only [List.map_toArray,List.map_cons,List.map_nil,Act.eval,Array.getD_eq_getD_getElem?,Option.getD_some,e18];rfl)) ?_
    with_reducible refine (xq.calls k a0_0 a0_1 a0_2 _ _ l0_3 _ _ l0_4 t118 _ ?side1 ?side2 ?side3 ?side4 A8.out).mono ?_
    (case side1 => repeat (first | exact (Kd.C_below HR0_3.out HB.out) | (with_reducible refine Kd.C_alloc ?_ _) | (with_reducible refine Kd.C_drewN ?_ _) | (with_reducible refine Kd.C_drew ?_)))
    (case side2 => exact HC0_3.out)
    (case side3 => repeat (first | exact (Kd.C_below HR0_4.out HB.out) | (with_reducible refine Kd.C_alloc ?_ _) | (with_reducible refine Kd.C_drewN ?_ _) | (with_reducible refine Kd.C_drew ?_)))
    (case side4 => exact HC0_4.out)
    rintro e w21 ⟨v119,rfl,ho0,hb⟩
    refine ⟨_,rfl,?_⟩
    have n0_ := qq.mk (Kd.R_elder' (by (with_reducible repeat (first | apply Kd.jq | apply Kd.zx | apply Kd.jz));first | exact HO108.out | exact Kd.R_mono HO108.out (fun _ hk => by first | trivial | (simp_all;done) | grind)) (Kd.R_base ho0) hb)
    have n1_ := qq.mk (Kd.R_elder' (by (with_reducible repeat (first | apply Kd.jq | apply Kd.zx | apply Kd.jz));first | exact HO111.out | exact Kd.R_mono HO111.out (fun _ hk => by first | trivial | (simp_all;done) | grind)) (Kd.R_base ho0) hb)
    have n2_ := qq.mk (Kd.V_elder' (by (with_reducible repeat (first | apply Kd.vk | apply Kd.vz | apply Kd.vv));first | exact HO114.out | exact Kd.V_mono HO114.out (fun _ hk => by first | trivial | (simp_all;done) | grind)) (Kd.R_base ho0) hb)
    have n3_ := qq.mk (Kd.R_elder' (by (with_reducible repeat (first | apply Kd.jq | apply Kd.zx | apply Kd.jz));first | exact HO117.out | exact Kd.R_mono HO117.out (fun _ hk => by first | trivial | (simp_all;done) | grind)) (Kd.R_base ho0) hb)
    have n4_ := qq.mk (Kd.R_lower (Kd.R_new' (Kd.R_new' (Kd.R_new' ho0 (Kd.R_lt (by (with_reducible repeat (first | apply Kd.jq | apply Kd.zx | apply Kd.jz));first | exact HO108.out | exact Kd.R_mono HO108.out (fun _ hk => by first | trivial | (simp_all;done) | grind)))) (Kd.R_lt (by (with_reducible repeat (first | apply Kd.jq | apply Kd.zx | apply Kd.jz));first | exact HO111.out | exact Kd.R_mono HO111.out (fun _ hk => by first | trivial | (simp_all;done) | grind)))) (Kd.R_lt (by (with_reducible repeat (first | apply Kd.jq | apply Kd.zx | apply Kd.jz));first | exact HO117.out | exact Kd.R_mono HO117.out (fun _ hk => by first | trivial | (simp_all;done) | grind)))) (zw (by repeat (first | (with_reducible first | exact HB.out | apply qj | apply qz | apply qk | refine qx ?_ GE101.out) | exact HB.out))))
    have n5_ := qq.mk (vw (g := gb101) (o := .cells #[.int .i64 a0_0,.string a0_1,.string a0_2,.slice A0_3 l0_3.length c0_3,.slice A0_4 l0_4.length c0_4] 27 (0,0)) (by (with_reducible repeat (first | refine zz ?_ _ | refine zj ?_ | refine zq ?_ _));exact BK101.out) hb)
    have n6_ := qq.mk (zv (by repeat (first | (with_reducible first | exact HB.out | apply qj | apply qz | apply qk | refine qx ?_ GE101.out) | exact HB.out)) hb)
    have z_HO105 := fun (h0_ : b 0 = true) (h1_ : b 14 = false) => (show Kd.R (Kd.int .u8) 5 w21 w.heap.size (fun _ => True) v104 y103 from by first | exact (Kd.R_elder' (by (with_reducible repeat (first | apply Kd.jq | apply Kd.zx | apply Kd.jz));exact (Q_HO105 h0_ h1_)) (Kd.R_base ho0) hb) | exact Kd.R_mono (Kd.R_elder' (by (with_reducible repeat (first | apply Kd.jq | apply Kd.zx | apply Kd.jz));exact (Q_HO105 h0_ h1_)) (Kd.R_base ho0) hb) (fun _ h_ => by first | trivial | exact h_ | exact h_.1))
    clear HO108
    clear HO111
    clear HO114
    clear HO117
    clear BK101
    clear HB
    have HO108 := n0_
    have HO111 := n1_
    have HO114 := n2_
    have HO117 := n3_
    have HO120 := n4_
    have BK101 := n5_
    have HB := n6_
    clear n0_ n1_ n2_ n3_ n4_ n5_ n6_
    (try clear hb)
    (try clear hb2)
    (try clear hk)
    (try clear hi)
    (try clear ho0)
    refine hK.out _ _ ⟨v104,v107,v110,v113,v116,v119,v122,v125,v128,m17_,(by rw [ha.out];exact putSel_upk 10 hb_ rfl rfl rfl),(by (with_reducible repeat (first | refine zz ?_ _ | refine zj ?_ | refine zq ?_ _));exact BK101.out),(by repeat (first | (with_reducible first | exact HB.out | apply qj | apply qz | apply qk | refine qx ?_ GE101.out) | exact HB.out)),z_HO105,fun _ _ => (by (with_reducible repeat (first | apply Kd.jq | apply Kd.zx | apply Kd.jz));exact Kd.R_mono HO108.out (fun _ hk => by first | exact ⟨hk.1.1,⟨hk.1.2,hk.2⟩⟩ | trivial | (simp_all;done) | grind)),fun _ _ => (by (with_reducible repeat (first | apply Kd.jq | apply Kd.zx | apply Kd.jz));exact Kd.R_mono HO111.out (fun _ hk => by first | exact ⟨hk.1.1,⟨hk.1.2,hk.2⟩⟩ | trivial | (simp_all;done) | grind)),fun _ => (by (with_reducible repeat (first | apply Kd.vk | apply Kd.vz | apply Kd.vv));exact Kd.V_mono HO114.out (fun _ hk => by first | exact ⟨hk.1.1,⟨hk.1.2.1,⟨hk.1.2.2.1,⟨hk.2,hk.1.2.2.2⟩⟩⟩⟩ | trivial | (simp_all;done) | grind)),fun _ _ => (by (with_reducible repeat (first | apply Kd.jq | apply Kd.zx | apply Kd.jz));exact Kd.R_mono HO117.out (fun _ hk => by first | exact ⟨hk.1.1,⟨hk.1.2,hk.2⟩⟩ | trivial | (simp_all;done) | grind)),fun _ _ => (by (with_reducible repeat (first | apply Kd.jq | apply Kd.zx | apply Kd.jz));exact Kd.R_mono HO120.out (fun _ hk => by first | exact ⟨hk.1.1.2,⟨hk.1.2,hk.2⟩⟩ | trivial | (simp_all;done) | grind)),fun h0_ => absurd ((hoff 14 (by kernel_rfl)).symm.trans h0_) (by decide),fun h0_ => absurd ((hoff 15 (by kernel_rfl)).symm.trans h0_) (by decide),fun h0_ => absurd ((hoff 16 (by kernel_rfl)).symm.trans h0_) (by decide),fun h0_ => absurd ((hoff 17 (by kernel_rfl)).symm.trans h0_) (by decide)⟩
   refine steps_cons ?_ ?_
   ·rintro b a w' ⟨v104,v107,v110,v113,v116,v119,v122,v125,v128,m17_,ha,Q_BK101,Q_HB,Q_HO105,Q_HO108,Q_HO111,Q_HO114,Q_HO117,Q_HO120,Q_HO123,Q_HO126,Q_HO129,Q_X17_⟩ hb_ hon hoff
    refine ⟨_,rfl,fun K hK => ?_⟩
    have e6 : a.tmps[6]? = some (v104) := by rw [ha];exact putSel_on (e := (0,6,v104)) 0 rfl rfl (hon 0 (by kernel_rfl)) rfl
    have e9 : a.tmps[9]? = some (v107) := by rw [ha];exact putSel_on (e := (3,9,v107)) 2 rfl rfl (hon 3 (by kernel_rfl)) rfl
    have e13 : a.tmps[13]? = some (v110) := by rw [ha];exact putSel_on (e := (7,13,v110)) 5 rfl rfl (hon 7 (by kernel_rfl)) rfl
    have e17 : a.tmps[17]? = some (v116) := by rw [ha];exact putSel_on (e := (11,17,v116)) 8 rfl rfl (hon 11 (by kernel_rfl)) rfl
    have e19 : a.tmps[19]? = some (v119) := by rw [ha];exact putSel_on (e := (13,19,v119)) 10 rfl rfl (hon 13 (by kernel_rfl)) rfl
    replace ha := qq.mk ha
    have BK101 := qq.mk Q_BK101
    have HB := qq.mk Q_HB
    have HO105 := qq.mk (Q_HO105 (hon 0 (by kernel_rfl)) hb_)
    have HO108 := qq.mk (Q_HO108 (hon 3 (by kernel_rfl)) hb_)
    have HO111 := qq.mk (Q_HO111 (hon 7 (by kernel_rfl)) hb_)
    have HO114 := qq.mk (Q_HO114 (hon 10 (by kernel_rfl)))
    have HO117 := qq.mk (Q_HO117 (hon 11 (by kernel_rfl)) hb_)
    have HO120 := qq.mk (Q_HO120 (hon 13 (by kernel_rfl)) hb_)
    obtain ⟨Ao24,co24,eo24⟩ := Kd.R_slice HO105.out
    (first | subst eo24 | (injection eo24 with f1_ f2_ f3_;have f4_ := f1_.symm;have f5_ := f3_.symm;clear f1_ f2_ f3_;subst f4_;subst f5_))
    obtain ⟨Ao25,co25,eo25⟩ := Kd.R_slice HO108.out
    (first | subst eo25 | (injection eo25 with f1_ f2_ f3_;have f4_ := f1_.symm;have f5_ := f3_.symm;clear f1_ f2_ f3_;subst f4_;subst f5_))
    obtain ⟨Ao26,co26,eo26⟩ := Kd.R_slice HO111.out
    (first | subst eo26 | (injection eo26 with f1_ f2_ f3_;have f4_ := f1_.symm;have f5_ := f3_.symm;clear f1_ f2_ f3_;subst f4_;subst f5_))
    obtain ⟨Ao27,co27,eo27⟩ := Kd.R_slice HO117.out
    (first | subst eo27 | (injection eo27 with f1_ f2_ f3_;have f4_ := f1_.symm;have f5_ := f3_.symm;clear f1_ f2_ f3_;subst f4_;subst f5_))
    obtain ⟨Ao28,co28,eo28⟩ := Kd.R_slice HO120.out
    (first | subst eo28 | (injection eo28 with f1_ f2_ f3_;have f4_ := f1_.symm;have f5_ := f3_.symm;clear f1_ f2_ f3_;subst f4_;subst f5_))
    refine Kd.N_lit_step (Kd.slice 5 (Kd.int .u8)) _ 22 ?hg (N' := 20) ?hd (xs := ([y103,t106,t109,t115,t118] : List (List Int))) (inner := [.slice Ao24 y103.length co24,.slice Ao25 t106.length co25,.slice Ao26 t109.length co26,.slice Ao27 t115.length co27,.slice Ao28 t118.length co28]) (ok := (fun k_ => k_ ≠ gb101)) (okp := (fun k_ => k_ ≠ gb101)) ?hr ?hp (fun _ hk => by first | exact hk | trivial | (simp_all;done) | grind) ((show ∀ k_,w'.heap.size ≤ k_ → (fun k_ => k_ ≠ gb101) k_ from fun k_ hk => Kd.freshB (g := gb101) (o := .cells #[.int .i64 a0_0,.string a0_1,.string a0_2,.slice A0_3 l0_3.length c0_3,.slice A0_4 l0_4.length c0_4] 27 (0,0)) (by (with_reducible repeat (first | refine zz ?_ _ | refine zj ?_ | refine zq ?_ _));exact BK101.out) k_ hk) _ (Nat.le_refl _)) (Below.refl _ _) (Nat.le_refl _) (by simp) ?_;(case hd => rfl);(case hg => rfl);(case hr => first | (go_simp;done) | (go_simp;rfl));(case hp => exact (Reps.one (show Kd.FK (Kd.slice 5 (Kd.int .u8)) _ _ y103 [.slice Ao24 y103.length co24] from (Kd.FK_slice_mk (Kd.R_reads' (Kd.R_mono (ok' := (fun k_ => k_ ≠ gb101)) (Kd.R_types (HO105.out) BK101.out (by decide)) (fun k_ hk => hk.2))).2.1 (Kd.R_F (Kd.R_mono (ok' := (fun k_ => k_ ≠ gb101)) (Kd.R_types (HO105.out) BK101.out (by decide)) (fun k_ hk => hk.2))))) (Reps.one (show Kd.FK (Kd.slice 5 (Kd.int .u8)) _ _ t106 [.slice Ao25 t106.length co25] from (Kd.FK_slice_mk (Kd.R_reads' (Kd.R_mono (ok' := (fun k_ => k_ ≠ gb101)) (Kd.R_types (HO108.out) BK101.out (by decide)) (fun k_ hk => hk.2))).2.1 (Kd.R_F (Kd.R_mono (ok' := (fun k_ => k_ ≠ gb101)) (Kd.R_types (HO108.out) BK101.out (by decide)) (fun k_ hk => hk.2))))) (Reps.one (show Kd.FK (Kd.slice 5 (Kd.int .u8)) _ _ t109 [.slice Ao26 t109.length co26] from (Kd.FK_slice_mk (Kd.R_reads' (Kd.R_mono (ok' := (fun k_ => k_ ≠ gb101)) (Kd.R_types (HO111.out) BK101.out (by decide)) (fun k_ hk => hk.2))).2.1 (Kd.R_F (Kd.R_mono (ok' := (fun k_ => k_ ≠ gb101)) (Kd.R_types (HO111.out) BK101.out (by decide)) (fun k_ hk => hk.2))))) (Reps.one (show Kd.FK (Kd.slice 5 (Kd.int .u8)) _ _ t115 [.slice Ao27 t115.length co27] from (Kd.FK_slice_mk (Kd.R_reads' (Kd.R_mono (ok' := (fun k_ => k_ ≠ gb101)) (Kd.R_types (HO117.out) BK101.out (by decide)) (fun k_ hk => hk.2))).2.1 (Kd.R_F (Kd.R_mono (ok' := (fun k_ => k_ ≠ gb101)) (Kd.R_types (HO117.out) BK101.out (by decide)) (fun k_ hk => hk.2))))) (Reps.one (show Kd.FK (Kd.slice 5 (Kd.int .u8)) _ _ t118 [.slice Ao28 t118.length co28] from (Kd.FK_slice_mk (Kd.R_reads' (Kd.R_mono (ok' := (fun k_ => k_ ≠ gb101)) (Kd.R_types (HO120.out) BK101.out (by decide)) (fun k_ hk => hk.2))).2.1 (Kd.R_F (Kd.R_mono (ok' := (fun k_ => k_ ≠ gb101)) (Kd.R_types (HO120.out) BK101.out (by decide)) (fun k_ hk => hk.2))))) (Reps.none _ _)))))))
    intro v122 w29 ho30 hb hg_ hnew_
    clear hg_ hnew_
    (first | rw [← Ny121.out] at ho30 | (simp only [Int.reduceToNat] at ho30;rw [← Ny121.out] at ho30))
    have n0_ := qq.mk (Kd.V_elder' (by (with_reducible repeat (first | apply Kd.vk | apply Kd.vz | apply Kd.vv));first | exact HO114.out | exact Kd.V_mono HO114.out (fun _ hk => by first | trivial | (simp_all;done) | grind)) (Kd.N_base ho30) hb)
    have n1_ := qq.mk (Kd.N_lower ho30 (zw (by repeat (first | (with_reducible first | exact HB.out | apply qj | apply qz | apply qk | refine qx ?_ GE101.out) | exact HB.out))))
    have n2_ := qq.mk (vw (g := gb101) (o := .cells #[.int .i64 a0_0,.string a0_1,.string a0_2,.slice A0_3 l0_3.length c0_3,.slice A0_4 l0_4.length c0_4] 27 (0,0)) (by (with_reducible repeat (first | refine zz ?_ _ | refine zj ?_ | refine zq ?_ _));exact BK101.out) hb)
    have n3_ := qq.mk (zv (by repeat (first | (with_reducible first | exact HB.out | apply qj | apply qz | apply qk | refine qx ?_ GE101.out) | exact HB.out)) hb)
    clear HO114
    clear BK101
    clear HB
    clear HO105
    clear HO108
    clear HO111
    clear HO117
    clear HO120
    have HO114 := n0_
    have HO123 := n1_
    have BK101 := n2_
    have HB := n3_
    clear n0_ n1_ n2_ n3_
    clear hb ho30
    refine hK.out _ _ ⟨.slice Ao24 y103.length co24,.slice Ao25 t106.length co25,.slice Ao26 t109.length co26,v113,.slice Ao27 t115.length co27,.slice Ao28 t118.length co28,v122,v125,v128,m17_,(by rw [ha.out];exact putSel_upk 11 hb_ rfl rfl rfl),(by (with_reducible repeat (first | refine zz ?_ _ | refine zj ?_ | refine zq ?_ _));exact BK101.out),(by repeat (first | (with_reducible first | exact HB.out | apply qj | apply qz | apply qk | refine qx ?_ GE101.out) | exact HB.out)),fun _ h1_ => absurd ((up_self b 14).symm.trans h1_) (by decide),fun _ h1_ => absurd ((up_self b 14).symm.trans h1_) (by decide),fun _ h1_ => absurd ((up_self b 14).symm.trans h1_) (by decide),fun _ => (by (with_reducible repeat (first | apply Kd.vk | apply Kd.vz | apply Kd.vv));exact Kd.V_mono HO114.out (fun _ hk => by first | exact ⟨hk.2,hk.1.2.2.2.2.2⟩ | trivial | (simp_all;done) | grind)),fun _ h1_ => absurd ((up_self b 14).symm.trans h1_) (by decide),fun _ h1_ => absurd ((up_self b 14).symm.trans h1_) (by decide),fun _ => (by (with_reducible repeat (first | apply Kd.kk | apply Kd.kj | apply Kd.kv));first | exact HO123.out | exact Kd.N_mono HO123.out (fun _ hk => by first | trivial | (simp_all;done) | grind)),fun h0_ => absurd ((hoff 15 (by kernel_rfl)).symm.trans h0_) (by decide),fun h0_ => absurd ((hoff 16 (by kernel_rfl)).symm.trans h0_) (by decide),fun h0_ => absurd ((hoff 17 (by kernel_rfl)).symm.trans h0_) (by decide)⟩
   refine steps_cons ?_ ?_
   ·rintro b a w' ⟨v104,v107,v110,v113,v116,v119,v122,v125,v128,m17_,ha,Q_BK101,Q_HB,Q_HO105,Q_HO108,Q_HO111,Q_HO114,Q_HO117,Q_HO120,Q_HO123,Q_HO126,Q_HO129,Q_X17_⟩ hb_ hon hoff
    refine ⟨_,rfl,fun K hK => ?_⟩
    have e20 : a.tmps[20]? = some (v122) := by rw [ha];exact putSel_on (e := (14,20,v122)) 11 rfl rfl (hon 14 (by kernel_rfl)) rfl
    replace ha := qq.mk ha
    have BK101 := qq.mk Q_BK101
    have HB := qq.mk Q_HB
    have HO114 := qq.mk (Q_HO114 (hon 10 (by kernel_rfl)))
    have HO123 := qq.mk (Q_HO123 (hon 14 (by kernel_rfl)))
    obtain ⟨Ao31,co31,eo31⟩ := Kd.N_slice HO123.out
    (first | subst eo31 | (injection eo31 with f1_ f2_ f3_;have f4_ := f1_.symm;have f5_ := f3_.symm;clear f1_ f2_ f3_;subst f4_;subst f5_))
    refine goes_ Try.func78 (by kernel_rfl) rfl #[.slice Ao31 y121.length co31] (by rfl) rfl rfl (by first | (simp only [List.map_toArray,List.map_cons,List.map_nil,Act.eval,Array.getD_eq_getD_getElem?,Option.getD_some,e20];done) | (simp only [List.map_toArray,List.map_cons,List.map_nil,Act.eval,Array.getD_eq_getD_getElem?,Option.getD_some,e20];rfl)) ?_
    with_reducible refine (qkq.calls _ _ y121 t124 _ ?side1 ?side2 A9.out).mono ?_
    (case side1 => repeat (first | exact (Kd.N_reads' HO123.out).2.2 | (with_reducible refine Kd.C_alloc ?_ _) | (with_reducible refine Kd.C_drewN ?_ _) | (with_reducible refine Kd.C_drew ?_)))
    (case side2 => exact (Kd.N_reads' HO123.out).2.1)
    rintro e w32 ⟨v125,rfl,ho0,hb⟩
    refine ⟨_,rfl,?_⟩
    have n0_ := qq.mk (Kd.V_elder' (by (with_reducible repeat (first | apply Kd.vk | apply Kd.vz | apply Kd.vv));first | exact HO114.out | exact Kd.V_mono HO114.out (fun _ hk => by first | trivial | (simp_all;done) | grind)) (Kd.R_base ho0) hb)
    have n1_ := qq.mk (Kd.N_elder' (by (with_reducible repeat (first | apply Kd.kk | apply Kd.kj | apply Kd.kv));first | exact HO123.out | exact Kd.N_mono HO123.out (fun _ hk => by first | trivial | (simp_all;done) | grind)) (Kd.R_base ho0) hb)
    have n2_ := qq.mk (Kd.R_lower ho0 (zw (by repeat (first | (with_reducible first | exact HB.out | apply qj | apply qz | apply qk | refine qx ?_ GE101.out) | exact HB.out))))
    have n3_ := qq.mk (vw (g := gb101) (o := .cells #[.int .i64 a0_0,.string a0_1,.string a0_2,.slice A0_3 l0_3.length c0_3,.slice A0_4 l0_4.length c0_4] 27 (0,0)) (by (with_reducible repeat (first | refine zz ?_ _ | refine zj ?_ | refine zq ?_ _));exact BK101.out) hb)
    have n4_ := qq.mk (zv (by repeat (first | (with_reducible first | exact HB.out | apply qj | apply qz | apply qk | refine qx ?_ GE101.out) | exact HB.out)) hb)
    clear HO114
    clear HO123
    clear BK101
    clear HB
    have HO114 := n0_
    have HO123 := n1_
    have HO126 := n2_
    have BK101 := n3_
    have HB := n4_
    clear n0_ n1_ n2_ n3_ n4_
    (try clear hb)
    (try clear hb2)
    (try clear hk)
    (try clear hi)
    (try clear ho0)
    refine hK.out _ _ ⟨v104,v107,v110,v113,v116,v119,.slice Ao31 y121.length co31,v125,v128,m17_,(by rw [ha.out];exact putSel_upk 12 hb_ rfl rfl rfl),(by (with_reducible repeat (first | refine zz ?_ _ | refine zj ?_ | refine zq ?_ _));exact BK101.out),(by repeat (first | (with_reducible first | exact HB.out | apply qj | apply qz | apply qk | refine qx ?_ GE101.out) | exact HB.out)),fun _ h1_ => absurd ((hon 14 (by kernel_rfl)).symm.trans h1_) (by decide),fun _ h1_ => absurd ((hon 14 (by kernel_rfl)).symm.trans h1_) (by decide),fun _ h1_ => absurd ((hon 14 (by kernel_rfl)).symm.trans h1_) (by decide),fun _ => (by (with_reducible repeat (first | apply Kd.vk | apply Kd.vz | apply Kd.vv));exact Kd.V_mono HO114.out (fun _ hk => by first | exact ⟨hk.1.1,⟨hk.2,hk.1.2⟩⟩ | trivial | (simp_all;done) | grind)),fun _ h1_ => absurd ((hon 14 (by kernel_rfl)).symm.trans h1_) (by decide),fun _ h1_ => absurd ((hon 14 (by kernel_rfl)).symm.trans h1_) (by decide),fun _ => (by (with_reducible repeat (first | apply Kd.kk | apply Kd.kj | apply Kd.kv));exact Kd.N_mono HO123.out (fun _ hk => by first | exact ⟨hk.2,hk.1⟩ | trivial | (simp_all;done) | grind)),fun _ => (by (with_reducible repeat (first | apply Kd.jq | apply Kd.zx | apply Kd.jz));first | exact HO126.out | exact Kd.R_mono HO126.out (fun _ hk => by first | trivial | (simp_all;done) | grind)),fun h0_ => absurd ((hoff 16 (by kernel_rfl)).symm.trans h0_) (by decide),fun h0_ => absurd ((hoff 17 (by kernel_rfl)).symm.trans h0_) (by decide)⟩
   refine steps_cons ?_ ?_
   ·rintro b a w' ⟨v104,v107,v110,v113,v116,v119,v122,v125,v128,m17_,ha,Q_BK101,Q_HB,Q_HO105,Q_HO108,Q_HO111,Q_HO114,Q_HO117,Q_HO120,Q_HO123,Q_HO126,Q_HO129,Q_X17_⟩ hb_ hon hoff
    refine ⟨_,rfl,fun K hK => ?_⟩
    have e21 : a.tmps[21]? = some (v125) := by rw [ha];exact putSel_on (e := (15,21,v125)) 12 rfl rfl (hon 15 (by kernel_rfl)) rfl
    replace ha := qq.mk ha
    have BK101 := qq.mk Q_BK101
    have HB := qq.mk Q_HB
    have HO114 := qq.mk (Q_HO114 (hon 10 (by kernel_rfl)))
    have HO123 := qq.mk (Q_HO123 (hon 14 (by kernel_rfl)))
    have HO126 := qq.mk (Q_HO126 (hon 15 (by kernel_rfl)))
    obtain ⟨Ao33,co33,eo33⟩ := Kd.R_slice HO126.out
    (first | subst eo33 | (injection eo33 with f1_ f2_ f3_;have f4_ := f1_.symm;have f5_ := f3_.symm;clear f1_ f2_ f3_;subst f4_;subst f5_))
    refine goes_ Try.func77 (by kernel_rfl) rfl #[.slice Ao33 t124.length co33] (by rfl) rfl rfl (by first | (simp only [List.map_toArray,List.map_cons,List.map_nil,Act.eval,Array.getD_eq_getD_getElem?,Option.getD_some,e21];done) | (simp only [List.map_toArray,List.map_cons,List.map_nil,Act.eval,Array.getD_eq_getD_getElem?,Option.getD_some,e21];rfl)) ?_
    with_reducible refine (xz.calls _ _ t124 t127 _ ?side1 ?side2 A10.out).mono ?_
    (case side1 => repeat (first | exact (Kd.R_reads' HO126.out).2.2 | (with_reducible refine Kd.C_alloc ?_ _) | (with_reducible refine Kd.C_drewN ?_ _) | (with_reducible refine Kd.C_drew ?_)))
    (case side2 => exact (Kd.R_reads' HO126.out).2.1)
    rintro e w34 ⟨v128,rfl,ho0,hb⟩
    refine ⟨_,rfl,?_⟩
    have n0_ := qq.mk (Kd.V_elder' (by (with_reducible repeat (first | apply Kd.vk | apply Kd.vz | apply Kd.vv));first | exact HO114.out | exact Kd.V_mono HO114.out (fun _ hk => by first | trivial | (simp_all;done) | grind)) (Kd.R_base ho0) hb)
    have n1_ := qq.mk (Kd.N_elder' (by (with_reducible repeat (first | apply Kd.kk | apply Kd.kj | apply Kd.kv));first | exact HO123.out | exact Kd.N_mono HO123.out (fun _ hk => by first | trivial | (simp_all;done) | grind)) (Kd.R_base ho0) hb)
    have n2_ := qq.mk (Kd.R_elder' (by (with_reducible repeat (first | apply Kd.jq | apply Kd.zx | apply Kd.jz));first | exact HO126.out | exact Kd.R_mono HO126.out (fun _ hk => by first | trivial | (simp_all;done) | grind)) (Kd.R_base ho0) hb)
    have n3_ := qq.mk (Kd.R_lower (Kd.R_new' ho0 (Kd.R_lt (by (with_reducible repeat (first | apply Kd.jq | apply Kd.zx | apply Kd.jz));first | exact HO126.out | exact Kd.R_mono HO126.out (fun _ hk => by first | trivial | (simp_all;done) | grind)))) (zw (by repeat (first | (with_reducible first | exact HB.out | apply qj | apply qz | apply qk | refine qx ?_ GE101.out) | exact HB.out))))
    have n4_ := qq.mk (vw (g := gb101) (o := .cells #[.int .i64 a0_0,.string a0_1,.string a0_2,.slice A0_3 l0_3.length c0_3,.slice A0_4 l0_4.length c0_4] 27 (0,0)) (by (with_reducible repeat (first | refine zz ?_ _ | refine zj ?_ | refine zq ?_ _));exact BK101.out) hb)
    have n5_ := qq.mk (zv (by repeat (first | (with_reducible first | exact HB.out | apply qj | apply qz | apply qk | refine qx ?_ GE101.out) | exact HB.out)) hb)
    clear HO114
    clear HO123
    clear HO126
    clear BK101
    clear HB
    have HO114 := n0_
    have HO123 := n1_
    have HO126 := n2_
    have HO129 := n3_
    have BK101 := n4_
    have HB := n5_
    clear n0_ n1_ n2_ n3_ n4_ n5_
    (try clear hb)
    (try clear hb2)
    (try clear hk)
    (try clear hi)
    (try clear ho0)
    refine hK.out _ _ ⟨v104,v107,v110,v113,v116,v119,v122,.slice Ao33 t124.length co33,v128,m17_,(by rw [ha.out];exact putSel_upk 13 hb_ rfl rfl rfl),(by (with_reducible repeat (first | refine zz ?_ _ | refine zj ?_ | refine zq ?_ _));exact BK101.out),(by repeat (first | (with_reducible first | exact HB.out | apply qj | apply qz | apply qk | refine qx ?_ GE101.out) | exact HB.out)),fun _ h1_ => absurd ((hon 14 (by kernel_rfl)).symm.trans h1_) (by decide),fun _ h1_ => absurd ((hon 14 (by kernel_rfl)).symm.trans h1_) (by decide),fun _ h1_ => absurd ((hon 14 (by kernel_rfl)).symm.trans h1_) (by decide),fun _ => (by (with_reducible repeat (first | apply Kd.vk | apply Kd.vz | apply Kd.vv));exact Kd.V_mono HO114.out (fun _ hk => by first | exact ⟨hk.1.1,⟨hk.1.2.1,⟨hk.2,hk.1.2.2⟩⟩⟩ | trivial | (simp_all;done) | grind)),fun _ h1_ => absurd ((hon 14 (by kernel_rfl)).symm.trans h1_) (by decide),fun _ h1_ => absurd ((hon 14 (by kernel_rfl)).symm.trans h1_) (by decide),fun _ => (by (with_reducible repeat (first | apply Kd.kk | apply Kd.kj | apply Kd.kv));exact Kd.N_mono HO123.out (fun _ hk => by first | exact ⟨hk.1.1,⟨hk.2,hk.1.2⟩⟩ | trivial | (simp_all;done) | grind)),fun _ => (by (with_reducible repeat (first | apply Kd.jq | apply Kd.zx | apply Kd.jz));exact Kd.R_mono HO126.out (fun _ hk => by first | exact hk.2 | trivial | (simp_all;done) | grind)),fun _ => (by (with_reducible repeat (first | apply Kd.jq | apply Kd.zx | apply Kd.jz));exact Kd.R_mono HO129.out (fun _ hk => by first | exact hk.2 | trivial | (simp_all;done) | grind)),fun h0_ => absurd ((hoff 17 (by kernel_rfl)).symm.trans h0_) (by decide)⟩
   refine steps_cons ?_ ?_
   ·rintro b a w' ⟨v104,v107,v110,v113,v116,v119,v122,v125,v128,m17_,ha,Q_BK101,Q_HB,Q_HO105,Q_HO108,Q_HO111,Q_HO114,Q_HO117,Q_HO120,Q_HO123,Q_HO126,Q_HO129,Q_X17_⟩ hb_ hon hoff
    refine ⟨_,rfl,fun K hK => ?_⟩
    have e22 : a.tmps[22]? = some (v128) := by rw [ha];exact putSel_on (e := (16,22,v128)) 13 rfl rfl (hon 16 (by kernel_rfl)) rfl
    replace ha := qq.mk ha
    have BK101 := qq.mk Q_BK101
    have HB := qq.mk Q_HB
    have HO114 := qq.mk (Q_HO114 (hon 10 (by kernel_rfl)))
    have HO123 := qq.mk (Q_HO123 (hon 14 (by kernel_rfl)))
    have HO126 := qq.mk (Q_HO126 (hon 15 (by kernel_rfl)))
    have HO129 := qq.mk (Q_HO129 (hon 16 (by kernel_rfl)))
    refine value_ (w1 := w') (v := v128) (by rfl) rfl ?_ ?_
    ·go_simp
     (try simp only [i64_w])
     try rfl
    refine hK.out _ _ ⟨v104,v107,v110,v113,v116,v119,v122,v125,v128,(v128),(by rw [ha.out];exact putSel_upk 14 hb_ rfl rfl rfl),Q_BK101,Q_HB,fun _ h1_ => absurd ((hon 14 (by kernel_rfl)).symm.trans h1_) (by decide),fun _ h1_ => absurd ((hon 14 (by kernel_rfl)).symm.trans h1_) (by decide),fun _ h1_ => absurd ((hon 14 (by kernel_rfl)).symm.trans h1_) (by decide),Q_HO114,fun _ h1_ => absurd ((hon 14 (by kernel_rfl)).symm.trans h1_) (by decide),fun _ h1_ => absurd ((hon 14 (by kernel_rfl)).symm.trans h1_) (by decide),Q_HO123,Q_HO126,Q_HO129,fun _ => rfl⟩
   exact steps_nil
  rintro b a w34 hall ⟨v104,v107,v110,v113,v116,v119,v122,v125,v128,m17_,ha,Q_BK101,Q_HB,Q_HO105,Q_HO108,Q_HO111,Q_HO114,Q_HO117,Q_HO120,Q_HO123,Q_HO126,Q_HO129,Q_X17_⟩
  clear BK101 HB
  have hb0_ := hall 0 (by kernel_rfl)
  have hb2_ := hall 2 (by kernel_rfl)
  have hb3_ := hall 3 (by kernel_rfl)
  have hb5_ := hall 5 (by kernel_rfl)
  have hb6_ := hall 6 (by kernel_rfl)
  have hb7_ := hall 7 (by kernel_rfl)
  have hb9_ := hall 9 (by kernel_rfl)
  have hb10_ := hall 10 (by kernel_rfl)
  have hb11_ := hall 11 (by kernel_rfl)
  have hb12_ := hall 12 (by kernel_rfl)
  have hb13_ := hall 13 (by kernel_rfl)
  have hb14_ := hall 14 (by kernel_rfl)
  have hb15_ := hall 15 (by kernel_rfl)
  have hb16_ := hall 16 (by kernel_rfl)
  have hb17_ := hall 17 (by kernel_rfl)
  subst ha
  obtain rfl := Q_X17_ hb17_
  simp only [putSel,hb0_,hb2_,hb3_,hb5_,hb6_,hb7_,hb9_,hb10_,hb11_,hb12_,hb13_,hb14_,hb15_,hb16_,hb17_,if_true,Act.put,List.setIfInBounds_toArray,List.set_cons_zero,List.set_cons_succ]
  have BK101 := qq.mk Q_BK101
  clear Q_BK101
  have HB := qq.mk Q_HB
  clear Q_HB
  clear Q_HO105
  clear Q_HO108
  clear Q_HO111
  have HO114 := qq.mk (Q_HO114 hb10_)
  clear Q_HO114
  clear Q_HO117
  clear Q_HO120
  have HO123 := qq.mk (Q_HO123 hb14_)
  clear Q_HO123
  have HO126 := qq.mk (Q_HO126 hb15_)
  clear Q_HO126
  have HO129 := qq.mk (Q_HO129 hb16_)
  clear Q_HO129
  clear hall hb0_ hb2_ hb3_ hb5_ hb6_ hb7_ hb9_ hb10_ hb11_ hb12_ hb13_ hb14_ hb15_ hb16_ hb17_
  try go_wp2
  go_ret
  exact ⟨_,by first | rfl | (simp [*,jk,jj] <;> rfl),by first | exact fun _ => rfl | exact rfl | exact trivial | exact nil_absurd (digest_pos (qq.out (by assumption))) | exact nil_absurd' (digest_pos (qq.out (by assumption))),by (with_reducible repeat (first | apply Kd.jq | apply Kd.zx | apply Kd.jz));exact Kd.R_mono HO129.out (fun _ hk => by first | exact trivial | trivial | (simp_all;done) | grind),by repeat (first | (with_reducible first | exact HB.out | apply qj | apply qz | apply qk | refine qx ?_ GE101.out) | exact HB.out)⟩
 ·replace c3 := Bool.eq_false_iff.mpr c3
  subst c3
  have H1 : (some ([] : List Int)) = some r := by rw [if_neg (show ¬ (false = true) by decide)] at H;exact H
  clear H
  have H := H1
  clear H1
  obtain rfl := Option.some.inj H
  go_enter Try.func29,Try.ntmps29
  go_wp2_with (first | ((with_reducible refine gate_dst (N := 1) rfl ?_);refine box_event ?hg (N := 1) ?hd (cs := #[.int .i64 a0_0,.string a0_1,.string a0_2,.slice A0_3 l0_3.length c0_3,.slice A0_4 l0_4.length c0_4]) (t := 27) ?hr ?_;(case hd => rfl);(case hg => rfl);(case hr => first | (go_simp;done) | (go_simp;rfl));intro gb101 hg w35 hbox hb;have n0_ := qq.mk (zv (by repeat (first | (with_reducible first | exact HB.out | apply qj | apply qz | apply qk) | exact HB.out)) hb);have n1_ := qq.mk (hbox);have n2_ := qq.mk ((by rw [hg];exact (zw (by repeat (first | (with_reducible first | exact HB.out | apply qj | apply qz | apply qk) | exact HB.out))) : w.heap.size ≤ gb101));have n3_ := qq.mk ((by rw [hg];exact (zw (by repeat (first | (with_reducible first | exact HB.out | apply qj | apply qz | apply qk) | exact HB.out))) : w.heap.size ≤ gb101));clear HB;have HB := n0_;have BK101 := n1_;have GW101 := n2_;have GE101 := n3_;clear n0_ n1_ n2_ n3_;clear hb hbox hg;have hcz36_0 : w35.cell? ⟨gb101,0,none⟩ = some (.int .i64 a0_0) := (qw BK101.out 0).trans rfl;have hcz36_1 : w35.cell? ⟨gb101,1,none⟩ = some (.string a0_1) := (qw BK101.out 1).trans rfl;have hcz36_2 : w35.cell? ⟨gb101,2,none⟩ = some (.string a0_2) := (qw BK101.out 2).trans rfl;have hcz36_3 : w35.cell? ⟨gb101,3,none⟩ = some (.slice A0_3 l0_3.length c0_3) := (qw BK101.out 3).trans rfl;have hcz36_4 : w35.cell? ⟨gb101,4,none⟩ = some (.slice A0_4 l0_4.length c0_4) := (qw BK101.out 4).trans rfl;have hfz36_0 := qv BK101.out 0;have hfz36_1 := qv BK101.out 1;have hfz36_2 := qv BK101.out 2;have hfz36_3 := qv BK101.out 3;have hfz36_4 := qv BK101.out 4) | ((with_reducible refine jv (f := 20) rfl ?_);refine goesL_ (some 4) rfl rfl Try.func20 (by kernel_rfl) rfl #[.agg #[.int .i64 a0_0,.string a0_1,.string a0_2,.slice A0_3 l0_3.length c0_3,.slice A0_4 l0_4.length c0_4]] rfl (by (try simp only [List.map_toArray,List.map_cons,List.map_nil]);first | done | rfl | (simp only [List.length_drop,List.length_take];rfl)) ?_;(with_reducible refine (xj.calls k a0_0 a0_1 a0_2 _ _ l0_3 _ _ l0_4 false _ ?side1 ?side2 ?side3 ?side4 A2.out).mono ?_);(case side1 => repeat (first | exact (Kd.C_below HR0_3.out HB.out) | (with_reducible refine Kd.C_alloc ?_ _) | (with_reducible refine Kd.C_drewN ?_ _) | (with_reducible refine Kd.C_drew ?_)));(case side2 => exact HC0_3.out);(case side3 => repeat (first | exact (Kd.C_below HR0_4.out HB.out) | (with_reducible refine Kd.C_alloc ?_ _) | (with_reducible refine Kd.C_drewN ?_ _) | (with_reducible refine Kd.C_drew ?_)));(case side4 => exact HC0_4.out);rintro e w37 ⟨rfl,hb⟩;refine ⟨_,rfl,?_⟩;have n0_ := qq.mk (vw (g := gb101) (o := .cells #[.int .i64 a0_0,.string a0_1,.string a0_2,.slice A0_3 l0_3.length c0_3,.slice A0_4 l0_4.length c0_4] 27 (0,0)) (by (with_reducible repeat (first | refine zz ?_ _ | refine zj ?_ | refine zq ?_ _));exact BK101.out) hb);have n1_ := qq.mk (zv (by repeat (first | (with_reducible first | exact HB.out | apply qj | apply qz | apply qk | refine qx ?_ GE101.out) | exact HB.out)) hb);clear BK101;clear HB;have BK101 := n0_;have HB := n1_;clear n0_ n1_;(try clear hb);(try clear hb2);(try clear hk);(try clear hi)))
  go_ret
  exact ⟨_,by first | rfl | (simp [*,jk,jj] <;> rfl),by first | exact fun _ => rfl | exact rfl | exact trivial | exact nil_absurd (digest_pos (qq.out (by assumption))) | exact nil_absurd' (digest_pos (qq.out (by assumption))),by first | exact Kd.R_nil _ _ _ _ _ | exact Kd.N_nil _ _ _ _ _ | exact Kd.V_nil _ _ _ _ _ | exact Kd.Q_nil _ _ _ _ _ | exact Kd.S_nil _ _ _ _ _,by repeat (first | (with_reducible first | exact HB.out | apply qj | apply qz | apply qk | refine qx ?_ GE101.out) | exact HB.out)⟩
end Go.Proofs.Ytipdkendfcopiaa.Pr
