/- Printed texts, walks and plain facts that the law FnExactPassFaults leans on, joined. -/
import Derived.Test.YtgolcojhnklfdaaFullFnExactPassFaultsC
import Derived.Deep.QuietTactic
import Derived.BigQuiet
import Derived.Laws.Cover1
namespace Go.Proofs.Ytgolcojhnklfdaa.Pr
open Go.RowKit Go.Proofs.YtgolcojhnklfdaaW.PrintWords Go.Proofs.YtgolcojhnklfdaaW.PrintLast Go.Proofs.YtgolcojhnklfdaaW.PrintMore
attribute [local go_sem] max2_int min2_int max_two min_two max_three min_three max_four min_four
set_option linter.unusedVariables false
set_option linter.unusedSimpArgs false
def qjj.l0 : Nat → List ByteArray → Int → Int → Option (Int)
 | 0,_,_,_ => none
 | k + 1,x0,x1,x5 => if x5 < (x0.length : Int) then (if 0 ≤ x5 then (if (wrap64 (x1 - ((rdOf ByteArray.empty x0 x5).size : Int))) < 0 then (some (-1)) else (qjj.l0 k x0 (wrap64 (x1 - ((rdOf ByteArray.empty x0 x5).size : Int))) (wrap64 (x5 + 1)))) else (none)) else (some x1)
def qjj.f (k : Nat) (l0 : List ByteArray) (a1 : Int) : Option (Int) := if (wrap64 (a1 - (l0.length : Int))) < 0 then (some (-1)) else (qjj.l0 k l0 (wrap64 (a1 - (l0.length : Int))) 0)
set_option maxHeartbeats 8000000 in
set_option maxRecDepth 100000 in
theorem qjj.calls (k : Nat) (A0 : Option Addr) (c0 : Nat) (l0 : List ByteArray) (a1 : Int) (r : Int) (w : World) (hr0 : Kd.C Kd.string w A0 l0.length l0) (hc0 : l0.length ≤ c0) (h : qjj.f k l0 a1 = some r) :
  Calls Try.prog 69 #[.slice A0 l0.length c0,.int .i64 a1] w fun e w' => e = .returned (.int .i64 r) ∧ Drawn0 w w' := by
 have HR0 := qq.mk hr0
 have HC0 := qq.mk hc0
 clear hr0 hc0
 have H : (if (wrap64 (a1 - (l0.length : Int))) < 0 then (some (-1)) else (qjj.l0 k l0 (wrap64 (a1 - (l0.length : Int))) 0)) = some r := h
 clear h
 by_cases c3 : (wrap64 (a1 - (l0.length : Int))) < 0
 ·rw [if_pos c3] at H
  have c3b0 : decide ((wrap64 (a1 - (l0.length : Int))) < 0) = true := decide_eq_true c3
  clear c3
  obtain rfl := Option.some.inj H
  go_enter Try.func69,Try.ntmps69
  go_wp2
  go_ret
  exact ⟨by first | rfl | (simp;done) | (simp [*];done),by repeat (first | exact Drawn0.refl _ | apply Drawn0.step)⟩
 ·rw [if_neg c3] at H
  have c3b0 : decide ((wrap64 (a1 - (l0.length : Int))) < 0) = false := decide_eq_false c3
  clear c3
  have H' := qq.mk H
  clear H
  go_enter Try.func69,Try.ntmps69
  go_wp2
  go_loopg [1,5] k (fun kq v1 v5 w' => ∃ (x1_1 : Int) (x5_1 : Int),v1 = .int .i64 x1_1 ∧ v5 = .int .i64 x5_1 ∧ qq (qjj.l0 kq l0 x1_1 x5_1 = some r) ∧ qq (kq ≤ k) ∧ Drawn0 w w')
  case atStart => exact ⟨(wrap64 (a1 - (l0.length : Int))),(0),(by first | rfl | (simp;done) | (simp [*];done)),(by first | rfl | (simp;done) | (simp [*];done)),H',⟨Nat.le_refl _⟩,by repeat (first | exact Drawn0.refl _ | apply Drawn0.step)⟩
  case round =>
   clear H'
   try clear p2
   try clear c3
   try clear c3b0
   obtain ⟨x1_1,x5_1,rfl,rfl,HA,HK1,⟨m1,rfl⟩⟩ := hrel
   cases gk with
   | zero => exact absurd HA.out (by simp [qjj.l0])
   | succ k1 =>
    have H := HA.out
    clear HA
    simp only [qjj.l0] at H
    by_cases c4 : x5_1 < (l0.length : Int)
    ·rw [if_pos c4] at H
     have c4b0 : decide (x5_1 < (l0.length : Int)) = true := decide_eq_true c4
     clear c4
     by_cases c5 : 0 ≤ x5_1
     ·rw [if_pos c5] at H
      have c5b0 : decide (0 ≤ x5_1) = true := decide_eq_true c5
      clear c5
      by_cases c6 : (wrap64 (x1_1 - ((rdOf ByteArray.empty l0 x5_1).size : Int))) < 0
      ·rw [if_pos c6] at H
       have c6b0 : decide ((wrap64 (x1_1 - ((rdOf ByteArray.empty l0 x5_1).size : Int))) < 0) = true := decide_eq_true c6
       clear c6
       obtain rfl := Option.some.inj H
       have p101 : 0 ≤ (x5_1 : Int) := of_decide_eq_true (by assumption)
       have q101 : x5_1 < (l0.length : Int) := of_decide_eq_true (by assumption)
       obtain ⟨ad101,e101,hx101_0⟩ := Kd.at_string HR0.out x5_1 p101 q101
       cases e101
       replace p101 := eq_true p101
       replace q101 := eq_true q101
       go_wp2
       go_ret
       exact ⟨by first | rfl | (simp;done) | (simp [*];done),by repeat (first | exact Drawn0.refl _ | apply Drawn0.step)⟩
      ·rw [if_neg c6] at H
       have c6b0 : decide ((wrap64 (x1_1 - ((rdOf ByteArray.empty l0 x5_1).size : Int))) < 0) = false := decide_eq_false c6
       clear c6
       have H' := qq.mk H
       clear H
       have p101 : 0 ≤ (x5_1 : Int) := of_decide_eq_true (by assumption)
       have q101 : x5_1 < (l0.length : Int) := of_decide_eq_true (by assumption)
       obtain ⟨ad101,e101,hx101_0⟩ := Kd.at_string HR0.out x5_1 p101 q101
       cases e101
       replace p101 := eq_true p101
       replace q101 := eq_true q101
       go_wp2
       go_roundg k1
       case measure => have := HK1.out;omega
       case rel => exact ⟨(wrap64 (x1_1 - ((rdOf ByteArray.empty l0 x5_1).size : Int))),(wrap64 (x5_1 + 1)),(by first | rfl | (simp;done) | (simp [*];done)),(by first | rfl | (simp;done) | (simp [*];done)),H',⟨by have := HK1.out;omega⟩,by repeat (first | exact Drawn0.refl _ | apply Drawn0.step)⟩
     ·rw [if_neg c5] at H
      exact absurd H (by simp)
    ·rw [if_neg c4] at H
     have c4b0 : decide (x5_1 < (l0.length : Int)) = false := decide_eq_false c4
     clear c4
     obtain rfl := Option.some.inj H
     go_wp2
     go_ret
     exact ⟨by first | rfl | (simp;done) | (simp [*];done),by repeat (first | exact Drawn0.refl _ | apply Drawn0.step)⟩
def qkq.l0 : Nat → List ByteArray → List ByteArray → Int → Option (List ByteArray)
 | 0,_,_,_ => none
 | k + 1,x0,x3,x4 => if x4 < (x0.length : Int) then (if 0 ≤ x4 then (if x4 < (x3.length : Int) then (qkq.l0 k x0 (x3.set (x4 : Int).toNat (rdOf ByteArray.empty x0 x4)) (wrap64 (x4 + 1))) else (none)) else (none)) else (some x3)
def qkq.f (k : Nat) (l0 : List ByteArray) : Option (List ByteArray) := if 0 ≤ (l0.length : Int) then (if ((l0.length : Int) : Int).toNat ≤ 17592186044416 then (qkq.l0 k l0 (List.replicate ((l0.length : Int) : Int).toNat (⟨#[]⟩ : ByteArray)) 0) else (none)) else (none)
set_option maxHeartbeats 8000000 in
set_option maxRecDepth 100000 in
theorem qkq.calls (k : Nat) (A0 : Option Addr) (c0 : Nat) (l0 : List ByteArray) (r : List ByteArray) (w : World) (hr0 : Kd.C Kd.string w A0 l0.length l0) (hc0 : l0.length ≤ c0) (h : qkq.f k l0 = some r) :
  Calls Try.prog 76 #[.slice A0 l0.length c0] w fun e w' => ∃ v0_ : Value,e = .returned (v0_) ∧ Kd.R Kd.string 9 w' w.heap.size (fun _ => True) v0_ r ∧ Below w.heap.size w w' := by
 have HR0 := qq.mk hr0
 have HC0 := qq.mk hc0
 clear hr0 hc0
 have HB := qq.mk (Below.refl w.heap.size w)
 have H : (if 0 ≤ (l0.length : Int) then (if ((l0.length : Int) : Int).toNat ≤ 17592186044416 then (qkq.l0 k l0 (List.replicate ((l0.length : Int) : Int).toNat (⟨#[]⟩ : ByteArray)) 0) else (none)) else (none)) = some r := h
 clear h
 by_cases c2 : 0 ≤ (l0.length : Int)
 ·rw [if_pos c2] at H
  have c2b0 := eq_true c2
  have c2b1 : decide (0 ≤ (l0.length : Int)) = true := decide_eq_true c2
  clear c2
  by_cases c3 : ((l0.length : Int) : Int).toNat ≤ 17592186044416
  ·rw [if_pos c3] at H
   have c3b0 := eq_true c3
   have c3b1 : decide (((l0.length : Int) : Int).toNat ≤ 17592186044416) = true := decide_eq_true c3
   clear c3
   obtain ⟨y101,hy101⟩ : ∃ y_ : List ByteArray,y_ = (List.replicate ((l0.length : Int) : Int).toNat (⟨#[]⟩ : ByteArray)) := ⟨_,rfl⟩
   replace H : (qkq.l0 k l0 y101 0) = some r := by first | (rw [hy101];with_reducible exact H) | (have H2_ := (Option.bind_some _ _).symm.trans H;rw [hy101];with_reducible exact H2_) | (have H2_ := (Option.bind_some _ _).symm.trans H;with_reducible exact H2_) | with_reducible exact H | (rw [hy101];exact H) | exact H
   have Ny101 := qq.mk hy101
   clear hy101
   have H' := qq.mk H
   clear H
   go_enter Try.func76,Try.ntmps76
   go_wp2_with (first | ((with_reducible refine gate_dst (N := 7) rfl ?_);refine Kd.R_make Kd.string _ 9 rfl (N := 7) rfl 45 _ _ rfl (l0.length : Int) rfl rfl Try.underlying45 (.string ⟨#[]⟩) 16 info9 rfl (by decide) (by omega) (⟨#[]⟩ : ByteArray) (ok := fun _ => True) (okp := fun _ => True) rfl (fun _ hk => hk) trivial (of_decide_eq_true (by assumption)) (Nat.le_trans (Nat.mul_le_mul_right _ (of_decide_eq_true (by assumption) : (l0.length : Int).toNat ≤ 17592186044416)) (by omega)) (Below.refl _ _) (Nat.le_refl _) ?_;intro v102 w4 ho5 hb hg_ hnew_;clear hg_ hnew_;(first | rw [← Ny101.out] at ho5 | (simp only [Int.reduceToNat] at ho5;rw [← Ny101.out] at ho5));have n0_ := qq.mk (Kd.R_lower ho5 (zw (by repeat (first | (with_reducible first | exact HB.out | apply qj | apply qz | apply qk) | exact HB.out))));have n1_ := qq.mk (zv (by repeat (first | (with_reducible first | exact HB.out | apply qj | apply qz | apply qk) | exact HB.out)) hb);clear HB;have HO103 := n0_;have HB := n1_;clear n0_ n1_;clear hb ho5))
   go_loopg [4] k (fun kq v4 w' => ∃ (x3_1 : List ByteArray) (x4_1 : Int),v4 = .int .i64 x4_1 ∧ qq (qkq.l0 kq l0 x3_1 x4_1 = some r) ∧ qq (kq ≤ k) ∧ qq (Kd.R Kd.string 9 w' w.heap.size (fun _ => True) v102 x3_1) ∧ qq (Below w.heap.size w w'))
   case atStart => exact ⟨(y101),(0),(by first | rfl | (simp;done) | (simp [*];done)),H',⟨Nat.le_refl _⟩,⟨by (with_reducible repeat (first | apply Kd.jq | apply Kd.zx | apply Kd.jz));exact HO103.out⟩,⟨by repeat (first | (with_reducible first | exact HB.out | apply qj | apply qz | apply qk) | exact HB.out)⟩⟩
   case round =>
    clear H'
    try clear c2
    try clear c2b0
    try clear c2b1
    try clear p2
    try clear c3
    try clear c3b0
    try clear c3b1
    obtain ⟨x3_1,x4_1,rfl,HA,HK1,HO_3,HB⟩ := hrel
    cases gk with
    | zero => exact absurd HA.out (by simp [qkq.l0])
    | succ k1 =>
     have H := HA.out
     clear HA
     simp only [qkq.l0] at H
     by_cases c6 : x4_1 < (l0.length : Int)
     ·rw [if_pos c6] at H
      have c6b0 : decide (x4_1 < (l0.length : Int)) = true := decide_eq_true c6
      clear c6
      by_cases c7 : 0 ≤ x4_1
      ·rw [if_pos c7] at H
       have c7b0 : decide (0 ≤ x4_1) = true := decide_eq_true c7
       clear c7
       by_cases c8 : x4_1 < (x3_1.length : Int)
       ·rw [if_pos c8] at H
        have c8b0 : decide (x4_1 < (x3_1.length : Int)) = true := decide_eq_true c8
        clear c8
        obtain ⟨y105,hy105⟩ : ∃ y_ : List ByteArray,y_ = (x3_1.set (x4_1 : Int).toNat (rdOf ByteArray.empty l0 x4_1)) := ⟨_,rfl⟩
        replace H : (qkq.l0 k1 l0 y105 (wrap64 (x4_1 + 1))) = some r := by first | (rw [hy105];with_reducible exact H) | (have H2_ := (Option.bind_some _ _).symm.trans H;rw [hy105];with_reducible exact H2_) | (have H2_ := (Option.bind_some _ _).symm.trans H;with_reducible exact H2_) | with_reducible exact H | (rw [hy105];exact H) | exact H
        have Ny105 := qq.mk hy105
        clear hy105
        have H' := qq.mk H
        clear H
        have p104 : 0 ≤ (x4_1 : Int) := of_decide_eq_true (by assumption)
        have q104 : x4_1 < (l0.length : Int) := of_decide_eq_true (by assumption)
        obtain ⟨ad104,e104,hx104_0⟩ := Kd.at_string HR0.out x4_1 p104 q104
        cases e104
        replace hx104_0 := (HB.out.cell (World.block_lt_of_cell? w _ hx104_0)).trans hx104_0
        replace p104 := eq_true p104
        replace q104 := eq_true q104
        have p9 : 0 ≤ (x4_1 : Int) := of_decide_eq_true (by assumption)
        have q9 : (x4_1 : Int) < ((x3_1.length : Int) : Int) := of_decide_eq_true (by assumption)
        obtain ⟨go9,co9,eo9,gb9,gl9,cl9,HG9⟩ := Kd.R_form HO_3.out (by omega)
        (first | cases eo9 | (injection eo9 with ea_ en_ ec_;(first | subst ea_ | (injection ea_ with ea_;subst ea_));subst ec_;clear en_))
        have GB9 := qq.mk gb9
        have GG9 := qq.mk HG9
        clear gb9 gl9 HG9
        obtain ⟨hx9_0,hf9_0⟩ := Kd.R_celln (⟨#[]⟩ : ByteArray) HO_3.out (x4_1 : Int) p9 q9
        replace p9 := eq_true p9
        replace q9 := eq_true q9
        have HP10 := Kd.R_putg HO_3.out (x4_1 : Int) (rdOf ByteArray.empty l0 x4_1)
        go_wp2_with (first | ((with_reducible refine jw (t := 9) (p := 20) rfl ?_);refine jx (t := 9) (p := 20) (v := ?vo_w11) (w1 := (wr.setCell ⟨go9,(x4_1 : Int).toNat,none⟩ (.string (rdOf ByteArray.empty l0 x4_1)))) ?hg ?ho ?hn ?hr ?_;(case ho => rfl);(case hg => rfl);(case hn => rfl);(case hr => first | (go_simp;done) | (go_simp;rfl));intro w11 hw;have hg : wr.grownBy w11 (some go9) := (by rw [hw];exact HP10.2);have hp_ : Kd.R Kd.string 9 w11 w.heap.size (fun _ => True) (.slice (some ⟨go9,0,none⟩) x3_1.length co9) y105 := (by rw [hw,Ny105.out];exact HP10.1);clear HP10;have n0_ := qq.mk (hp_);have n1_ := qq.mk ((by rw [hw];exact qx (HB.out) GB9.out : Below w.heap.size w w11));clear HO_3;clear HB;have HO_3 := n0_;have HB := n1_;clear n0_ n1_;clear hg hw hp_))
        go_roundg k1
        case measure => have := HK1.out;omega
        case rel => exact ⟨(y105),(wrap64 (x4_1 + 1)),(by first | rfl | (simp;done) | (simp [*];done)),H',⟨by have := HK1.out;omega⟩,⟨by (with_reducible repeat (first | apply Kd.jq | apply Kd.zx | apply Kd.jz));exact HO_3.out⟩,⟨by repeat (first | (with_reducible first | exact HB.out | apply qj | apply qz | apply qk) | exact HB.out)⟩⟩
       ·rw [if_neg c8] at H
        exact absurd H (by simp)
      ·rw [if_neg c7] at H
       exact absurd H (by simp)
     ·rw [if_neg c6] at H
      have c6b0 : decide (x4_1 < (l0.length : Int)) = false := decide_eq_false c6
      clear c6
      obtain rfl := Option.some.inj H
      go_wp2
      go_ret
      exact ⟨_,by first | rfl | (simp [*,jk,jj] <;> rfl),by (with_reducible repeat (first | apply Kd.jq | apply Kd.zx | apply Kd.jz));exact HO_3.out,by repeat (first | (with_reducible first | exact HB.out | apply qj | apply qz | apply qk) | exact HB.out)⟩
  ·rw [if_neg c3] at H
   exact absurd H (by simp)
 ·rw [if_neg c2] at H
  exact absurd H (by simp)
def qqw.l0 : Nat → List ByteArray → List ByteArray → Int → Option (Bool)
 | 0,_,_,_ => none
 | k + 1,x0,x1,x5 => if x5 < (x0.length : Int) then (if 0 ≤ x5 then (if x5 < (x1.length : Int) then (if (rdOf ByteArray.empty x0 x5).toList = (rdOf ByteArray.empty x1 x5).toList then (qqw.l0 k x0 x1 (wrap64 (x5 + 1))) else (some false)) else (none)) else (none)) else (some true)
def qqw.f (k : Nat) (l0 : List ByteArray) (l1 : List ByteArray) : Option (Bool) := if (l0.length : Int) = (l1.length : Int) then (qqw.l0 k l0 l1 0) else (some false)
set_option maxHeartbeats 8000000 in
set_option maxRecDepth 100000 in
theorem qqw.calls (k : Nat) (A0 : Option Addr) (c0 : Nat) (l0 : List ByteArray) (A1 : Option Addr) (c1 : Nat) (l1 : List ByteArray) (r : Bool) (w : World) (hr0 : Kd.C Kd.string w A0 l0.length l0) (hc0 : l0.length ≤ c0) (hr1 : Kd.C Kd.string w A1 l1.length l1) (hc1 : l1.length ≤ c1) (h : qqw.f k l0 l1 = some r) :
  Calls Try.prog 85 #[.slice A0 l0.length c0,.slice A1 l1.length c1] w fun e w' => e = .returned (.bool r) ∧ Drawn0 w w' := by
 have HR0 := qq.mk hr0
 have HC0 := qq.mk hc0
 clear hr0 hc0
 have HR1 := qq.mk hr1
 have HC1 := qq.mk hc1
 clear hr1 hc1
 have H : (if (l0.length : Int) = (l1.length : Int) then (qqw.l0 k l0 l1 0) else (some false)) = some r := h
 clear h
 by_cases c3 : (l0.length : Int) = (l1.length : Int)
 ·rw [if_pos c3] at H
  have c3b0 : ((l0.length : Int) == (l1.length : Int)) = true := beq_iff_eq.mpr c3
  have c3b1 : ((l0.length : Int) != (l1.length : Int)) = false := bne_eq_false_iff_eq.mpr c3
  have c3b2 : (l0.length == l1.length) = true := by first | simpa using c3 | (simp at c3 ⊢;omega)
  clear c3
  have H' := qq.mk H
  clear H
  go_enter Try.func85,Try.ntmps85
  go_wp2
  repeat (go_quiet (fail);try go_wp2)
  go_loopg [5] k (fun kq v5 w' => ∃ (x5_1 : Int),v5 = .int .i64 x5_1 ∧ qq (qqw.l0 kq l0 l1 x5_1 = some r) ∧ qq (kq ≤ k) ∧ Drawn0 w w')
  case atStart => exact ⟨(0),(by first | rfl | (simp;done) | (simp [*];done)),H',⟨Nat.le_refl _⟩,by repeat (first | exact Drawn0.refl _ | apply Drawn0.step)⟩
  case round =>
   clear H'
   try clear c1
   try clear p2
   try clear c3
   try clear c3b0
   try clear c3b1
   try clear c3b2
   obtain ⟨x5_1,rfl,HA,HK1,⟨m1,rfl⟩⟩ := hrel
   cases gk with
   | zero => exact absurd HA.out (by simp [qqw.l0])
   | succ k1 =>
    have H := HA.out
    clear HA
    simp only [qqw.l0] at H
    by_cases c4 : x5_1 < (l0.length : Int)
    ·rw [if_pos c4] at H
     have c4b0 : decide (x5_1 < (l0.length : Int)) = true := decide_eq_true c4
     clear c4
     by_cases c5 : 0 ≤ x5_1
     ·rw [if_pos c5] at H
      have c5b0 : decide (0 ≤ x5_1) = true := decide_eq_true c5
      clear c5
      by_cases c6 : x5_1 < (l1.length : Int)
      ·rw [if_pos c6] at H
       have c6b0 : decide (x5_1 < (l1.length : Int)) = true := decide_eq_true c6
       clear c6
       by_cases c7 : (rdOf ByteArray.empty l0 x5_1).toList = (rdOf ByteArray.empty l1 x5_1).toList
       ·rw [if_pos c7] at H
        have c7b0 : ((rdOf ByteArray.empty l0 x5_1).toList == (rdOf ByteArray.empty l1 x5_1).toList) = true := beq_iff_eq.mpr c7
        have c7b1 : ((rdOf ByteArray.empty l0 x5_1).toList != (rdOf ByteArray.empty l1 x5_1).toList) = false := bne_eq_false_iff_eq.mpr c7
        clear c7
        have H' := qq.mk H
        clear H
        have p101 : 0 ≤ (x5_1 : Int) := of_decide_eq_true (by assumption)
        have q101 : x5_1 < (l0.length : Int) := of_decide_eq_true (by assumption)
        obtain ⟨ad101,e101,hx101_0⟩ := Kd.at_string HR0.out x5_1 p101 q101
        cases e101
        replace p101 := eq_true p101
        replace q101 := eq_true q101
        have p102 : 0 ≤ (x5_1 : Int) := of_decide_eq_true (by assumption)
        have q102 : x5_1 < (l1.length : Int) := of_decide_eq_true (by assumption)
        obtain ⟨ad102,e102,hx102_0⟩ := Kd.at_string HR1.out x5_1 p102 q102
        cases e102
        replace p102 := eq_true p102
        replace q102 := eq_true q102
        go_wp2
        repeat (go_quiet (fail);try go_wp2)
        go_roundg k1
        case measure => have := HK1.out;omega
        case rel => exact ⟨(wrap64 (x5_1 + 1)),(by first | rfl | (simp;done) | (simp [*];done)),H',⟨by have := HK1.out;omega⟩,by repeat (first | exact Drawn0.refl _ | apply Drawn0.step)⟩
       ·rw [if_neg c7] at H
        have c7b0 : ((rdOf ByteArray.empty l0 x5_1).toList == (rdOf ByteArray.empty l1 x5_1).toList) = false := beq_eq_false_iff_ne.mpr c7
        have c7b1 : ((rdOf ByteArray.empty l0 x5_1).toList != (rdOf ByteArray.empty l1 x5_1).toList) = true := bne_iff_ne.mpr c7
        obtain rfl := Option.some.inj H
        have p101 : 0 ≤ (x5_1 : Int) := of_decide_eq_true (by assumption)
        have q101 : x5_1 < (l0.length : Int) := of_decide_eq_true (by assumption)
        obtain ⟨ad101,e101,hx101_0⟩ := Kd.at_string HR0.out x5_1 p101 q101
        cases e101
        replace p101 := eq_true p101
        replace q101 := eq_true q101
        have p102 : 0 ≤ (x5_1 : Int) := of_decide_eq_true (by assumption)
        have q102 : x5_1 < (l1.length : Int) := of_decide_eq_true (by assumption)
        obtain ⟨ad102,e102,hx102_0⟩ := Kd.at_string HR1.out x5_1 p102 q102
        cases e102
        replace p102 := eq_true p102
        replace q102 := eq_true q102
        go_wp2
        repeat (go_quiet (fail);try go_wp2)
        go_ret
        exact ⟨by first | rfl | (simp;done) | (simp [*];done),by repeat (first | exact Drawn0.refl _ | apply Drawn0.step)⟩
      ·rw [if_neg c6] at H
       exact absurd H (by simp)
     ·rw [if_neg c5] at H
      exact absurd H (by simp)
    ·rw [if_neg c4] at H
     have c4b0 : decide (x5_1 < (l0.length : Int)) = false := decide_eq_false c4
     clear c4
     obtain rfl := Option.some.inj H
     go_wp2
     repeat (go_quiet (fail);try go_wp2)
     go_ret
     exact ⟨by first | rfl | (simp;done) | (simp [*];done),by repeat (first | exact Drawn0.refl _ | apply Drawn0.step)⟩
 ·rw [if_neg c3] at H
  have c3b0 : ((l0.length : Int) == (l1.length : Int)) = false := beq_eq_false_iff_ne.mpr c3
  have c3b1 : ((l0.length : Int) != (l1.length : Int)) = true := bne_iff_ne.mpr c3
  have c3b2 : (l0.length == l1.length) = false := by first | simpa using c3 | (simp at c3 ⊢;omega)
  obtain rfl := Option.some.inj H
  go_enter Try.func85,Try.ntmps85
  go_wp2
  repeat (go_quiet (fail);try go_wp2)
  go_ret
  exact ⟨by first | rfl | (simp;done) | (simp [*];done),by repeat (first | exact Drawn0.refl _ | apply Drawn0.step)⟩
def qzk.l0 : Nat → List ByteArray → Int → Int → Option (Int × List ByteArray)
 | 0,_,_,_ => none
 | k + 1,x0,x1,x5 => if x5 < (x0.length : Int) then ((qzv.f k x1).bind fun t101 => (if 0 ≤ x5 then (qzk.l0 k (x0.set (x5 : Int).toNat t101) (wrap64 (x1 + 1)) (wrap64 (x5 + 1))) else (none))) else (some (x1,x0))
def qzk.f (k : Nat) (l0 : List ByteArray) (a1 : Int) : Option (Int × List ByteArray) := qzk.l0 k l0 a1 0
set_option maxHeartbeats 8000000 in
set_option maxRecDepth 100000 in
theorem qzk.calls (k : Nat) (P0_ : Nat → Prop) (u9000_ : Value) (l0 : List ByteArray) (a1 : Int) (r1 : Int) (r2 : List ByteArray) (w0 w : World) (hB : Below w0.heap.size w0 w) (ho0 : Kd.R Kd.string 9 w w0.heap.size P0_ u9000_ l0) (h : qzk.f k l0 a1 = some (r1,r2)) :
  Calls Try.prog 87 #[u9000_,.int .i64 a1] w fun e w' => e = .returned (.int .i64 r1) ∧ Kd.R Kd.string 9 w' w0.heap.size (fun k_ => (P0_ k_ ∨ w.heap.size ≤ k_)) u9000_ r2 ∧ Below w0.heap.size w0 w' ∧ kz w w' (fun k_ => P0_ k_) := by
 have HO0 := qq.mk (show Kd.R Kd.string 9 w w0.heap.size (fun k_ => (P0_ k_ ∨ w.heap.size ≤ k_)) u9000_ l0 from Kd.R_mono ho0 (fun k_ hk => (.inl hk)))
 have HK := qq.mk (kz.refl w (fun k_ => P0_ k_))
 have HW0 := qq.mk hB.size
 have HB := qq.mk hB
 clear hB
 have H : (qzk.l0 k l0 a1 0) = some (r1,r2) := h
 clear h
 have H' := qq.mk H
 clear H
 go_enter Try.func87,Try.ntmps87
 go_wp2
 go_loopg [1,5] k (fun kq v1 v5 w' => ∃ (x0_1 : List ByteArray) (x1_1 : Int) (x5_1 : Int),v1 = .int .i64 x1_1 ∧ v5 = .int .i64 x5_1 ∧ qq (qzk.l0 kq x0_1 x1_1 x5_1 = some (r1,r2)) ∧ qq (kq ≤ k) ∧ qq (Kd.R Kd.string 9 w' w0.heap.size (fun k_ => (P0_ k_ ∨ w.heap.size ≤ k_)) u9000_ x0_1) ∧ qq (kz w w' (fun k_ => P0_ k_)) ∧ qq (Below w0.heap.size w0 w'))
 case atStart => exact ⟨(l0),(a1),(0),(by first | rfl | (simp;done) | (simp [*];done)),(by first | rfl | (simp;done) | (simp [*];done)),H',⟨Nat.le_refl _⟩,⟨by (with_reducible repeat (first | apply Kd.jq | apply Kd.zx | apply Kd.jz));exact HO0.out⟩,⟨by repeat (first | (with_reducible first | exact HK.out | apply kz.alloc | apply kz.drewN | apply kz.drew) | exact HK.out)⟩,⟨by repeat (first | (with_reducible first | exact HB.out | apply qj | apply qz | apply qk) | exact HB.out)⟩⟩
 case round =>
  clear H'
  try clear p2
  obtain ⟨x0_1,x1_1,x5_1,rfl,rfl,HA,HK1,HO_0,HK,HB⟩ := hrel
  cases gk with
  | zero => exact absurd HA.out (by simp [qzk.l0])
  | succ k1 =>
   have H := HA.out
   clear HA
   simp only [qzk.l0] at H
   by_cases c3 : x5_1 < (x0_1.length : Int)
   ·rw [if_pos c3] at H
    have c3b0 : decide (x5_1 < (x0_1.length : Int)) = true := decide_eq_true c3
    clear c3
    replace H := Option.bind_eq_some_iff.mp H
    obtain ⟨t101,A40,H⟩ := H
    replace H : (if 0 ≤ x5_1 then (qzk.l0 k1 (x0_1.set (x5_1 : Int).toNat t101) (wrap64 (x1_1 + 1)) (wrap64 (x5_1 + 1))) else (none)) = some (r1,r2) := H
    have A4 := qq.mk A40
    clear A40
    by_cases c5 : 0 ≤ x5_1
    ·rw [if_pos c5] at H
     have c5b0 : decide (0 ≤ x5_1) = true := decide_eq_true c5
     clear c5
     obtain ⟨y102,hy102⟩ : ∃ y_ : List ByteArray,y_ = (x0_1.set (x5_1 : Int).toNat t101) := ⟨_,rfl⟩
     replace H : (qzk.l0 k1 y102 (wrap64 (x1_1 + 1)) (wrap64 (x5_1 + 1))) = some (r1,r2) := by first | (rw [hy102];with_reducible exact H) | (have H2_ := (Option.bind_some _ _).symm.trans H;rw [hy102];with_reducible exact H2_) | (have H2_ := (Option.bind_some _ _).symm.trans H;with_reducible exact H2_) | with_reducible exact H | (rw [hy102];exact H) | exact H
     have Ny102 := qq.mk hy102
     clear hy102
     have H' := qq.mk H
     clear H
     obtain ⟨Ao7,co7,eo7⟩ := Kd.R_slice HO_0.out
     subst eo7
     go_wp2_with (first | ((with_reducible refine jv (f := 129) rfl ?_);refine goesL_ (some 15) rfl rfl Try.func129 (by kernel_rfl) rfl #[.int .i64 x1_1] rfl (by (try simp only [List.map_toArray,List.map_cons,List.map_nil]);first | done | rfl | (simp only [List.length_drop,List.length_take];rfl)) ?_;(with_reducible refine (qzv.calls k1 x1_1 t101 _ A4.out).mono ?_);rintro e w8 ⟨rfl,hb⟩;refine ⟨_,rfl,?_⟩;have n0_ := qq.mk (Kd.R_below (by (with_reducible repeat (first | apply Kd.jq | apply Kd.zx | apply Kd.jz));exact HO_0.out) hb);have n1_ := qq.mk (kz.below (S := (fun k_ => P0_ k_)) (by repeat (first | (with_reducible first | exact HK.out | apply kz.alloc | apply kz.drewN | apply kz.drew) | exact HK.out)) hb);have n2_ := qq.mk (zv (by repeat (first | (with_reducible first | exact HB.out | apply qj | apply qz | apply qk) | exact HB.out)) hb);clear HO_0;clear HK;clear HB;have HO_0 := n0_;have HK := n1_;have HB := n2_;clear n0_ n1_ n2_;(try clear hb);(try clear hb2);(try clear hk);(try clear hi);have p6 : 0 ≤ (x5_1 : Int) := of_decide_eq_true (by assumption);have q6 : (x5_1 : Int) < ((x0_1.length : Int) : Int) := of_decide_eq_true (by assumption);obtain ⟨go6,co6,eo6,gb6,gl6,cl6,HG6⟩ := Kd.R_form HO_0.out (by omega);(first | cases eo6 | (injection eo6 with ea_ en_ ec_;(first | subst ea_ | (injection ea_ with ea_;subst ea_));subst ec_;clear en_));have GB6 := qq.mk gb6;have GG6 := qq.mk HG6;clear gb6 gl6 HG6;have HMgo6 := qq.mk (show (P0_ go6 ∨ w.heap.size ≤ go6) from (HO_0.out.1 _ rfl));obtain ⟨hx6_0,hf6_0⟩ := Kd.R_celln (⟨#[]⟩ : ByteArray) HO_0.out (x5_1 : Int) p6 q6;replace p6 := eq_true p6;replace q6 := eq_true q6;obtain ⟨hy9_,hz9_⟩ := Kd.R_celln (⟨#[]⟩ : ByteArray) HO_0.out (x5_1 : Int) (of_decide_eq_true (by assumption)) (of_decide_eq_true (by assumption));have HP9 := Kd.R_putg HO_0.out (x5_1 : Int) t101) | ((with_reducible refine jw (t := 9) (p := 16) rfl ?_);refine jx (t := 9) (p := 16) (v := ?vo_w10) (w1 := (w8.setCell ⟨go6,(x5_1 : Int).toNat,none⟩ (.string t101))) ?hg ?ho ?hn ?hr ?_;(case ho => rfl);(case hg => rfl);(case hn => rfl);(case hr => first | (go_simp;done) | (go_simp;rfl));intro w10 hw;have hg : w8.grownBy w10 (some go6) := (by rw [hw];exact HP9.2);have hp_ : Kd.R Kd.string 9 w10 w0.heap.size (fun k_ => (P0_ k_ ∨ w.heap.size ≤ k_)) (.slice (some ⟨go6,0,none⟩) x0_1.length co7) y102 := (by rw [hw,Ny102.out];exact HP9.1);clear HP9;have n0_ := qq.mk (hp_);have n1_ := qq.mk ((by rw [hw];exact qx (HB.out) GB6.out : Below w0.heap.size w0 w10));have n2_ := qq.mk (kz.of_grown (S := (fun k_ => P0_ k_)) hg (by repeat (first | (with_reducible first | exact HK.out | apply kz.alloc | apply kz.drewN | apply kz.drew) | exact HK.out)) (fun k_ e_ => (HO_0.out.1 k_ e_)));clear HO_0;clear HB;clear HK;have HO_0 := n0_;have HB := n1_;have HK := n2_;clear n0_ n1_ n2_;clear hg hw hp_))
     go_roundg k1
     case measure => have := HK1.out;omega
     case rel => exact ⟨(y102),(wrap64 (x1_1 + 1)),(wrap64 (x5_1 + 1)),(by first | rfl | (simp;done) | (simp [*];done)),(by first | rfl | (simp;done) | (simp [*];done)),H',⟨by have := HK1.out;omega⟩,⟨by (with_reducible repeat (first | apply Kd.jq | apply Kd.zx | apply Kd.jz));exact HO_0.out⟩,⟨by repeat (first | (with_reducible first | exact HK.out | apply kz.alloc | apply kz.drewN | apply kz.drew) | exact HK.out)⟩,⟨by repeat (first | (with_reducible first | exact HB.out | apply qj | apply qz | apply qk) | exact HB.out)⟩⟩
    ·rw [if_neg c5] at H
     exact absurd H (by simp)
   ·rw [if_neg c3] at H
    have c3b0 : decide (x5_1 < (x0_1.length : Int)) = false := decide_eq_false c3
    clear c3
    simp only [Option.some.injEq,Prod.mk.injEq] at H
    obtain ⟨rfl,rfl⟩ := H
    obtain ⟨Ao11,co11,eo11⟩ := Kd.R_slice HO_0.out
    subst eo11
    go_wp2
    go_ret
    exact ⟨by first | rfl | (simp [*,jk,jj] <;> rfl),by (with_reducible repeat (first | apply Kd.jq | apply Kd.zx | apply Kd.jz));exact HO_0.out,by repeat (first | (with_reducible first | exact HB.out | apply qj | apply qz | apply qk) | exact HB.out),by repeat (first | (with_reducible first | exact HK.out | apply kz.alloc | apply kz.drewN | apply kz.drew) | exact HK.out)⟩
def qzx.f (k : Nat) (a0_0 : Int) (a0_1 : Int) (l0_2 : List ByteArray) (a0_3 : Int) (a1 : Int) : Option (Int) := (qjj.f k l0_2 a1).bind fun t102 => (if t102 < 0 then (some (-1)) else (some t102))
set_option maxHeartbeats 8000000 in
set_option maxRecDepth 100000 in
theorem qzx.calls (k : Nat) (a0_0 : Int) (a0_1 : Int) (A0_2 : Option Addr) (c0_2 : Nat) (l0_2 : List ByteArray) (a0_3 : Int) (a1 : Int) (r : Int) (w : World) (hr0_2 : Kd.C Kd.string w A0_2 l0_2.length l0_2) (hc0_2 : l0_2.length ≤ c0_2) (h : qzx.f k a0_0 a0_1 l0_2 a0_3 a1 = some r) :
  Calls Try.prog 21 #[.agg #[.int .i64 a0_0,.int .i64 a0_1,.slice A0_2 l0_2.length c0_2,.int .i64 a0_3],.int .i64 a1] w fun e w' => e = .returned (.int .i64 r) ∧ Below w.heap.size w w' := by
 have hu47 := Try.underlying47
 have HR0_2 := qq.mk hr0_2
 have HC0_2 := qq.mk hc0_2
 clear hr0_2 hc0_2
 have HB := qq.mk (Below.refl w.heap.size w)
 have H : ((qjj.f k l0_2 a1).bind fun t102 => (if t102 < 0 then (some (-1)) else (some t102))) = some r := h
 clear h
 replace H := Option.bind_eq_some_iff.mp H
 obtain ⟨t102,A30,H⟩ := H
 replace H : (if t102 < 0 then (some (-1)) else (some t102)) = some r := H
 have A3 := qq.mk A30
 clear A30
 by_cases c4 : t102 < 0
 ·rw [if_pos c4] at H
  have c4b0 : decide (t102 < 0) = true := decide_eq_true c4
  clear c4
  obtain rfl := Option.some.inj H
  go_enter Try.func21,Try.ntmps21
  go_wp2_with (first | ((with_reducible refine gate_dst (N := 2) rfl ?_);refine box_event ?hg (N := 2) ?hd (cs := #[.int .i64 a0_0,.int .i64 a0_1,.slice A0_2 l0_2.length c0_2,.int .i64 a0_3]) (t := 47) ?hr ?_;(case hd => rfl);(case hg => rfl);(case hr => first | (go_simp;done) | (go_simp;rfl));intro gb101 hg w5 hbox hb;have n0_ := qq.mk (zv (by repeat (first | (with_reducible first | exact HB.out | apply qj | apply qz | apply qk) | exact HB.out)) hb);have n1_ := qq.mk (hbox);have n2_ := qq.mk ((by rw [hg];exact (zw (by repeat (first | (with_reducible first | exact HB.out | apply qj | apply qz | apply qk) | exact HB.out))) : w.heap.size ≤ gb101));have n3_ := qq.mk ((by rw [hg];exact (zw (by repeat (first | (with_reducible first | exact HB.out | apply qj | apply qz | apply qk) | exact HB.out))) : w.heap.size ≤ gb101));clear HB;have HB := n0_;have BK101 := n1_;have GW101 := n2_;have GE101 := n3_;clear n0_ n1_ n2_ n3_;clear hb hbox hg;have hcz6_0 : w5.cell? ⟨gb101,0,none⟩ = some (.int .i64 a0_0) := (qw BK101.out 0).trans rfl;have hcz6_1 : w5.cell? ⟨gb101,1,none⟩ = some (.int .i64 a0_1) := (qw BK101.out 1).trans rfl;have hcz6_2 : w5.cell? ⟨gb101,2,none⟩ = some (.slice A0_2 l0_2.length c0_2) := (qw BK101.out 2).trans rfl;have hcz6_3 : w5.cell? ⟨gb101,3,none⟩ = some (.int .i64 a0_3) := (qw BK101.out 3).trans rfl;have hfz6_0 := qv BK101.out 0;have hfz6_1 := qv BK101.out 1;have hfz6_2 := qv BK101.out 2;have hfz6_3 := qv BK101.out 3) | ((with_reducible refine jv (f := 69) rfl ?_);refine goesL_ (some 8) rfl rfl Try.func69 (by kernel_rfl) rfl #[.slice A0_2 l0_2.length c0_2,.int .i64 a1] rfl (by (try simp only [List.map_toArray,List.map_cons,List.map_nil]);first | done | rfl | (simp only [List.length_drop,List.length_take];rfl)) ?_;(with_reducible refine (qjj.calls k _ _ l0_2 a1 t102 _ ?side1 ?side2 A3.out).mono ?_);(case side1 => repeat (first | exact (Kd.C_below HR0_2.out HB.out) | (with_reducible refine Kd.C_alloc ?_ _) | (with_reducible refine Kd.C_drewN ?_ _) | (with_reducible refine Kd.C_drew ?_)));(case side2 => exact HC0_2.out);rintro e w' ⟨rfl,⟨nd,rfl⟩⟩;refine ⟨_,rfl,?_⟩))
  go_ret
  exact ⟨by first | rfl | (simp [*,jk,jj] <;> rfl),by repeat (first | (with_reducible first | exact HB.out | apply qj | apply qz | apply qk | refine qx ?_ GE101.out) | exact HB.out)⟩
 ·rw [if_neg c4] at H
  have c4b0 : decide (t102 < 0) = false := decide_eq_false c4
  clear c4
  obtain rfl := Option.some.inj H
  go_enter Try.func21,Try.ntmps21
  go_wp2_with (first | ((with_reducible refine gate_dst (N := 2) rfl ?_);refine box_event ?hg (N := 2) ?hd (cs := #[.int .i64 a0_0,.int .i64 a0_1,.slice A0_2 l0_2.length c0_2,.int .i64 a0_3]) (t := 47) ?hr ?_;(case hd => rfl);(case hg => rfl);(case hr => first | (go_simp;done) | (go_simp;rfl));intro gb101 hg w7 hbox hb;have n0_ := qq.mk (zv (by repeat (first | (with_reducible first | exact HB.out | apply qj | apply qz | apply qk) | exact HB.out)) hb);have n1_ := qq.mk (hbox);have n2_ := qq.mk ((by rw [hg];exact (zw (by repeat (first | (with_reducible first | exact HB.out | apply qj | apply qz | apply qk) | exact HB.out))) : w.heap.size ≤ gb101));have n3_ := qq.mk ((by rw [hg];exact (zw (by repeat (first | (with_reducible first | exact HB.out | apply qj | apply qz | apply qk) | exact HB.out))) : w.heap.size ≤ gb101));clear HB;have HB := n0_;have BK101 := n1_;have GW101 := n2_;have GE101 := n3_;clear n0_ n1_ n2_ n3_;clear hb hbox hg;have hcz8_0 : w7.cell? ⟨gb101,0,none⟩ = some (.int .i64 a0_0) := (qw BK101.out 0).trans rfl;have hcz8_1 : w7.cell? ⟨gb101,1,none⟩ = some (.int .i64 a0_1) := (qw BK101.out 1).trans rfl;have hcz8_2 : w7.cell? ⟨gb101,2,none⟩ = some (.slice A0_2 l0_2.length c0_2) := (qw BK101.out 2).trans rfl;have hcz8_3 : w7.cell? ⟨gb101,3,none⟩ = some (.int .i64 a0_3) := (qw BK101.out 3).trans rfl;have hfz8_0 := qv BK101.out 0;have hfz8_1 := qv BK101.out 1;have hfz8_2 := qv BK101.out 2;have hfz8_3 := qv BK101.out 3) | ((with_reducible refine jv (f := 69) rfl ?_);refine goesL_ (some 8) rfl rfl Try.func69 (by kernel_rfl) rfl #[.slice A0_2 l0_2.length c0_2,.int .i64 a1] rfl (by (try simp only [List.map_toArray,List.map_cons,List.map_nil]);first | done | rfl | (simp only [List.length_drop,List.length_take];rfl)) ?_;(with_reducible refine (qjj.calls k _ _ l0_2 a1 t102 _ ?side1 ?side2 A3.out).mono ?_);(case side1 => repeat (first | exact (Kd.C_below HR0_2.out HB.out) | (with_reducible refine Kd.C_alloc ?_ _) | (with_reducible refine Kd.C_drewN ?_ _) | (with_reducible refine Kd.C_drew ?_)));(case side2 => exact HC0_2.out);rintro e w' ⟨rfl,⟨nd,rfl⟩⟩;refine ⟨_,rfl,?_⟩))
  go_ret
  exact ⟨by first | rfl | (simp [*,jk,jj] <;> rfl),by repeat (first | (with_reducible first | exact HB.out | apply qj | apply qz | apply qk | refine qx ?_ GE101.out) | exact HB.out)⟩
def qjv.f (k : Nat) (a0_0 : Int) (a0_1 : Int) (l0_2 : List ByteArray) (a0_3 : Int) : Option (Int × Int × List ByteArray × Int) := (qkq.f k l0_2).bind fun t104 => (some (a0_0,a0_1,t104,a0_3))
set_option maxHeartbeats 8000000 in
set_option maxRecDepth 100000 in
theorem qjv.calls (k : Nat) (a0_0 : Int) (a0_1 : Int) (A0_2 : Option Addr) (c0_2 : Nat) (l0_2 : List ByteArray) (a0_3 : Int) (r1 : Int) (r2 : Int) (r3 : List ByteArray) (r4 : Int) (w : World) (hr0_2 : Kd.C Kd.string w A0_2 l0_2.length l0_2) (hc0_2 : l0_2.length ≤ c0_2) (h : qjv.f k a0_0 a0_1 l0_2 a0_3 = some (r1,r2,r3,r4)) :
  Calls Try.prog 24 #[.agg #[.int .i64 a0_0,.int .i64 a0_1,.slice A0_2 l0_2.length c0_2,.int .i64 a0_3]] w fun e w' => ∃ v2_ : Value,e = .returned (.agg #[.int .i64 r1,.int .i64 r2,v2_,.int .i64 r4]) ∧ Kd.R Kd.string 9 w' w.heap.size (fun _ => True) v2_ r3 ∧ Below w.heap.size w w' := by
 have hu47 := Try.underlying47
 have hu53 := Try.underlying53
 have HR0_2 := qq.mk hr0_2
 have HC0_2 := qq.mk hc0_2
 clear hr0_2 hc0_2
 have HB := qq.mk (Below.refl w.heap.size w)
 have H : ((qkq.f k l0_2).bind fun t104 => (some (a0_0,a0_1,t104,a0_3))) = some (r1,r2,r3,r4) := h
 clear h
 replace H := Option.bind_eq_some_iff.mp H
 obtain ⟨t104,A20,H⟩ := H
 replace H : (some (a0_0,a0_1,t104,a0_3)) = some (r1,r2,r3,r4) := H
 have A2 := qq.mk A20
 clear A20
 simp only [Option.some.injEq,Prod.mk.injEq] at H
 obtain ⟨rfl,rfl,rfl,rfl⟩ := H
 go_enter Try.func24,Try.ntmps24
 go_wp2_with (first | ((with_reducible refine gate_dst (N := 1) rfl ?_);refine box_event ?hg (N := 1) ?hd (cs := #[.int .i64 a0_0,.int .i64 a0_1,.slice A0_2 l0_2.length c0_2,.int .i64 a0_3]) (t := 47) ?hr ?_;(case hd => rfl);(case hg => rfl);(case hr => first | (go_simp;done) | (go_simp;rfl));intro gb101 hg w3 hbox hb;have n0_ := qq.mk (zv (by repeat (first | (with_reducible first | exact HB.out | apply qj | apply qz | apply qk) | exact HB.out)) hb);have n1_ := qq.mk (hbox);have n2_ := qq.mk ((by rw [hg];exact (zw (by repeat (first | (with_reducible first | exact HB.out | apply qj | apply qz | apply qk) | exact HB.out))) : w.heap.size ≤ gb101));have n3_ := qq.mk ((by rw [hg];exact (zw (by repeat (first | (with_reducible first | exact HB.out | apply qj | apply qz | apply qk) | exact HB.out))) : w.heap.size ≤ gb101));clear HB;have HB := n0_;have BK101 := n1_;have GW101 := n2_;have GE101 := n3_;clear n0_ n1_ n2_ n3_;clear hb hbox hg) | ((with_reducible refine gate_dst (N := 2) rfl ?_);refine box_event ?hg (N := 2) ?hd (cs := #[.int .i64 0,.int .i64 0,.slice none 0 0,.int .i64 0]) (t := 53) ?hr ?_;(case hd => rfl);(case hg => rfl);(case hr => first | (go_simp;done) | (go_simp;rfl));intro gb102 hg w4 hbox hb;have n0_ := qq.mk (vz (g := gb101) (o := .cells #[.int .i64 a0_0,.int .i64 a0_1,.slice A0_2 l0_2.length c0_2,.int .i64 a0_3] 47 (0,0)) (by (with_reducible repeat (first | refine zz ?_ _ | refine zj ?_ | refine zq ?_ _));exact BK101.out) hb);have n1_ := qq.mk (zv (by repeat (first | (with_reducible first | exact HB.out | apply qj | apply qz | apply qk | refine qx ?_ GE101.out) | exact HB.out)) hb);have n2_ := qq.mk (hbox);have n3_ := qq.mk ((by rw [hg];exact (zw (by repeat (first | (with_reducible first | exact HB.out | apply qj | apply qz | apply qk | refine qx ?_ GE101.out) | exact HB.out))) : w.heap.size ≤ gb102));have n4_ := qq.mk ((by rw [hg];exact (zw (by repeat (first | (with_reducible first | exact HB.out | apply qj | apply qz | apply qk | refine qx ?_ GE101.out) | exact HB.out))) : w.heap.size ≤ gb102));have n5_ := qq.mk ((by rw [hg];exact Nat.ne_of_lt (blk_lt (g := gb101) (o := .cells #[.int .i64 a0_0,.int .i64 a0_1,.slice A0_2 l0_2.length c0_2,.int .i64 a0_3] 47 (0,0)) (by (with_reducible repeat (first | refine zz ?_ _ | refine zj ?_ | refine zq ?_ _));exact BK101.out)) : gb101 ≠ gb102));have n6_ := qq.mk ((by rw [hg];exact Nat.ne_of_gt (blk_lt (g := gb101) (o := .cells #[.int .i64 a0_0,.int .i64 a0_1,.slice A0_2 l0_2.length c0_2,.int .i64 a0_3] 47 (0,0)) (by (with_reducible repeat (first | refine zz ?_ _ | refine zj ?_ | refine zq ?_ _));exact BK101.out)) : gb102 ≠ gb101));clear BK101;clear HB;have BK101 := n0_;have HB := n1_;have BK102 := n2_;have GW102 := n3_;have GE102 := n4_;have NB101_102 := n5_;have NB102_101 := n6_;clear n0_ n1_ n2_ n3_ n4_ n5_ n6_;clear hb hbox hg) | ((with_reducible refine gate_dst (N := 3) rfl ?_);refine box_event ?hg (N := 3) ?hd (cs := #[.int .i64 0,.int .i64 0,.slice none 0 0,.int .i64 0]) (t := 53) ?hr ?_;(case hd => rfl);(case hg => rfl);(case hr => first | (go_simp;done) | (go_simp;rfl));intro gb103 hg w5 hbox hb;have n0_ := qq.mk (vz (g := gb101) (o := .cells #[.int .i64 a0_0,.int .i64 a0_1,.slice A0_2 l0_2.length c0_2,.int .i64 a0_3] 47 (0,0)) (by (with_reducible repeat (first | refine zz ?_ _ | refine zj ?_ | refine zq ?_ _));exact BK101.out) hb);have n1_ := qq.mk (vz (g := gb102) (o := .cells #[.int .i64 0,.int .i64 0,.slice none 0 0,.int .i64 0] 53 (0,0)) (by (with_reducible repeat (first | refine zz ?_ _ | refine zj ?_ | refine zq ?_ _));exact BK102.out) hb);have n2_ := qq.mk (zv (by repeat (first | (with_reducible first | exact HB.out | apply qj | apply qz | apply qk | refine qx ?_ GE101.out | refine qx ?_ GE102.out) | exact HB.out)) hb);have n3_ := qq.mk (hbox);have n4_ := qq.mk ((by rw [hg];exact (zw (by repeat (first | (with_reducible first | exact HB.out | apply qj | apply qz | apply qk | refine qx ?_ GE101.out | refine qx ?_ GE102.out) | exact HB.out))) : w.heap.size ≤ gb103));have n5_ := qq.mk ((by rw [hg];exact (zw (by repeat (first | (with_reducible first | exact HB.out | apply qj | apply qz | apply qk | refine qx ?_ GE101.out | refine qx ?_ GE102.out) | exact HB.out))) : w.heap.size ≤ gb103));have n6_ := qq.mk ((by rw [hg];exact Nat.ne_of_lt (blk_lt (g := gb101) (o := .cells #[.int .i64 a0_0,.int .i64 a0_1,.slice A0_2 l0_2.length c0_2,.int .i64 a0_3] 47 (0,0)) (by (with_reducible repeat (first | refine zz ?_ _ | refine zj ?_ | refine zq ?_ _));exact BK101.out)) : gb101 ≠ gb103));have n7_ := qq.mk ((by rw [hg];exact Nat.ne_of_gt (blk_lt (g := gb101) (o := .cells #[.int .i64 a0_0,.int .i64 a0_1,.slice A0_2 l0_2.length c0_2,.int .i64 a0_3] 47 (0,0)) (by (with_reducible repeat (first | refine zz ?_ _ | refine zj ?_ | refine zq ?_ _));exact BK101.out)) : gb103 ≠ gb101));have n8_ := qq.mk ((by rw [hg];exact Nat.ne_of_lt (blk_lt (g := gb102) (o := .cells #[.int .i64 0,.int .i64 0,.slice none 0 0,.int .i64 0] 53 (0,0)) (by (with_reducible repeat (first | refine zz ?_ _ | refine zj ?_ | refine zq ?_ _));exact BK102.out)) : gb102 ≠ gb103));have n9_ := qq.mk ((by rw [hg];exact Nat.ne_of_gt (blk_lt (g := gb102) (o := .cells #[.int .i64 0,.int .i64 0,.slice none 0 0,.int .i64 0] 53 (0,0)) (by (with_reducible repeat (first | refine zz ?_ _ | refine zj ?_ | refine zq ?_ _));exact BK102.out)) : gb103 ≠ gb102));clear BK101;clear BK102;clear HB;have BK101 := n0_;have BK102 := n1_;have HB := n2_;have BK103 := n3_;have GW103 := n4_;have GE103 := n5_;have NB101_103 := n6_;have NB103_101 := n7_;have NB102_103 := n8_;have NB103_102 := n9_;clear n0_ n1_ n2_ n3_ n4_ n5_ n6_ n7_ n8_ n9_;clear hb hbox hg;have hnb6 := NB101_102.out;have hnc6 := NB102_101.out;have hnb7 := NB101_103.out;have hnc7 := NB103_101.out;have hcz8_0 : w5.cell? ⟨gb101,0,none⟩ = some (.int .i64 a0_0) := (qw BK101.out 0).trans rfl;have hcz8_1 : w5.cell? ⟨gb101,1,none⟩ = some (.int .i64 a0_1) := (qw BK101.out 1).trans rfl;have hcz8_2 : w5.cell? ⟨gb101,2,none⟩ = some (.slice A0_2 l0_2.length c0_2) := (qw BK101.out 2).trans rfl;have hcz8_3 : w5.cell? ⟨gb101,3,none⟩ = some (.int .i64 a0_3) := (qw BK101.out 3).trans rfl;have hfz8_0 := qv BK101.out 0;have hfz8_1 := qv BK101.out 1;have hfz8_2 := qv BK101.out 2;have hfz8_3 := qv BK101.out 3;have hnb9 := NB103_102.out;have hnc9 := NB102_103.out;have hcz10_0 : w5.cell? ⟨gb103,0,none⟩ = some (.int .i64 0) := (qw BK103.out 0).trans rfl;have hcz10_1 : w5.cell? ⟨gb103,1,none⟩ = some (.int .i64 0) := (qw BK103.out 1).trans rfl;have hcz10_2 : w5.cell? ⟨gb103,2,none⟩ = some (.slice none 0 0) := (qw BK103.out 2).trans rfl;have hcz10_3 : w5.cell? ⟨gb103,3,none⟩ = some (.int .i64 0) := (qw BK103.out 3).trans rfl;have hfz10_0 := qv BK103.out 0;have hfz10_1 := qv BK103.out 1;have hfz10_2 := qv BK103.out 2;have hfz10_3 := qv BK103.out 3) | ((with_reducible refine jv (f := 76) rfl ?_);refine goesL_ (some 12) rfl rfl Try.func76 (by kernel_rfl) rfl #[.slice A0_2 l0_2.length c0_2] rfl (by (try simp only [List.map_toArray,List.map_cons,List.map_nil]);first | done | rfl | (simp only [List.length_drop,List.length_take];rfl)) ?_;(with_reducible refine (qkq.calls k _ _ l0_2 t104 _ ?side1 ?side2 A2.out).mono ?_);(case side1 => exact Kd.C_below HR0_2.out (by repeat (first | (with_reducible first | exact HB.out | apply qj | apply qz | apply qk | refine qx ?_ GE101.out | refine qx ?_ GE102.out | refine qx ?_ GE103.out) | exact HB.out)));(case side2 => exact HC0_2.out);rintro e w11 ⟨v105,rfl,ho0,hb⟩;refine ⟨_,rfl,?_⟩;have n0_ := qq.mk (Kd.R_lower ho0 (zw (by repeat (first | (with_reducible first | exact HB.out | apply qj | apply qz | apply qk | refine qx ?_ GE101.out | refine qx ?_ GE102.out | refine qx ?_ GE103.out) | exact HB.out))));have n1_ := qq.mk (vz (g := gb101) (o := .cells #[.int .i64 a0_0,.int .i64 a0_1,.slice A0_2 l0_2.length c0_2,.int .i64 a0_3] 47 (0,0)) (by (with_reducible repeat (first | refine zz ?_ _ | refine zj ?_ | refine zq ?_ _));refine blk_far ?_ NB101_103.out _;(with_reducible repeat (first | refine zz ?_ _ | refine zj ?_ | refine zq ?_ _));refine blk_far ?_ NB101_103.out _;(with_reducible repeat (first | refine zz ?_ _ | refine zj ?_ | refine zq ?_ _));exact BK101.out) hb);have n2_ := qq.mk (vz (g := gb102) (o := .cells #[.int .i64 0,.int .i64 0,.slice none 0 0,.int .i64 0] 53 (0,0)) (by (with_reducible repeat (first | refine zz ?_ _ | refine zj ?_ | refine zq ?_ _));refine blk_far ?_ NB102_103.out _;(with_reducible repeat (first | refine zz ?_ _ | refine zj ?_ | refine zq ?_ _));refine blk_far ?_ NB102_103.out _;(with_reducible repeat (first | refine zz ?_ _ | refine zj ?_ | refine zq ?_ _));exact BK102.out) hb);have n3_ := qq.mk (vz (g := gb103) (o := .cells #[.int .i64 a0_0,.int .i64 a0_1,.slice none 0 0,.int .i64 0] 53 (0,0)) (by (with_reducible repeat (first | refine zz ?_ _ | refine zj ?_ | refine zq ?_ _));refine blk_put (cs := #[.int .i64 a0_0,.int .i64 0,.slice none 0 0,.int .i64 0]) ?_ 1 _ rfl;(with_reducible repeat (first | refine zz ?_ _ | refine zj ?_ | refine zq ?_ _));refine blk_put (cs := #[.int .i64 0,.int .i64 0,.slice none 0 0,.int .i64 0]) ?_ 0 _ rfl;(with_reducible repeat (first | refine zz ?_ _ | refine zj ?_ | refine zq ?_ _));exact BK103.out) hb);have n4_ := qq.mk (zv (by repeat (first | (with_reducible first | exact HB.out | apply qj | apply qz | apply qk | refine qx ?_ GE101.out | refine qx ?_ GE102.out | refine qx ?_ GE103.out) | exact HB.out)) hb);clear BK101;clear BK102;clear BK103;clear HB;have HO106 := n0_;have BK101 := n1_;have BK102 := n2_;have BK103 := n3_;have HB := n4_;clear n0_ n1_ n2_ n3_ n4_;(try clear hb);(try clear hb2);(try clear hk);(try clear hi);(try clear ho0);obtain ⟨Ao12,co12,eo12⟩ := Kd.R_slice HO106.out;subst eo12;have hcz13_0 : w11.cell? ⟨gb103,0,none⟩ = some (.int .i64 a0_0) := (qw BK103.out 0).trans rfl;have hcz13_1 : w11.cell? ⟨gb103,1,none⟩ = some (.int .i64 a0_1) := (qw BK103.out 1).trans rfl;have hcz13_2 : w11.cell? ⟨gb103,2,none⟩ = some (.slice none 0 0) := (qw BK103.out 2).trans rfl;have hcz13_3 : w11.cell? ⟨gb103,3,none⟩ = some (.int .i64 0) := (qw BK103.out 3).trans rfl;have hfz13_0 := qv BK103.out 0;have hfz13_1 := qv BK103.out 1;have hfz13_2 := qv BK103.out 2;have hfz13_3 := qv BK103.out 3;have hcz14_0 : w11.cell? ⟨gb101,0,none⟩ = some (.int .i64 a0_0) := (qw BK101.out 0).trans rfl;have hcz14_1 : w11.cell? ⟨gb101,1,none⟩ = some (.int .i64 a0_1) := (qw BK101.out 1).trans rfl;have hcz14_2 : w11.cell? ⟨gb101,2,none⟩ = some (.slice A0_2 l0_2.length c0_2) := (qw BK101.out 2).trans rfl;have hcz14_3 : w11.cell? ⟨gb101,3,none⟩ = some (.int .i64 a0_3) := (qw BK101.out 3).trans rfl;have hfz14_0 := qv BK101.out 0;have hfz14_1 := qv BK101.out 1;have hfz14_2 := qv BK101.out 2;have hfz14_3 := qv BK101.out 3;have hcz15_0 : w11.cell? ⟨gb102,0,none⟩ = some (.int .i64 0) := (qw BK102.out 0).trans rfl;have hcz15_1 : w11.cell? ⟨gb102,1,none⟩ = some (.int .i64 0) := (qw BK102.out 1).trans rfl;have hcz15_2 : w11.cell? ⟨gb102,2,none⟩ = some (.slice none 0 0) := (qw BK102.out 2).trans rfl;have hcz15_3 : w11.cell? ⟨gb102,3,none⟩ = some (.int .i64 0) := (qw BK102.out 3).trans rfl;have hfz15_0 := qv BK102.out 0;have hfz15_1 := qv BK102.out 1;have hfz15_2 := qv BK102.out 2;have hfz15_3 := qv BK102.out 3))
 refine bodyPost_ret (results_cell_row rfl _ _ gb102 53 #[.int .i64 a0_0,.int .i64 a0_1,.slice Ao12 t104.length co12,.int .i64 a0_3] (0,0) _ rfl (by (with_reducible repeat (first | refine zz ?_ _ | refine zj ?_ | refine zq ?_ _));refine blk_put (cs := #[.int .i64 a0_0,.int .i64 a0_1,.slice Ao12 t104.length co12,.int .i64 0]) ?_ 3 _ rfl;(with_reducible repeat (first | refine zz ?_ _ | refine zj ?_ | refine zq ?_ _));refine blk_put (cs := #[.int .i64 a0_0,.int .i64 a0_1,.slice none 0 0,.int .i64 0]) ?_ 2 _ rfl;(with_reducible repeat (first | refine zz ?_ _ | refine zj ?_ | refine zq ?_ _));refine blk_put (cs := #[.int .i64 a0_0,.int .i64 0,.slice none 0 0,.int .i64 0]) ?_ 1 _ rfl;(with_reducible repeat (first | refine zz ?_ _ | refine zj ?_ | refine zq ?_ _));refine blk_put (cs := #[.int .i64 0,.int .i64 0,.slice none 0 0,.int .i64 0]) ?_ 0 _ rfl;(with_reducible repeat (first | refine zz ?_ _ | refine zj ?_ | refine zq ?_ _));refine blk_far ?_ NB102_103.out _;(with_reducible repeat (first | refine zz ?_ _ | refine zj ?_ | refine zq ?_ _));refine blk_far ?_ NB102_103.out _;(with_reducible repeat (first | refine zz ?_ _ | refine zj ?_ | refine zq ?_ _));exact BK102.out) Try.underlying53 rfl (by kernel_rfl)) rfl ?_
 exact ⟨_,by first | rfl | (simp [*,jk,jj] <;> rfl),by (with_reducible repeat (first | apply Kd.jq | apply Kd.zx | apply Kd.jz));exact Kd.R_mono (Kd.R_far (p := ⟨gb102,3,none⟩) (Kd.R_far (p := ⟨gb102,2,none⟩) (Kd.R_far (p := ⟨gb102,1,none⟩) (Kd.R_far (p := ⟨gb102,0,none⟩) (Kd.R_far (p := ⟨gb103,3,none⟩) (Kd.R_far (p := ⟨gb103,2,none⟩) (Kd.R_types (Kd.R_types HO106.out BK103.out (by decide)) BK102.out (by decide)) (fun _ hk => hk.1.2) (.slice Ao12 t104.length co12)) (fun _ hk => hk.1.2) (.int .i64 a0_3)) (fun _ hk => hk.2) (.int .i64 a0_0)) (fun _ hk => hk.2) (.int .i64 a0_1)) (fun _ hk => hk.2) (.slice Ao12 t104.length co12)) (fun _ hk => hk.2) (.int .i64 a0_3)) (fun _ hk => trivial),by repeat (first | (with_reducible first | exact HB.out | apply qj | apply qz | apply qk | refine qx ?_ GE101.out | refine qx ?_ GE102.out | refine qx ?_ GE103.out) | exact HB.out)⟩
def qqj.f (k : Nat) (a0_0 : Int) (a0_1 : Int) (l0_2 : List ByteArray) (a0_3 : Int) (a1_0 : Int) (a1_1 : Int) (l1_2 : List ByteArray) (a1_3 : Int) : Option (Bool) := if a0_0 = a1_0 then (if a0_1 = a1_1 then ((qqw.f k l0_2 l1_2).bind fun t103 => (if t103 = true then (if a0_3 = a1_3 then (some true) else (some false)) else (some false))) else (some false)) else (some false)
set_option maxHeartbeats 8000000 in
set_option maxRecDepth 100000 in
theorem qqj.calls (k : Nat) (a0_0 : Int) (a0_1 : Int) (A0_2 : Option Addr) (c0_2 : Nat) (l0_2 : List ByteArray) (a0_3 : Int) (a1_0 : Int) (a1_1 : Int) (A1_2 : Option Addr) (c1_2 : Nat) (l1_2 : List ByteArray) (a1_3 : Int) (r : Bool) (w : World) (hr0_2 : Kd.C Kd.string w A0_2 l0_2.length l0_2) (hc0_2 : l0_2.length ≤ c0_2) (hr1_2 : Kd.C Kd.string w A1_2 l1_2.length l1_2) (hc1_2 : l1_2.length ≤ c1_2) (h : qqj.f k a0_0 a0_1 l0_2 a0_3 a1_0 a1_1 l1_2 a1_3 = some r) :
  Calls Try.prog 28 #[.agg #[.int .i64 a0_0,.int .i64 a0_1,.slice A0_2 l0_2.length c0_2,.int .i64 a0_3],.agg #[.int .i64 a1_0,.int .i64 a1_1,.slice A1_2 l1_2.length c1_2,.int .i64 a1_3]] w fun e w' => e = .returned (.bool r) ∧ Below w.heap.size w w' := by
 have hu53 := Try.underlying53
 have HR0_2 := qq.mk hr0_2
 have HC0_2 := qq.mk hc0_2
 clear hr0_2 hc0_2
 have HR1_2 := qq.mk hr1_2
 have HC1_2 := qq.mk hc1_2
 clear hr1_2 hc1_2
 have HB := qq.mk (Below.refl w.heap.size w)
 have H : (if a0_0 = a1_0 then (if a0_1 = a1_1 then ((qqw.f k l0_2 l1_2).bind fun t103 => (if t103 = true then (if a0_3 = a1_3 then (some true) else (some false)) else (some false))) else (some false)) else (some false)) = some r := h
 clear h
 by_cases c3 : a0_0 = a1_0
 ·rw [if_pos c3] at H
  have c3b0 : (a0_0 == a1_0) = true := beq_iff_eq.mpr c3
  have c3b1 : (a0_0 != a1_0) = false := bne_eq_false_iff_eq.mpr c3
  clear c3
  by_cases c4 : a0_1 = a1_1
  ·rw [if_pos c4] at H
   have c4b0 : (a0_1 == a1_1) = true := beq_iff_eq.mpr c4
   have c4b1 : (a0_1 != a1_1) = false := bne_eq_false_iff_eq.mpr c4
   clear c4
   replace H := Option.bind_eq_some_iff.mp H
   obtain ⟨t103,A50,H⟩ := H
   replace H : (if t103 = true then (if a0_3 = a1_3 then (some true) else (some false)) else (some false)) = some r := H
   have A5 := qq.mk A50
   clear A50
   by_cases c6 : t103 = true
   ·subst c6
    have H1 : (if a0_3 = a1_3 then (some true) else (some false)) = some r := by rw [if_pos rfl] at H;exact H
    clear H
    have H := H1
    clear H1
    by_cases c7 : a0_3 = a1_3
    ·rw [if_pos c7] at H
     have c7b0 : (a0_3 == a1_3) = true := beq_iff_eq.mpr c7
     have c7b1 : (a0_3 != a1_3) = false := bne_eq_false_iff_eq.mpr c7
     clear c7
     obtain rfl := Option.some.inj H
     go_enter Try.func28,Try.ntmps28
     go_wp2_with (first | ((with_reducible refine gate_dst (N := 2) rfl ?_);refine box_event ?hg (N := 2) ?hd (cs := #[.int .i64 a0_0,.int .i64 a0_1,.slice A0_2 l0_2.length c0_2,.int .i64 a0_3]) (t := 53) ?hr ?_;(case hd => rfl);(case hg => rfl);(case hr => first | (go_simp;done) | (go_simp;rfl));intro gb101 hg w8 hbox hb;have n0_ := qq.mk (zv (by repeat (first | (with_reducible first | exact HB.out | apply qj | apply qz | apply qk) | exact HB.out)) hb);have n1_ := qq.mk (hbox);have n2_ := qq.mk ((by rw [hg];exact (zw (by repeat (first | (with_reducible first | exact HB.out | apply qj | apply qz | apply qk) | exact HB.out))) : w.heap.size ≤ gb101));have n3_ := qq.mk ((by rw [hg];exact (zw (by repeat (first | (with_reducible first | exact HB.out | apply qj | apply qz | apply qk) | exact HB.out))) : w.heap.size ≤ gb101));clear HB;have HB := n0_;have BK101 := n1_;have GW101 := n2_;have GE101 := n3_;clear n0_ n1_ n2_ n3_;clear hb hbox hg) | ((with_reducible refine gate_dst (N := 3) rfl ?_);refine box_event ?hg (N := 3) ?hd (cs := #[.int .i64 a1_0,.int .i64 a1_1,.slice A1_2 l1_2.length c1_2,.int .i64 a1_3]) (t := 53) ?hr ?_;(case hd => rfl);(case hg => rfl);(case hr => first | (go_simp;done) | (go_simp;rfl));intro gb102 hg w9 hbox hb;have n0_ := qq.mk (vz (g := gb101) (o := .cells #[.int .i64 a0_0,.int .i64 a0_1,.slice A0_2 l0_2.length c0_2,.int .i64 a0_3] 53 (0,0)) (by (with_reducible repeat (first | refine zz ?_ _ | refine zj ?_ | refine zq ?_ _));exact BK101.out) hb);have n1_ := qq.mk (zv (by repeat (first | (with_reducible first | exact HB.out | apply qj | apply qz | apply qk | refine qx ?_ GE101.out) | exact HB.out)) hb);have n2_ := qq.mk (hbox);have n3_ := qq.mk ((by rw [hg];exact (zw (by repeat (first | (with_reducible first | exact HB.out | apply qj | apply qz | apply qk | refine qx ?_ GE101.out) | exact HB.out))) : w.heap.size ≤ gb102));have n4_ := qq.mk ((by rw [hg];exact (zw (by repeat (first | (with_reducible first | exact HB.out | apply qj | apply qz | apply qk | refine qx ?_ GE101.out) | exact HB.out))) : w.heap.size ≤ gb102));have n5_ := qq.mk ((by rw [hg];exact Nat.ne_of_lt (blk_lt (g := gb101) (o := .cells #[.int .i64 a0_0,.int .i64 a0_1,.slice A0_2 l0_2.length c0_2,.int .i64 a0_3] 53 (0,0)) (by (with_reducible repeat (first | refine zz ?_ _ | refine zj ?_ | refine zq ?_ _));exact BK101.out)) : gb101 ≠ gb102));have n6_ := qq.mk ((by rw [hg];exact Nat.ne_of_gt (blk_lt (g := gb101) (o := .cells #[.int .i64 a0_0,.int .i64 a0_1,.slice A0_2 l0_2.length c0_2,.int .i64 a0_3] 53 (0,0)) (by (with_reducible repeat (first | refine zz ?_ _ | refine zj ?_ | refine zq ?_ _));exact BK101.out)) : gb102 ≠ gb101));clear BK101;clear HB;have BK101 := n0_;have HB := n1_;have BK102 := n2_;have GW102 := n3_;have GE102 := n4_;have NB101_102 := n5_;have NB102_101 := n6_;clear n0_ n1_ n2_ n3_ n4_ n5_ n6_;clear hb hbox hg;have hnb10 := NB101_102.out;have hnc10 := NB102_101.out;have hcz11_0 : w9.cell? ⟨gb101,0,none⟩ = some (.int .i64 a0_0) := (qw BK101.out 0).trans rfl;have hcz11_1 : w9.cell? ⟨gb101,1,none⟩ = some (.int .i64 a0_1) := (qw BK101.out 1).trans rfl;have hcz11_2 : w9.cell? ⟨gb101,2,none⟩ = some (.slice A0_2 l0_2.length c0_2) := (qw BK101.out 2).trans rfl;have hcz11_3 : w9.cell? ⟨gb101,3,none⟩ = some (.int .i64 a0_3) := (qw BK101.out 3).trans rfl;have hfz11_0 := qv BK101.out 0;have hfz11_1 := qv BK101.out 1;have hfz11_2 := qv BK101.out 2;have hfz11_3 := qv BK101.out 3;have hcz12_0 : w9.cell? ⟨gb102,0,none⟩ = some (.int .i64 a1_0) := (qw BK102.out 0).trans rfl;have hcz12_1 : w9.cell? ⟨gb102,1,none⟩ = some (.int .i64 a1_1) := (qw BK102.out 1).trans rfl;have hcz12_2 : w9.cell? ⟨gb102,2,none⟩ = some (.slice A1_2 l1_2.length c1_2) := (qw BK102.out 2).trans rfl;have hcz12_3 : w9.cell? ⟨gb102,3,none⟩ = some (.int .i64 a1_3) := (qw BK102.out 3).trans rfl;have hfz12_0 := qv BK102.out 0;have hfz12_1 := qv BK102.out 1;have hfz12_2 := qv BK102.out 2;have hfz12_3 := qv BK102.out 3) | ((with_reducible refine jv (f := 85) rfl ?_);refine goesL_ (some 19) rfl rfl Try.func85 (by kernel_rfl) rfl #[.slice A0_2 l0_2.length c0_2,.slice A1_2 l1_2.length c1_2] rfl (by (try simp only [List.map_toArray,List.map_cons,List.map_nil]);first | done | rfl | (simp only [List.length_drop,List.length_take];rfl)) ?_;(with_reducible refine (qqw.calls k _ _ l0_2 _ _ l1_2 true _ ?side1 ?side2 ?side3 ?side4 A5.out).mono ?_);(case side1 => repeat (first | exact (Kd.C_below HR0_2.out HB.out) | (with_reducible refine Kd.C_alloc ?_ _) | (with_reducible refine Kd.C_drewN ?_ _) | (with_reducible refine Kd.C_drew ?_)));(case side2 => exact HC0_2.out);(case side3 => repeat (first | exact (Kd.C_below HR1_2.out HB.out) | (with_reducible refine Kd.C_alloc ?_ _) | (with_reducible refine Kd.C_drewN ?_ _) | (with_reducible refine Kd.C_drew ?_)));(case side4 => exact HC1_2.out);rintro e w' ⟨rfl,⟨nd,rfl⟩⟩;refine ⟨_,rfl,?_⟩))
     go_ret
     exact ⟨by first | rfl | (simp [*,jk,jj] <;> rfl),by repeat (first | (with_reducible first | exact HB.out | apply qj | apply qz | apply qk | refine qx ?_ GE101.out | refine qx ?_ GE102.out) | exact HB.out)⟩
    ·rw [if_neg c7] at H
     have c7b0 : (a0_3 == a1_3) = false := beq_eq_false_iff_ne.mpr c7
     have c7b1 : (a0_3 != a1_3) = true := bne_iff_ne.mpr c7
     obtain rfl := Option.some.inj H
     go_enter Try.func28,Try.ntmps28
     go_wp2_with (first | ((with_reducible refine gate_dst (N := 2) rfl ?_);refine box_event ?hg (N := 2) ?hd (cs := #[.int .i64 a0_0,.int .i64 a0_1,.slice A0_2 l0_2.length c0_2,.int .i64 a0_3]) (t := 53) ?hr ?_;(case hd => rfl);(case hg => rfl);(case hr => first | (go_simp;done) | (go_simp;rfl));intro gb101 hg w13 hbox hb;have n0_ := qq.mk (zv (by repeat (first | (with_reducible first | exact HB.out | apply qj | apply qz | apply qk) | exact HB.out)) hb);have n1_ := qq.mk (hbox);have n2_ := qq.mk ((by rw [hg];exact (zw (by repeat (first | (with_reducible first | exact HB.out | apply qj | apply qz | apply qk) | exact HB.out))) : w.heap.size ≤ gb101));have n3_ := qq.mk ((by rw [hg];exact (zw (by repeat (first | (with_reducible first | exact HB.out | apply qj | apply qz | apply qk) | exact HB.out))) : w.heap.size ≤ gb101));clear HB;have HB := n0_;have BK101 := n1_;have GW101 := n2_;have GE101 := n3_;clear n0_ n1_ n2_ n3_;clear hb hbox hg) | ((with_reducible refine gate_dst (N := 3) rfl ?_);refine box_event ?hg (N := 3) ?hd (cs := #[.int .i64 a1_0,.int .i64 a1_1,.slice A1_2 l1_2.length c1_2,.int .i64 a1_3]) (t := 53) ?hr ?_;(case hd => rfl);(case hg => rfl);(case hr => first | (go_simp;done) | (go_simp;rfl));intro gb102 hg w14 hbox hb;have n0_ := qq.mk (vz (g := gb101) (o := .cells #[.int .i64 a0_0,.int .i64 a0_1,.slice A0_2 l0_2.length c0_2,.int .i64 a0_3] 53 (0,0)) (by (with_reducible repeat (first | refine zz ?_ _ | refine zj ?_ | refine zq ?_ _));exact BK101.out) hb);have n1_ := qq.mk (zv (by repeat (first | (with_reducible first | exact HB.out | apply qj | apply qz | apply qk | refine qx ?_ GE101.out) | exact HB.out)) hb);have n2_ := qq.mk (hbox);have n3_ := qq.mk ((by rw [hg];exact (zw (by repeat (first | (with_reducible first | exact HB.out | apply qj | apply qz | apply qk | refine qx ?_ GE101.out) | exact HB.out))) : w.heap.size ≤ gb102));have n4_ := qq.mk ((by rw [hg];exact (zw (by repeat (first | (with_reducible first | exact HB.out | apply qj | apply qz | apply qk | refine qx ?_ GE101.out) | exact HB.out))) : w.heap.size ≤ gb102));have n5_ := qq.mk ((by rw [hg];exact Nat.ne_of_lt (blk_lt (g := gb101) (o := .cells #[.int .i64 a0_0,.int .i64 a0_1,.slice A0_2 l0_2.length c0_2,.int .i64 a0_3] 53 (0,0)) (by (with_reducible repeat (first | refine zz ?_ _ | refine zj ?_ | refine zq ?_ _));exact BK101.out)) : gb101 ≠ gb102));have n6_ := qq.mk ((by rw [hg];exact Nat.ne_of_gt (blk_lt (g := gb101) (o := .cells #[.int .i64 a0_0,.int .i64 a0_1,.slice A0_2 l0_2.length c0_2,.int .i64 a0_3] 53 (0,0)) (by (with_reducible repeat (first | refine zz ?_ _ | refine zj ?_ | refine zq ?_ _));exact BK101.out)) : gb102 ≠ gb101));clear BK101;clear HB;have BK101 := n0_;have HB := n1_;have BK102 := n2_;have GW102 := n3_;have GE102 := n4_;have NB101_102 := n5_;have NB102_101 := n6_;clear n0_ n1_ n2_ n3_ n4_ n5_ n6_;clear hb hbox hg;have hnb15 := NB101_102.out;have hnc15 := NB102_101.out;have hcz16_0 : w14.cell? ⟨gb101,0,none⟩ = some (.int .i64 a0_0) := (qw BK101.out 0).trans rfl;have hcz16_1 : w14.cell? ⟨gb101,1,none⟩ = some (.int .i64 a0_1) := (qw BK101.out 1).trans rfl;have hcz16_2 : w14.cell? ⟨gb101,2,none⟩ = some (.slice A0_2 l0_2.length c0_2) := (qw BK101.out 2).trans rfl;have hcz16_3 : w14.cell? ⟨gb101,3,none⟩ = some (.int .i64 a0_3) := (qw BK101.out 3).trans rfl;have hfz16_0 := qv BK101.out 0;have hfz16_1 := qv BK101.out 1;have hfz16_2 := qv BK101.out 2;have hfz16_3 := qv BK101.out 3;have hcz17_0 : w14.cell? ⟨gb102,0,none⟩ = some (.int .i64 a1_0) := (qw BK102.out 0).trans rfl;have hcz17_1 : w14.cell? ⟨gb102,1,none⟩ = some (.int .i64 a1_1) := (qw BK102.out 1).trans rfl;have hcz17_2 : w14.cell? ⟨gb102,2,none⟩ = some (.slice A1_2 l1_2.length c1_2) := (qw BK102.out 2).trans rfl;have hcz17_3 : w14.cell? ⟨gb102,3,none⟩ = some (.int .i64 a1_3) := (qw BK102.out 3).trans rfl;have hfz17_0 := qv BK102.out 0;have hfz17_1 := qv BK102.out 1;have hfz17_2 := qv BK102.out 2;have hfz17_3 := qv BK102.out 3) | ((with_reducible refine jv (f := 85) rfl ?_);refine goesL_ (some 19) rfl rfl Try.func85 (by kernel_rfl) rfl #[.slice A0_2 l0_2.length c0_2,.slice A1_2 l1_2.length c1_2] rfl (by (try simp only [List.map_toArray,List.map_cons,List.map_nil]);first | done | rfl | (simp only [List.length_drop,List.length_take];rfl)) ?_;(with_reducible refine (qqw.calls k _ _ l0_2 _ _ l1_2 true _ ?side1 ?side2 ?side3 ?side4 A5.out).mono ?_);(case side1 => repeat (first | exact (Kd.C_below HR0_2.out HB.out) | (with_reducible refine Kd.C_alloc ?_ _) | (with_reducible refine Kd.C_drewN ?_ _) | (with_reducible refine Kd.C_drew ?_)));(case side2 => exact HC0_2.out);(case side3 => repeat (first | exact (Kd.C_below HR1_2.out HB.out) | (with_reducible refine Kd.C_alloc ?_ _) | (with_reducible refine Kd.C_drewN ?_ _) | (with_reducible refine Kd.C_drew ?_)));(case side4 => exact HC1_2.out);rintro e w' ⟨rfl,⟨nd,rfl⟩⟩;refine ⟨_,rfl,?_⟩))
     go_ret
     exact ⟨by first | rfl | (simp [*,jk,jj] <;> rfl),by repeat (first | (with_reducible first | exact HB.out | apply qj | apply qz | apply qk | refine qx ?_ GE101.out | refine qx ?_ GE102.out) | exact HB.out)⟩
   ·replace c6 := Bool.eq_false_iff.mpr c6
    subst c6
    have H1 : (some false) = some r := by rw [if_neg (show ¬ (false = true) by decide)] at H;exact H
    clear H
    have H := H1
    clear H1
    obtain rfl := Option.some.inj H
    go_enter Try.func28,Try.ntmps28
    go_wp2_with (first | ((with_reducible refine gate_dst (N := 2) rfl ?_);refine box_event ?hg (N := 2) ?hd (cs := #[.int .i64 a0_0,.int .i64 a0_1,.slice A0_2 l0_2.length c0_2,.int .i64 a0_3]) (t := 53) ?hr ?_;(case hd => rfl);(case hg => rfl);(case hr => first | (go_simp;done) | (go_simp;rfl));intro gb101 hg w18 hbox hb;have n0_ := qq.mk (zv (by repeat (first | (with_reducible first | exact HB.out | apply qj | apply qz | apply qk) | exact HB.out)) hb);have n1_ := qq.mk (hbox);have n2_ := qq.mk ((by rw [hg];exact (zw (by repeat (first | (with_reducible first | exact HB.out | apply qj | apply qz | apply qk) | exact HB.out))) : w.heap.size ≤ gb101));have n3_ := qq.mk ((by rw [hg];exact (zw (by repeat (first | (with_reducible first | exact HB.out | apply qj | apply qz | apply qk) | exact HB.out))) : w.heap.size ≤ gb101));clear HB;have HB := n0_;have BK101 := n1_;have GW101 := n2_;have GE101 := n3_;clear n0_ n1_ n2_ n3_;clear hb hbox hg) | ((with_reducible refine gate_dst (N := 3) rfl ?_);refine box_event ?hg (N := 3) ?hd (cs := #[.int .i64 a1_0,.int .i64 a1_1,.slice A1_2 l1_2.length c1_2,.int .i64 a1_3]) (t := 53) ?hr ?_;(case hd => rfl);(case hg => rfl);(case hr => first | (go_simp;done) | (go_simp;rfl));intro gb102 hg w19 hbox hb;have n0_ := qq.mk (vz (g := gb101) (o := .cells #[.int .i64 a0_0,.int .i64 a0_1,.slice A0_2 l0_2.length c0_2,.int .i64 a0_3] 53 (0,0)) (by (with_reducible repeat (first | refine zz ?_ _ | refine zj ?_ | refine zq ?_ _));exact BK101.out) hb);have n1_ := qq.mk (zv (by repeat (first | (with_reducible first | exact HB.out | apply qj | apply qz | apply qk | refine qx ?_ GE101.out) | exact HB.out)) hb);have n2_ := qq.mk (hbox);have n3_ := qq.mk ((by rw [hg];exact (zw (by repeat (first | (with_reducible first | exact HB.out | apply qj | apply qz | apply qk | refine qx ?_ GE101.out) | exact HB.out))) : w.heap.size ≤ gb102));have n4_ := qq.mk ((by rw [hg];exact (zw (by repeat (first | (with_reducible first | exact HB.out | apply qj | apply qz | apply qk | refine qx ?_ GE101.out) | exact HB.out))) : w.heap.size ≤ gb102));have n5_ := qq.mk ((by rw [hg];exact Nat.ne_of_lt (blk_lt (g := gb101) (o := .cells #[.int .i64 a0_0,.int .i64 a0_1,.slice A0_2 l0_2.length c0_2,.int .i64 a0_3] 53 (0,0)) (by (with_reducible repeat (first | refine zz ?_ _ | refine zj ?_ | refine zq ?_ _));exact BK101.out)) : gb101 ≠ gb102));have n6_ := qq.mk ((by rw [hg];exact Nat.ne_of_gt (blk_lt (g := gb101) (o := .cells #[.int .i64 a0_0,.int .i64 a0_1,.slice A0_2 l0_2.length c0_2,.int .i64 a0_3] 53 (0,0)) (by (with_reducible repeat (first | refine zz ?_ _ | refine zj ?_ | refine zq ?_ _));exact BK101.out)) : gb102 ≠ gb101));clear BK101;clear HB;have BK101 := n0_;have HB := n1_;have BK102 := n2_;have GW102 := n3_;have GE102 := n4_;have NB101_102 := n5_;have NB102_101 := n6_;clear n0_ n1_ n2_ n3_ n4_ n5_ n6_;clear hb hbox hg;have hnb20 := NB101_102.out;have hnc20 := NB102_101.out;have hcz21_0 : w19.cell? ⟨gb101,0,none⟩ = some (.int .i64 a0_0) := (qw BK101.out 0).trans rfl;have hcz21_1 : w19.cell? ⟨gb101,1,none⟩ = some (.int .i64 a0_1) := (qw BK101.out 1).trans rfl;have hcz21_2 : w19.cell? ⟨gb101,2,none⟩ = some (.slice A0_2 l0_2.length c0_2) := (qw BK101.out 2).trans rfl;have hcz21_3 : w19.cell? ⟨gb101,3,none⟩ = some (.int .i64 a0_3) := (qw BK101.out 3).trans rfl;have hfz21_0 := qv BK101.out 0;have hfz21_1 := qv BK101.out 1;have hfz21_2 := qv BK101.out 2;have hfz21_3 := qv BK101.out 3;have hcz22_0 : w19.cell? ⟨gb102,0,none⟩ = some (.int .i64 a1_0) := (qw BK102.out 0).trans rfl;have hcz22_1 : w19.cell? ⟨gb102,1,none⟩ = some (.int .i64 a1_1) := (qw BK102.out 1).trans rfl;have hcz22_2 : w19.cell? ⟨gb102,2,none⟩ = some (.slice A1_2 l1_2.length c1_2) := (qw BK102.out 2).trans rfl;have hcz22_3 : w19.cell? ⟨gb102,3,none⟩ = some (.int .i64 a1_3) := (qw BK102.out 3).trans rfl;have hfz22_0 := qv BK102.out 0;have hfz22_1 := qv BK102.out 1;have hfz22_2 := qv BK102.out 2;have hfz22_3 := qv BK102.out 3) | ((with_reducible refine jv (f := 85) rfl ?_);refine goesL_ (some 19) rfl rfl Try.func85 (by kernel_rfl) rfl #[.slice A0_2 l0_2.length c0_2,.slice A1_2 l1_2.length c1_2] rfl (by (try simp only [List.map_toArray,List.map_cons,List.map_nil]);first | done | rfl | (simp only [List.length_drop,List.length_take];rfl)) ?_;(with_reducible refine (qqw.calls k _ _ l0_2 _ _ l1_2 false _ ?side1 ?side2 ?side3 ?side4 A5.out).mono ?_);(case side1 => repeat (first | exact (Kd.C_below HR0_2.out HB.out) | (with_reducible refine Kd.C_alloc ?_ _) | (with_reducible refine Kd.C_drewN ?_ _) | (with_reducible refine Kd.C_drew ?_)));(case side2 => exact HC0_2.out);(case side3 => repeat (first | exact (Kd.C_below HR1_2.out HB.out) | (with_reducible refine Kd.C_alloc ?_ _) | (with_reducible refine Kd.C_drewN ?_ _) | (with_reducible refine Kd.C_drew ?_)));(case side4 => exact HC1_2.out);rintro e w' ⟨rfl,⟨nd,rfl⟩⟩;refine ⟨_,rfl,?_⟩))
    go_ret
    exact ⟨by first | rfl | (simp [*,jk,jj] <;> rfl),by repeat (first | (with_reducible first | exact HB.out | apply qj | apply qz | apply qk | refine qx ?_ GE101.out | refine qx ?_ GE102.out) | exact HB.out)⟩
  ·rw [if_neg c4] at H
   have c4b0 : (a0_1 == a1_1) = false := beq_eq_false_iff_ne.mpr c4
   have c4b1 : (a0_1 != a1_1) = true := bne_iff_ne.mpr c4
   obtain rfl := Option.some.inj H
   go_enter Try.func28,Try.ntmps28
   go_wp2_with (first | ((with_reducible refine gate_dst (N := 2) rfl ?_);refine box_event ?hg (N := 2) ?hd (cs := #[.int .i64 a0_0,.int .i64 a0_1,.slice A0_2 l0_2.length c0_2,.int .i64 a0_3]) (t := 53) ?hr ?_;(case hd => rfl);(case hg => rfl);(case hr => first | (go_simp;done) | (go_simp;rfl));intro gb101 hg w23 hbox hb;have n0_ := qq.mk (zv (by repeat (first | (with_reducible first | exact HB.out | apply qj | apply qz | apply qk) | exact HB.out)) hb);have n1_ := qq.mk (hbox);have n2_ := qq.mk ((by rw [hg];exact (zw (by repeat (first | (with_reducible first | exact HB.out | apply qj | apply qz | apply qk) | exact HB.out))) : w.heap.size ≤ gb101));have n3_ := qq.mk ((by rw [hg];exact (zw (by repeat (first | (with_reducible first | exact HB.out | apply qj | apply qz | apply qk) | exact HB.out))) : w.heap.size ≤ gb101));clear HB;have HB := n0_;have BK101 := n1_;have GW101 := n2_;have GE101 := n3_;clear n0_ n1_ n2_ n3_;clear hb hbox hg) | ((with_reducible refine gate_dst (N := 3) rfl ?_);refine box_event ?hg (N := 3) ?hd (cs := #[.int .i64 a1_0,.int .i64 a1_1,.slice A1_2 l1_2.length c1_2,.int .i64 a1_3]) (t := 53) ?hr ?_;(case hd => rfl);(case hg => rfl);(case hr => first | (go_simp;done) | (go_simp;rfl));intro gb102 hg w24 hbox hb;have n0_ := qq.mk (vz (g := gb101) (o := .cells #[.int .i64 a0_0,.int .i64 a0_1,.slice A0_2 l0_2.length c0_2,.int .i64 a0_3] 53 (0,0)) (by (with_reducible repeat (first | refine zz ?_ _ | refine zj ?_ | refine zq ?_ _));exact BK101.out) hb);have n1_ := qq.mk (zv (by repeat (first | (with_reducible first | exact HB.out | apply qj | apply qz | apply qk | refine qx ?_ GE101.out) | exact HB.out)) hb);have n2_ := qq.mk (hbox);have n3_ := qq.mk ((by rw [hg];exact (zw (by repeat (first | (with_reducible first | exact HB.out | apply qj | apply qz | apply qk | refine qx ?_ GE101.out) | exact HB.out))) : w.heap.size ≤ gb102));have n4_ := qq.mk ((by rw [hg];exact (zw (by repeat (first | (with_reducible first | exact HB.out | apply qj | apply qz | apply qk | refine qx ?_ GE101.out) | exact HB.out))) : w.heap.size ≤ gb102));have n5_ := qq.mk ((by rw [hg];exact Nat.ne_of_lt (blk_lt (g := gb101) (o := .cells #[.int .i64 a0_0,.int .i64 a0_1,.slice A0_2 l0_2.length c0_2,.int .i64 a0_3] 53 (0,0)) (by (with_reducible repeat (first | refine zz ?_ _ | refine zj ?_ | refine zq ?_ _));exact BK101.out)) : gb101 ≠ gb102));have n6_ := qq.mk ((by rw [hg];exact Nat.ne_of_gt (blk_lt (g := gb101) (o := .cells #[.int .i64 a0_0,.int .i64 a0_1,.slice A0_2 l0_2.length c0_2,.int .i64 a0_3] 53 (0,0)) (by (with_reducible repeat (first | refine zz ?_ _ | refine zj ?_ | refine zq ?_ _));exact BK101.out)) : gb102 ≠ gb101));clear BK101;clear HB;have BK101 := n0_;have HB := n1_;have BK102 := n2_;have GW102 := n3_;have GE102 := n4_;have NB101_102 := n5_;have NB102_101 := n6_;clear n0_ n1_ n2_ n3_ n4_ n5_ n6_;clear hb hbox hg;have hnb25 := NB101_102.out;have hnc25 := NB102_101.out;have hcz26_0 : w24.cell? ⟨gb101,0,none⟩ = some (.int .i64 a0_0) := (qw BK101.out 0).trans rfl;have hcz26_1 : w24.cell? ⟨gb101,1,none⟩ = some (.int .i64 a0_1) := (qw BK101.out 1).trans rfl;have hcz26_2 : w24.cell? ⟨gb101,2,none⟩ = some (.slice A0_2 l0_2.length c0_2) := (qw BK101.out 2).trans rfl;have hcz26_3 : w24.cell? ⟨gb101,3,none⟩ = some (.int .i64 a0_3) := (qw BK101.out 3).trans rfl;have hfz26_0 := qv BK101.out 0;have hfz26_1 := qv BK101.out 1;have hfz26_2 := qv BK101.out 2;have hfz26_3 := qv BK101.out 3;have hcz27_0 : w24.cell? ⟨gb102,0,none⟩ = some (.int .i64 a1_0) := (qw BK102.out 0).trans rfl;have hcz27_1 : w24.cell? ⟨gb102,1,none⟩ = some (.int .i64 a1_1) := (qw BK102.out 1).trans rfl;have hcz27_2 : w24.cell? ⟨gb102,2,none⟩ = some (.slice A1_2 l1_2.length c1_2) := (qw BK102.out 2).trans rfl;have hcz27_3 : w24.cell? ⟨gb102,3,none⟩ = some (.int .i64 a1_3) := (qw BK102.out 3).trans rfl;have hfz27_0 := qv BK102.out 0;have hfz27_1 := qv BK102.out 1;have hfz27_2 := qv BK102.out 2;have hfz27_3 := qv BK102.out 3))
   go_ret
   exact ⟨by first | rfl | (simp [*,jk,jj] <;> rfl),by repeat (first | (with_reducible first | exact HB.out | apply qj | apply qz | apply qk | refine qx ?_ GE101.out | refine qx ?_ GE102.out) | exact HB.out)⟩
 ·rw [if_neg c3] at H
  have c3b0 : (a0_0 == a1_0) = false := beq_eq_false_iff_ne.mpr c3
  have c3b1 : (a0_0 != a1_0) = true := bne_iff_ne.mpr c3
  obtain rfl := Option.some.inj H
  go_enter Try.func28,Try.ntmps28
  go_wp2_with (first | ((with_reducible refine gate_dst (N := 2) rfl ?_);refine box_event ?hg (N := 2) ?hd (cs := #[.int .i64 a0_0,.int .i64 a0_1,.slice A0_2 l0_2.length c0_2,.int .i64 a0_3]) (t := 53) ?hr ?_;(case hd => rfl);(case hg => rfl);(case hr => first | (go_simp;done) | (go_simp;rfl));intro gb101 hg w28 hbox hb;have n0_ := qq.mk (zv (by repeat (first | (with_reducible first | exact HB.out | apply qj | apply qz | apply qk) | exact HB.out)) hb);have n1_ := qq.mk (hbox);have n2_ := qq.mk ((by rw [hg];exact (zw (by repeat (first | (with_reducible first | exact HB.out | apply qj | apply qz | apply qk) | exact HB.out))) : w.heap.size ≤ gb101));have n3_ := qq.mk ((by rw [hg];exact (zw (by repeat (first | (with_reducible first | exact HB.out | apply qj | apply qz | apply qk) | exact HB.out))) : w.heap.size ≤ gb101));clear HB;have HB := n0_;have BK101 := n1_;have GW101 := n2_;have GE101 := n3_;clear n0_ n1_ n2_ n3_;clear hb hbox hg) | ((with_reducible refine gate_dst (N := 3) rfl ?_);refine box_event ?hg (N := 3) ?hd (cs := #[.int .i64 a1_0,.int .i64 a1_1,.slice A1_2 l1_2.length c1_2,.int .i64 a1_3]) (t := 53) ?hr ?_;(case hd => rfl);(case hg => rfl);(case hr => first | (go_simp;done) | (go_simp;rfl));intro gb102 hg w29 hbox hb;have n0_ := qq.mk (vz (g := gb101) (o := .cells #[.int .i64 a0_0,.int .i64 a0_1,.slice A0_2 l0_2.length c0_2,.int .i64 a0_3] 53 (0,0)) (by (with_reducible repeat (first | refine zz ?_ _ | refine zj ?_ | refine zq ?_ _));exact BK101.out) hb);have n1_ := qq.mk (zv (by repeat (first | (with_reducible first | exact HB.out | apply qj | apply qz | apply qk | refine qx ?_ GE101.out) | exact HB.out)) hb);have n2_ := qq.mk (hbox);have n3_ := qq.mk ((by rw [hg];exact (zw (by repeat (first | (with_reducible first | exact HB.out | apply qj | apply qz | apply qk | refine qx ?_ GE101.out) | exact HB.out))) : w.heap.size ≤ gb102));have n4_ := qq.mk ((by rw [hg];exact (zw (by repeat (first | (with_reducible first | exact HB.out | apply qj | apply qz | apply qk | refine qx ?_ GE101.out) | exact HB.out))) : w.heap.size ≤ gb102));have n5_ := qq.mk ((by rw [hg];exact Nat.ne_of_lt (blk_lt (g := gb101) (o := .cells #[.int .i64 a0_0,.int .i64 a0_1,.slice A0_2 l0_2.length c0_2,.int .i64 a0_3] 53 (0,0)) (by (with_reducible repeat (first | refine zz ?_ _ | refine zj ?_ | refine zq ?_ _));exact BK101.out)) : gb101 ≠ gb102));have n6_ := qq.mk ((by rw [hg];exact Nat.ne_of_gt (blk_lt (g := gb101) (o := .cells #[.int .i64 a0_0,.int .i64 a0_1,.slice A0_2 l0_2.length c0_2,.int .i64 a0_3] 53 (0,0)) (by (with_reducible repeat (first | refine zz ?_ _ | refine zj ?_ | refine zq ?_ _));exact BK101.out)) : gb102 ≠ gb101));clear BK101;clear HB;have BK101 := n0_;have HB := n1_;have BK102 := n2_;have GW102 := n3_;have GE102 := n4_;have NB101_102 := n5_;have NB102_101 := n6_;clear n0_ n1_ n2_ n3_ n4_ n5_ n6_;clear hb hbox hg;have hnb30 := NB101_102.out;have hnc30 := NB102_101.out;have hcz31_0 : w29.cell? ⟨gb101,0,none⟩ = some (.int .i64 a0_0) := (qw BK101.out 0).trans rfl;have hcz31_1 : w29.cell? ⟨gb101,1,none⟩ = some (.int .i64 a0_1) := (qw BK101.out 1).trans rfl;have hcz31_2 : w29.cell? ⟨gb101,2,none⟩ = some (.slice A0_2 l0_2.length c0_2) := (qw BK101.out 2).trans rfl;have hcz31_3 : w29.cell? ⟨gb101,3,none⟩ = some (.int .i64 a0_3) := (qw BK101.out 3).trans rfl;have hfz31_0 := qv BK101.out 0;have hfz31_1 := qv BK101.out 1;have hfz31_2 := qv BK101.out 2;have hfz31_3 := qv BK101.out 3;have hcz32_0 : w29.cell? ⟨gb102,0,none⟩ = some (.int .i64 a1_0) := (qw BK102.out 0).trans rfl;have hcz32_1 : w29.cell? ⟨gb102,1,none⟩ = some (.int .i64 a1_1) := (qw BK102.out 1).trans rfl;have hcz32_2 : w29.cell? ⟨gb102,2,none⟩ = some (.slice A1_2 l1_2.length c1_2) := (qw BK102.out 2).trans rfl;have hcz32_3 : w29.cell? ⟨gb102,3,none⟩ = some (.int .i64 a1_3) := (qw BK102.out 3).trans rfl;have hfz32_0 := qv BK102.out 0;have hfz32_1 := qv BK102.out 1;have hfz32_2 := qv BK102.out 2;have hfz32_3 := qv BK102.out 3))
  go_ret
  exact ⟨by first | rfl | (simp [*,jk,jj] <;> rfl),by repeat (first | (with_reducible first | exact HB.out | apply qj | apply qz | apply qk | refine qx ?_ GE101.out | refine qx ?_ GE102.out) | exact HB.out)⟩
def qzz.f (k : Nat) (a0_0 : Int) (a0_1 : Int) (l0_2 : List ByteArray) (a0_3 : Int) (a1 : Int) : Option (Int × List ByteArray) := (qzk.f k l0_2 a1).bind fun bt102 => (some (bt102.1,bt102.2))
set_option maxHeartbeats 8000000 in
set_option maxRecDepth 100000 in
theorem qzz.calls (k : Nat) (a0_0 : Int) (a0_1 : Int) (P0_2_ : Nat → Prop) (u9000_ : Value) (l0_2 : List ByteArray) (a0_3 : Int) (a1 : Int) (r1 : Int) (r2 : List ByteArray) (w0 w : World) (hB : Below w0.heap.size w0 w) (ho0_2 : Kd.R Kd.string 9 w w0.heap.size P0_2_ u9000_ l0_2) (h : qzz.f k a0_0 a0_1 l0_2 a0_3 a1 = some (r1,r2)) :
  Calls Try.prog 30 #[.agg #[.int .i64 a0_0,.int .i64 a0_1,u9000_,.int .i64 a0_3],.int .i64 a1] w fun e w' => e = .returned (.int .i64 r1) ∧ Kd.R Kd.string 9 w' w0.heap.size (fun k_ => (P0_2_ k_ ∨ w.heap.size ≤ k_)) u9000_ r2 ∧ Below w0.heap.size w0 w' ∧ kz w w' (fun k_ => P0_2_ k_) := by
 have hu53 := Try.underlying53
 have HO0_2 := qq.mk (show Kd.R Kd.string 9 w w0.heap.size (fun k_ => (P0_2_ k_ ∨ w.heap.size ≤ k_)) u9000_ l0_2 from Kd.R_mono ho0_2 (fun k_ hk => (.inl hk)))
 have HK := qq.mk (kz.refl w (fun k_ => P0_2_ k_))
 have HW0 := qq.mk hB.size
 have HB := qq.mk hB
 clear hB
 have H : ((qzk.f k l0_2 a1).bind fun bt102 => (some (bt102.1,bt102.2))) = some (r1,r2) := h
 clear h
 replace H := Option.bind_eq_some_iff.mp H
 obtain ⟨⟨t102,t103⟩,A30,H⟩ := H
 replace H : (some (t102,t103)) = some (r1,r2) := H
 have A3 := qq.mk A30
 clear A30
 simp only [Option.some.injEq,Prod.mk.injEq] at H
 obtain ⟨rfl,rfl⟩ := H
 obtain ⟨Ao4,co4,eo4⟩ := Kd.R_slice HO0_2.out
 subst eo4
 go_enter Try.func30,Try.ntmps30
 go_wp2_with (first | ((with_reducible refine gate_dst (N := 2) rfl ?_);refine box_event ?hg (N := 2) ?hd (cs := #[.int .i64 a0_0,.int .i64 a0_1,.slice Ao4 l0_2.length co4,.int .i64 a0_3]) (t := 53) ?hr ?_;(case hd => rfl);(case hg => rfl);(case hr => first | (go_simp;done) | (go_simp;rfl));intro gb101 hg w5 hbox hb;have n0_ := qq.mk (Kd.R_below (by (with_reducible repeat (first | apply Kd.jq | apply Kd.zx | apply Kd.jz));exact HO0_2.out) hb);have n1_ := qq.mk (kz.below (S := (fun k_ => P0_2_ k_)) (by repeat (first | (with_reducible first | exact HK.out | apply kz.alloc | apply kz.drewN | apply kz.drew) | exact HK.out)) hb);have n2_ := qq.mk (zv (by repeat (first | (with_reducible first | exact HB.out | apply qj | apply qz | apply qk) | exact HB.out)) hb);have n3_ := qq.mk (hbox);have n4_ := qq.mk ((by rw [hg];exact (by first | exact HK.out.1 | exact (show kz w _ (fun k_ => P0_2_ k_) from by repeat (first | (with_reducible first | exact HK.out | apply kz.alloc | apply kz.drewN | apply kz.drew) | exact HK.out)).1) : w.heap.size ≤ gb101));have n5_ := qq.mk ((by rw [hg];exact (zw (by repeat (first | (with_reducible first | exact HB.out | apply qj | apply qz | apply qk) | exact HB.out))) : w0.heap.size ≤ gb101));clear HO0_2;clear HK;clear HB;have HO0_2 := n0_;have HK := n1_;have HB := n2_;have BK101 := n3_;have GW101 := n4_;have GE101 := n5_;clear n0_ n1_ n2_ n3_ n4_ n5_;clear hb hbox hg;have hcz6_0 : w5.cell? ⟨gb101,0,none⟩ = some (.int .i64 a0_0) := (qw BK101.out 0).trans rfl;have hcz6_1 : w5.cell? ⟨gb101,1,none⟩ = some (.int .i64 a0_1) := (qw BK101.out 1).trans rfl;have hcz6_2 : w5.cell? ⟨gb101,2,none⟩ = some (.slice Ao4 l0_2.length co4) := (qw BK101.out 2).trans rfl;have hcz6_3 : w5.cell? ⟨gb101,3,none⟩ = some (.int .i64 a0_3) := (qw BK101.out 3).trans rfl;have hfz6_0 := qv BK101.out 0;have hfz6_1 := qv BK101.out 1;have hfz6_2 := qv BK101.out 2;have hfz6_3 := qv BK101.out 3) | ((with_reducible refine jv (f := 87) rfl ?_);refine goesL_ (some 8) rfl rfl Try.func87 (by kernel_rfl) rfl #[.slice Ao4 l0_2.length co4,.int .i64 a1] rfl (by (try simp only [List.map_toArray,List.map_cons,List.map_nil]);first | done | rfl | (simp only [List.length_drop,List.length_take];rfl)) ?_;(with_reducible refine (qzk.calls k (fun k_ => some k_ = (.slice Ao4 l0_2.length co4 : Value).ownBlock) (.slice Ao4 l0_2.length co4) l0_2 a1 t102 t103 w0 _ ?side1 ?side2 A3.out).mono ?_);(case side1 => repeat (first | (with_reducible first | exact HB.out | apply qj | apply qz | apply qk | refine qx ?_ GE101.out) | exact HB.out));(case side2 => exact Kd.R_tight rfl HO0_2.out);rintro e w7 ⟨rfl,hy0,hb,hkp⟩;refine ⟨_,rfl,?_⟩;have n0_ := qq.mk (Kd.R_reok rfl hy0 (fun k_ e_ => HO0_2.out.1 k_ e_));have n1_ := qq.mk (blk_kept (by (with_reducible repeat (first | refine zz ?_ _ | refine zj ?_ | refine zq ?_ _));exact BK101.out) hkp (fun hs_ => (fun e_ => (Kd.R_ne HO0_2.out BK101.out (by decide)) e_) hs_));have n2_ := qq.mk (kz.then_ (S := (fun k_ => P0_2_ k_)) (by repeat (first | (with_reducible first | exact HK.out | apply kz.alloc | apply kz.drewN | apply kz.drew | refine kz.setCell ?_ (.inr GW101.out) _) | exact HK.out)) hkp (fun k_ hs_ => (fun e_ => (HO0_2.out.1 k_ e_.symm)) hs_));have n3_ := qq.mk (hb);clear HO0_2;clear BK101;clear HK;clear HB;have HO0_2 := n0_;have BK101 := n1_;have HK := n2_;have HB := n3_;clear n0_ n1_ n2_ n3_;(try clear hb);(try clear hkp);(try clear hy0)))
 go_ret
 exact ⟨by first | rfl | (simp [*,jk,jj] <;> rfl),by (with_reducible repeat (first | apply Kd.jq | apply Kd.zx | apply Kd.jz));exact HO0_2.out,by repeat (first | (with_reducible first | exact HB.out | apply qj | apply qz | apply qk | refine qx ?_ GE101.out) | exact HB.out),by repeat (first | (with_reducible first | exact HK.out | apply kz.alloc | apply kz.drewN | apply kz.drew | refine kz.setCell ?_ (.inr GW101.out) _) | exact HK.out)⟩
def qjk.l0 : Nat → List Int → List Int → Int → Option (List Int)
 | 0,_,_,_ => none
 | k + 1,x0,x3,x4 => if x4 < (x0.length : Int) then (if 0 ≤ x4 then (if x4 < (x3.length : Int) then (qjk.l0 k x0 (x3.set (x4 : Int).toNat (rd x0 x4)) (wrap64 (x4 + 1))) else (none)) else (none)) else (some x3)
def qjk.f (k : Nat) (l0 : List Int) : Option (List Int) := if 0 ≤ (l0.length : Int) then (if ((l0.length : Int) : Int).toNat ≤ 281474976710656 then (qjk.l0 k l0 (List.replicate ((l0.length : Int) : Int).toNat 0) 0) else (none)) else (none)
set_option maxHeartbeats 8000000 in
set_option maxRecDepth 100000 in
theorem qjk.calls (k : Nat) (A0 : Option Addr) (c0 : Nat) (l0 : List Int) (r : List Int) (w : World) (hr0 : Kd.C (Kd.int .u8) w A0 l0.length l0) (hc0 : l0.length ≤ c0) (h : qjk.f k l0 = some r) :
  Calls Try.prog 16 #[.slice A0 l0.length c0] w fun e w' => ∃ v0_ : Value,e = .returned (v0_) ∧ Kd.R (Kd.int .u8) 5 w' w.heap.size (fun _ => True) v0_ r ∧ Below w.heap.size w w' := by
 have HR0 := qq.mk hr0
 have HC0 := qq.mk hc0
 clear hr0 hc0
 have HB := qq.mk (Below.refl w.heap.size w)
 have H : (if 0 ≤ (l0.length : Int) then (if ((l0.length : Int) : Int).toNat ≤ 281474976710656 then (qjk.l0 k l0 (List.replicate ((l0.length : Int) : Int).toNat 0) 0) else (none)) else (none)) = some r := h
 clear h
 by_cases c2 : 0 ≤ (l0.length : Int)
 ·rw [if_pos c2] at H
  have c2b0 := eq_true c2
  have c2b1 : decide (0 ≤ (l0.length : Int)) = true := decide_eq_true c2
  clear c2
  by_cases c3 : ((l0.length : Int) : Int).toNat ≤ 281474976710656
  ·rw [if_pos c3] at H
   have c3b0 := eq_true c3
   have c3b1 : decide (((l0.length : Int) : Int).toNat ≤ 281474976710656) = true := decide_eq_true c3
   clear c3
   obtain ⟨y101,hy101⟩ : ∃ y_ : List Int,y_ = (List.replicate ((l0.length : Int) : Int).toNat 0) := ⟨_,rfl⟩
   replace H : (qjk.l0 k l0 y101 0) = some r := by first | (rw [hy101];with_reducible exact H) | (have H2_ := (Option.bind_some _ _).symm.trans H;rw [hy101];with_reducible exact H2_) | (have H2_ := (Option.bind_some _ _).symm.trans H;with_reducible exact H2_) | with_reducible exact H | (rw [hy101];exact H) | exact H
   have Ny101 := qq.mk hy101
   clear hy101
   have H' := qq.mk H
   clear H
   go_enter Try.func16,Try.ntmps16
   go_wp2_with (first | ((with_reducible refine gate_dst (N := 7) rfl ?_);refine Kd.R_make (Kd.int .u8) _ 5 rfl (N := 7) rfl 26 _ _ rfl (l0.length : Int) rfl rfl Try.underlying26 (.int .u8 0) 1 info5 rfl (by decide) (by omega) 0 (ok := fun _ => True) (okp := fun _ => True) rfl (fun _ hk => hk) trivial (of_decide_eq_true (by assumption)) (Nat.le_trans (Nat.mul_le_mul_right _ (of_decide_eq_true (by assumption) : (l0.length : Int).toNat ≤ 281474976710656)) (by omega)) (Below.refl _ _) (Nat.le_refl _) ?_;intro v102 w4 ho5 hb hg_ hnew_;clear hg_ hnew_;(first | rw [← Ny101.out] at ho5 | (simp only [Int.reduceToNat] at ho5;rw [← Ny101.out] at ho5));have n0_ := qq.mk (Kd.R_lower ho5 (zw (by repeat (first | (with_reducible first | exact HB.out | apply qj | apply qz | apply qk) | exact HB.out))));have n1_ := qq.mk (zv (by repeat (first | (with_reducible first | exact HB.out | apply qj | apply qz | apply qk) | exact HB.out)) hb);clear HB;have HO103 := n0_;have HB := n1_;clear n0_ n1_;clear hb ho5))
   go_loopg [4] k (fun kq v4 w' => ∃ (x3_1 : List Int) (x4_1 : Int),v4 = .int .i64 x4_1 ∧ qq (qjk.l0 kq l0 x3_1 x4_1 = some r) ∧ qq (kq ≤ k) ∧ qq (Kd.R (Kd.int .u8) 5 w' w.heap.size (fun _ => True) v102 x3_1) ∧ qq (Below w.heap.size w w'))
   case atStart => exact ⟨(y101),(0),(by first | rfl | (simp;done) | (simp [*];done)),H',⟨Nat.le_refl _⟩,⟨by (with_reducible repeat (first | apply Kd.jq | apply Kd.zx | apply Kd.jz));exact HO103.out⟩,⟨by repeat (first | (with_reducible first | exact HB.out | apply qj | apply qz | apply qk) | exact HB.out)⟩⟩
   case round =>
    clear H'
    try clear c1
    try clear c2
    try clear c2b0
    try clear c2b1
    try clear p2
    try clear c3
    try clear c3b0
    try clear c3b1
    obtain ⟨x3_1,x4_1,rfl,HA,HK1,HO_3,HB⟩ := hrel
    cases gk with
    | zero => exact absurd HA.out (by simp [qjk.l0])
    | succ k1 =>
     have H := HA.out
     clear HA
     simp only [qjk.l0] at H
     by_cases c6 : x4_1 < (l0.length : Int)
     ·rw [if_pos c6] at H
      have c6b0 : decide (x4_1 < (l0.length : Int)) = true := decide_eq_true c6
      clear c6
      by_cases c7 : 0 ≤ x4_1
      ·rw [if_pos c7] at H
       have c7b0 : decide (0 ≤ x4_1) = true := decide_eq_true c7
       clear c7
       by_cases c8 : x4_1 < (x3_1.length : Int)
       ·rw [if_pos c8] at H
        have c8b0 : decide (x4_1 < (x3_1.length : Int)) = true := decide_eq_true c8
        clear c8
        obtain ⟨y105,hy105⟩ : ∃ y_ : List Int,y_ = (x3_1.set (x4_1 : Int).toNat (rd l0 x4_1)) := ⟨_,rfl⟩
        replace H : (qjk.l0 k1 l0 y105 (wrap64 (x4_1 + 1))) = some r := by first | (rw [hy105];with_reducible exact H) | (have H2_ := (Option.bind_some _ _).symm.trans H;rw [hy105];with_reducible exact H2_) | (have H2_ := (Option.bind_some _ _).symm.trans H;with_reducible exact H2_) | with_reducible exact H | (rw [hy105];exact H) | exact H
        have Ny105 := qq.mk hy105
        clear hy105
        have H' := qq.mk H
        clear H
        have p104 : 0 ≤ (x4_1 : Int) := of_decide_eq_true (by assumption)
        have q104 : x4_1 < (l0.length : Int) := of_decide_eq_true (by assumption)
        obtain ⟨ad104,e104,hx104_0⟩ := Kd.at_int HR0.out x4_1 p104 q104
        cases e104
        replace hx104_0 := (HB.out.cell (World.block_lt_of_cell? w _ hx104_0)).trans hx104_0
        replace p104 := eq_true p104
        replace q104 := eq_true q104
        have p9 : 0 ≤ (x4_1 : Int) := of_decide_eq_true (by assumption)
        have q9 : (x4_1 : Int) < ((x3_1.length : Int) : Int) := of_decide_eq_true (by assumption)
        obtain ⟨go9,co9,eo9,gb9,gl9,cl9,HG9⟩ := Kd.R_form HO_3.out (by omega)
        (first | cases eo9 | (injection eo9 with ea_ en_ ec_;(first | subst ea_ | (injection ea_ with ea_;subst ea_));subst ec_;clear en_))
        have GB9 := qq.mk gb9
        have GG9 := qq.mk HG9
        clear gb9 gl9 HG9
        obtain ⟨hx9_0,hf9_0⟩ := Kd.R_celln 0 HO_3.out (x4_1 : Int) p9 q9
        replace p9 := eq_true p9
        replace q9 := eq_true q9
        have HP10 := Kd.R_putg HO_3.out (x4_1 : Int) (rd l0 x4_1)
        go_wp2_with (first | ((with_reducible refine jw (t := 5) (p := 20) rfl ?_);refine jx (t := 5) (p := 20) (v := ?vo_w11) (w1 := (wr.setCell ⟨go9,(x4_1 : Int).toNat,none⟩ (.int .u8 (rd l0 x4_1)))) ?hg ?ho ?hn ?hr ?_;(case ho => rfl);(case hg => rfl);(case hn => rfl);(case hr => first | (go_simp;done) | (go_simp;rfl));intro w11 hw;have hg : wr.grownBy w11 (some go9) := (by rw [hw];exact HP10.2);have hp_ : Kd.R (Kd.int .u8) 5 w11 w.heap.size (fun _ => True) (.slice (some ⟨go9,0,none⟩) x3_1.length co9) y105 := (by rw [hw,Ny105.out];exact HP10.1);clear HP10;have n0_ := qq.mk (hp_);have n1_ := qq.mk ((by rw [hw];exact qx (HB.out) GB9.out : Below w.heap.size w w11));clear HO_3;clear HB;have HO_3 := n0_;have HB := n1_;clear n0_ n1_;clear hg hw hp_))
        go_roundg k1
        case measure => have := HK1.out;omega
        case rel => exact ⟨(y105),(wrap64 (x4_1 + 1)),(by first | rfl | (simp;done) | (simp [*];done)),H',⟨by have := HK1.out;omega⟩,⟨by (with_reducible repeat (first | apply Kd.jq | apply Kd.zx | apply Kd.jz));exact HO_3.out⟩,⟨by repeat (first | (with_reducible first | exact HB.out | apply qj | apply qz | apply qk) | exact HB.out)⟩⟩
       ·rw [if_neg c8] at H
        exact absurd H (by simp)
      ·rw [if_neg c7] at H
       exact absurd H (by simp)
     ·rw [if_neg c6] at H
      have c6b0 : decide (x4_1 < (l0.length : Int)) = false := decide_eq_false c6
      clear c6
      obtain rfl := Option.some.inj H
      go_wp2
      go_ret
      exact ⟨_,by first | rfl | (simp [*,jk,jj] <;> rfl),by (with_reducible repeat (first | apply Kd.jq | apply Kd.zx | apply Kd.jz));exact HO_3.out,by repeat (first | (with_reducible first | exact HB.out | apply qj | apply qz | apply qk) | exact HB.out)⟩
  ·rw [if_neg c3] at H
   exact absurd H (by simp)
 ·rw [if_neg c2] at H
  exact absurd H (by simp)
def qqq.l0 : Nat → List Int → List Int → Int → Option (Bool)
 | 0,_,_,_ => none
 | k + 1,x0,x1,x5 => if x5 < (x0.length : Int) then (if 0 ≤ x5 then (if x5 < (x1.length : Int) then (if (rd x0 x5) = (rd x1 x5) then (qqq.l0 k x0 x1 (wrap64 (x5 + 1))) else (some false)) else (none)) else (none)) else (some true)
def qqq.f (k : Nat) (l0 : List Int) (l1 : List Int) : Option (Bool) := if (l0.length : Int) = (l1.length : Int) then (qqq.l0 k l0 l1 0) else (some false)
set_option maxHeartbeats 8000000 in
set_option maxRecDepth 100000 in
theorem qqq.calls (k : Nat) (A0 : Option Addr) (c0 : Nat) (l0 : List Int) (A1 : Option Addr) (c1 : Nat) (l1 : List Int) (r : Bool) (w : World) (hr0 : Kd.C (Kd.int .u8) w A0 l0.length l0) (hc0 : l0.length ≤ c0) (hr1 : Kd.C (Kd.int .u8) w A1 l1.length l1) (hc1 : l1.length ≤ c1) (h : qqq.f k l0 l1 = some r) :
  Calls Try.prog 20 #[.slice A0 l0.length c0,.slice A1 l1.length c1] w fun e w' => e = .returned (.bool r) ∧ Drawn0 w w' := by
 have HR0 := qq.mk hr0
 have HC0 := qq.mk hc0
 clear hr0 hc0
 have HR1 := qq.mk hr1
 have HC1 := qq.mk hc1
 clear hr1 hc1
 have H : (if (l0.length : Int) = (l1.length : Int) then (qqq.l0 k l0 l1 0) else (some false)) = some r := h
 clear h
 by_cases c3 : (l0.length : Int) = (l1.length : Int)
 ·rw [if_pos c3] at H
  have c3b0 : ((l0.length : Int) == (l1.length : Int)) = true := beq_iff_eq.mpr c3
  have c3b1 : ((l0.length : Int) != (l1.length : Int)) = false := bne_eq_false_iff_eq.mpr c3
  have c3b2 : (l0.length == l1.length) = true := by first | simpa using c3 | (simp at c3 ⊢;omega)
  clear c3
  have H' := qq.mk H
  clear H
  go_enter Try.func20,Try.ntmps20
  go_wp2
  repeat (go_quiet (fail);try go_wp2)
  go_loopg [5] k (fun kq v5 w' => ∃ (x5_1 : Int),v5 = .int .i64 x5_1 ∧ qq (qqq.l0 kq l0 l1 x5_1 = some r) ∧ qq (kq ≤ k) ∧ Drawn0 w w')
  case atStart => exact ⟨(0),(by first | rfl | (simp;done) | (simp [*];done)),H',⟨Nat.le_refl _⟩,by repeat (first | exact Drawn0.refl _ | apply Drawn0.step)⟩
  case round =>
   clear H'
   try clear c1
   try clear c2
   try clear p2
   try clear c3
   try clear c3b0
   try clear c3b1
   try clear c3b2
   obtain ⟨x5_1,rfl,HA,HK1,⟨m1,rfl⟩⟩ := hrel
   cases gk with
   | zero => exact absurd HA.out (by simp [qqq.l0])
   | succ k1 =>
    have H := HA.out
    clear HA
    simp only [qqq.l0] at H
    by_cases c4 : x5_1 < (l0.length : Int)
    ·rw [if_pos c4] at H
     have c4b0 : decide (x5_1 < (l0.length : Int)) = true := decide_eq_true c4
     clear c4
     by_cases c5 : 0 ≤ x5_1
     ·rw [if_pos c5] at H
      have c5b0 : decide (0 ≤ x5_1) = true := decide_eq_true c5
      clear c5
      by_cases c6 : x5_1 < (l1.length : Int)
      ·rw [if_pos c6] at H
       have c6b0 : decide (x5_1 < (l1.length : Int)) = true := decide_eq_true c6
       clear c6
       by_cases c7 : (rd l0 x5_1) = (rd l1 x5_1)
       ·rw [if_pos c7] at H
        have c7b0 : ((rd l0 x5_1) == (rd l1 x5_1)) = true := beq_iff_eq.mpr c7
        have c7b1 : ((rd l0 x5_1) != (rd l1 x5_1)) = false := bne_eq_false_iff_eq.mpr c7
        clear c7
        have H' := qq.mk H
        clear H
        have p101 : 0 ≤ (x5_1 : Int) := of_decide_eq_true (by assumption)
        have q101 : x5_1 < (l0.length : Int) := of_decide_eq_true (by assumption)
        obtain ⟨ad101,e101,hx101_0⟩ := Kd.at_int HR0.out x5_1 p101 q101
        cases e101
        replace p101 := eq_true p101
        replace q101 := eq_true q101
        have p102 : 0 ≤ (x5_1 : Int) := of_decide_eq_true (by assumption)
        have q102 : x5_1 < (l1.length : Int) := of_decide_eq_true (by assumption)
        obtain ⟨ad102,e102,hx102_0⟩ := Kd.at_int HR1.out x5_1 p102 q102
        cases e102
        replace p102 := eq_true p102
        replace q102 := eq_true q102
        go_wp2
        repeat (go_quiet (fail);try go_wp2)
        go_roundg k1
        case measure => have := HK1.out;omega
        case rel => exact ⟨(wrap64 (x5_1 + 1)),(by first | rfl | (simp;done) | (simp [*];done)),H',⟨by have := HK1.out;omega⟩,by repeat (first | exact Drawn0.refl _ | apply Drawn0.step)⟩
       ·rw [if_neg c7] at H
        have c7b0 : ((rd l0 x5_1) == (rd l1 x5_1)) = false := beq_eq_false_iff_ne.mpr c7
        have c7b1 : ((rd l0 x5_1) != (rd l1 x5_1)) = true := bne_iff_ne.mpr c7
        obtain rfl := Option.some.inj H
        have p101 : 0 ≤ (x5_1 : Int) := of_decide_eq_true (by assumption)
        have q101 : x5_1 < (l0.length : Int) := of_decide_eq_true (by assumption)
        obtain ⟨ad101,e101,hx101_0⟩ := Kd.at_int HR0.out x5_1 p101 q101
        cases e101
        replace p101 := eq_true p101
        replace q101 := eq_true q101
        have p102 : 0 ≤ (x5_1 : Int) := of_decide_eq_true (by assumption)
        have q102 : x5_1 < (l1.length : Int) := of_decide_eq_true (by assumption)
        obtain ⟨ad102,e102,hx102_0⟩ := Kd.at_int HR1.out x5_1 p102 q102
        cases e102
        replace p102 := eq_true p102
        replace q102 := eq_true q102
        go_wp2
        repeat (go_quiet (fail);try go_wp2)
        go_ret
        exact ⟨by first | rfl | (simp;done) | (simp [*];done),by repeat (first | exact Drawn0.refl _ | apply Drawn0.step)⟩
      ·rw [if_neg c6] at H
       exact absurd H (by simp)
     ·rw [if_neg c5] at H
      exact absurd H (by simp)
    ·rw [if_neg c4] at H
     have c4b0 : decide (x5_1 < (l0.length : Int)) = false := decide_eq_false c4
     clear c4
     obtain rfl := Option.some.inj H
     go_wp2
     repeat (go_quiet (fail);try go_wp2)
     go_ret
     exact ⟨by first | rfl | (simp;done) | (simp [*];done),by repeat (first | exact Drawn0.refl _ | apply Drawn0.step)⟩
 ·rw [if_neg c3] at H
  have c3b0 : ((l0.length : Int) == (l1.length : Int)) = false := beq_eq_false_iff_ne.mpr c3
  have c3b1 : ((l0.length : Int) != (l1.length : Int)) = true := bne_iff_ne.mpr c3
  have c3b2 : (l0.length == l1.length) = false := by first | simpa using c3 | (simp at c3 ⊢;omega)
  obtain rfl := Option.some.inj H
  go_enter Try.func20,Try.ntmps20
  go_wp2
  repeat (go_quiet (fail);try go_wp2)
  go_ret
  exact ⟨by first | rfl | (simp;done) | (simp [*];done),by repeat (first | exact Drawn0.refl _ | apply Drawn0.step)⟩
def qzw.f (l0 : List Int) (a1 : Int) : Option (Int) := if (wrap64 (a1 - (l0.length : Int))) < 0 then (some (-1)) else (some (wrap64 (a1 - (l0.length : Int))))
set_option maxHeartbeats 8000000 in
set_option maxRecDepth 100000 in
theorem qzw.calls (A0 : Option Addr) (c0 : Nat) (l0 : List Int) (a1 : Int) (r : Int) (w : World) (hr0 : Kd.C (Kd.int .u8) w A0 l0.length l0) (hc0 : l0.length ≤ c0) (h : qzw.f l0 a1 = some r) :
  Calls Try.prog 125 #[.slice A0 l0.length c0,.int .i64 a1] w fun e w' => e = .returned (.int .i64 r) ∧ Drawn0 w w' := by
 have HR0 := qq.mk hr0
 have HC0 := qq.mk hc0
 clear hr0 hc0
 have H : (if (wrap64 (a1 - (l0.length : Int))) < 0 then (some (-1)) else (some (wrap64 (a1 - (l0.length : Int))))) = some r := h
 clear h
 by_cases c3 : (wrap64 (a1 - (l0.length : Int))) < 0
 ·rw [if_pos c3] at H
  have c3b0 : decide ((wrap64 (a1 - (l0.length : Int))) < 0) = true := decide_eq_true c3
  clear c3
  obtain rfl := Option.some.inj H
  go_enter Try.func125,Try.ntmps125
  go_wp2
  go_ret
  exact ⟨by first | rfl | (simp;done) | (simp [*];done),by repeat (first | exact Drawn0.refl _ | apply Drawn0.step)⟩
 ·rw [if_neg c3] at H
  have c3b0 : decide ((wrap64 (a1 - (l0.length : Int))) < 0) = false := decide_eq_false c3
  clear c3
  obtain rfl := Option.some.inj H
  go_enter Try.func125,Try.ntmps125
  go_wp2
  go_ret
  exact ⟨by first | rfl | (simp;done) | (simp [*];done),by repeat (first | exact Drawn0.refl _ | apply Drawn0.step)⟩
def qjq.f (l0_0 : List Int) (a0_1 : Int) (l0_2 : List Int) (a1 : Int) : Option (Int) := (qzw.f l0_0 a1).bind fun t102 => (if t102 < 0 then (some (-1)) else ((qzw.f l0_2 t102).bind fun t103 => (if t103 < 0 then (some (-1)) else (some t103))))
set_option maxHeartbeats 8000000 in
set_option maxRecDepth 100000 in
theorem qjq.calls (A0_0 : Option Addr) (c0_0 : Nat) (l0_0 : List Int) (a0_1 : Int) (A0_2 : Option Addr) (c0_2 : Nat) (l0_2 : List Int) (a1 : Int) (r : Int) (w : World) (hr0_0 : Kd.C (Kd.int .u8) w A0_0 l0_0.length l0_0) (hc0_0 : l0_0.length ≤ c0_0) (hr0_2 : Kd.C (Kd.int .u8) w A0_2 l0_2.length l0_2) (hc0_2 : l0_2.length ≤ c0_2) (h : qjq.f l0_0 a0_1 l0_2 a1 = some r) :
  Calls Try.prog 70 #[.agg #[.slice A0_0 l0_0.length c0_0,.int .i64 a0_1,.slice A0_2 l0_2.length c0_2],.int .i64 a1] w fun e w' => e = .returned (.int .i64 r) ∧ Below w.heap.size w w' := by
 have hu102 := Try.underlying102
 have HR0_0 := qq.mk hr0_0
 have HC0_0 := qq.mk hc0_0
 clear hr0_0 hc0_0
 have HR0_2 := qq.mk hr0_2
 have HC0_2 := qq.mk hc0_2
 clear hr0_2 hc0_2
 have HB := qq.mk (Below.refl w.heap.size w)
 have H : ((qzw.f l0_0 a1).bind fun t102 => (if t102 < 0 then (some (-1)) else ((qzw.f l0_2 t102).bind fun t103 => (if t103 < 0 then (some (-1)) else (some t103))))) = some r := h
 clear h
 replace H := Option.bind_eq_some_iff.mp H
 obtain ⟨t102,A30,H⟩ := H
 replace H : (if t102 < 0 then (some (-1)) else ((qzw.f l0_2 t102).bind fun t103 => (if t103 < 0 then (some (-1)) else (some t103)))) = some r := H
 have A3 := qq.mk A30
 clear A30
 by_cases c4 : t102 < 0
 ·rw [if_pos c4] at H
  have c4b0 : decide (t102 < 0) = true := decide_eq_true c4
  clear c4
  obtain rfl := Option.some.inj H
  go_enter Try.func70,Try.ntmps70
  go_wp2_with (first | ((with_reducible refine gate_dst (N := 2) rfl ?_);refine box_event ?hg (N := 2) ?hd (cs := #[.slice A0_0 l0_0.length c0_0,.int .i64 a0_1,.slice A0_2 l0_2.length c0_2]) (t := 102) ?hr ?_;(case hd => rfl);(case hg => rfl);(case hr => first | (go_simp;done) | (go_simp;rfl));intro gb101 hg w5 hbox hb;have n0_ := qq.mk (zv (by repeat (first | (with_reducible first | exact HB.out | apply qj | apply qz | apply qk) | exact HB.out)) hb);have n1_ := qq.mk (hbox);have n2_ := qq.mk ((by rw [hg];exact (zw (by repeat (first | (with_reducible first | exact HB.out | apply qj | apply qz | apply qk) | exact HB.out))) : w.heap.size ≤ gb101));have n3_ := qq.mk ((by rw [hg];exact (zw (by repeat (first | (with_reducible first | exact HB.out | apply qj | apply qz | apply qk) | exact HB.out))) : w.heap.size ≤ gb101));clear HB;have HB := n0_;have BK101 := n1_;have GW101 := n2_;have GE101 := n3_;clear n0_ n1_ n2_ n3_;clear hb hbox hg;have hcz6_0 : w5.cell? ⟨gb101,0,none⟩ = some (.slice A0_0 l0_0.length c0_0) := (qw BK101.out 0).trans rfl;have hcz6_1 : w5.cell? ⟨gb101,1,none⟩ = some (.int .i64 a0_1) := (qw BK101.out 1).trans rfl;have hcz6_2 : w5.cell? ⟨gb101,2,none⟩ = some (.slice A0_2 l0_2.length c0_2) := (qw BK101.out 2).trans rfl;have hfz6_0 := qv BK101.out 0;have hfz6_1 := qv BK101.out 1;have hfz6_2 := qv BK101.out 2) | ((with_reducible refine jv (f := 125) rfl ?_);refine goesL_ (some 8) rfl rfl Try.func125 (by kernel_rfl) rfl #[.slice A0_0 l0_0.length c0_0,.int .i64 a1] rfl (by (try simp only [List.map_toArray,List.map_cons,List.map_nil]);first | done | rfl | (simp only [List.length_drop,List.length_take];rfl)) ?_;(with_reducible refine (qzw.calls _ _ l0_0 a1 t102 _ ?side1 ?side2 A3.out).mono ?_);(case side1 => repeat (first | exact (Kd.C_below HR0_0.out HB.out) | (with_reducible refine Kd.C_alloc ?_ _) | (with_reducible refine Kd.C_drewN ?_ _) | (with_reducible refine Kd.C_drew ?_)));(case side2 => exact HC0_0.out);rintro e w' ⟨rfl,⟨nd,rfl⟩⟩;refine ⟨_,rfl,?_⟩))
  go_ret
  exact ⟨by first | rfl | (simp [*,jk,jj] <;> rfl),by repeat (first | (with_reducible first | exact HB.out | apply qj | apply qz | apply qk | refine qx ?_ GE101.out) | exact HB.out)⟩
 ·rw [if_neg c4] at H
  have c4b0 : decide (t102 < 0) = false := decide_eq_false c4
  clear c4
  replace H := Option.bind_eq_some_iff.mp H
  obtain ⟨t103,A70,H⟩ := H
  replace H : (if t103 < 0 then (some (-1)) else (some t103)) = some r := H
  have A7 := qq.mk A70
  clear A70
  by_cases c8 : t103 < 0
  ·rw [if_pos c8] at H
   have c8b0 : decide (t103 < 0) = true := decide_eq_true c8
   clear c8
   obtain rfl := Option.some.inj H
   go_enter Try.func70,Try.ntmps70
   go_wp2_with (first | ((with_reducible refine gate_dst (N := 2) rfl ?_);refine box_event ?hg (N := 2) ?hd (cs := #[.slice A0_0 l0_0.length c0_0,.int .i64 a0_1,.slice A0_2 l0_2.length c0_2]) (t := 102) ?hr ?_;(case hd => rfl);(case hg => rfl);(case hr => first | (go_simp;done) | (go_simp;rfl));intro gb101 hg w9 hbox hb;have n0_ := qq.mk (zv (by repeat (first | (with_reducible first | exact HB.out | apply qj | apply qz | apply qk) | exact HB.out)) hb);have n1_ := qq.mk (hbox);have n2_ := qq.mk ((by rw [hg];exact (zw (by repeat (first | (with_reducible first | exact HB.out | apply qj | apply qz | apply qk) | exact HB.out))) : w.heap.size ≤ gb101));have n3_ := qq.mk ((by rw [hg];exact (zw (by repeat (first | (with_reducible first | exact HB.out | apply qj | apply qz | apply qk) | exact HB.out))) : w.heap.size ≤ gb101));clear HB;have HB := n0_;have BK101 := n1_;have GW101 := n2_;have GE101 := n3_;clear n0_ n1_ n2_ n3_;clear hb hbox hg;have hcz10_0 : w9.cell? ⟨gb101,0,none⟩ = some (.slice A0_0 l0_0.length c0_0) := (qw BK101.out 0).trans rfl;have hcz10_1 : w9.cell? ⟨gb101,1,none⟩ = some (.int .i64 a0_1) := (qw BK101.out 1).trans rfl;have hcz10_2 : w9.cell? ⟨gb101,2,none⟩ = some (.slice A0_2 l0_2.length c0_2) := (qw BK101.out 2).trans rfl;have hfz10_0 := qv BK101.out 0;have hfz10_1 := qv BK101.out 1;have hfz10_2 := qv BK101.out 2) | ((with_reducible refine jv (f := 125) rfl ?_);refine goesL_ (some 8) rfl rfl Try.func125 (by kernel_rfl) rfl #[.slice A0_0 l0_0.length c0_0,.int .i64 a1] rfl (by (try simp only [List.map_toArray,List.map_cons,List.map_nil]);first | done | rfl | (simp only [List.length_drop,List.length_take];rfl)) ?_;(with_reducible refine (qzw.calls _ _ l0_0 a1 t102 _ ?side1 ?side2 A3.out).mono ?_);(case side1 => repeat (first | exact (Kd.C_below HR0_0.out HB.out) | (with_reducible refine Kd.C_alloc ?_ _) | (with_reducible refine Kd.C_drewN ?_ _) | (with_reducible refine Kd.C_drew ?_)));(case side2 => exact HC0_0.out);rintro e w' ⟨rfl,⟨nd,rfl⟩⟩;refine ⟨_,rfl,?_⟩) | ((with_reducible refine jv (f := 125) rfl ?_);refine goesL_ (some 14) rfl rfl Try.func125 (by kernel_rfl) rfl #[.slice A0_2 l0_2.length c0_2,.int .i64 t102] rfl (by (try simp only [List.map_toArray,List.map_cons,List.map_nil]);first | done | rfl | (simp only [List.length_drop,List.length_take];rfl)) ?_;(with_reducible refine (qzw.calls _ _ l0_2 t102 t103 _ ?side1 ?side2 A7.out).mono ?_);(case side1 => repeat (first | exact (Kd.C_below HR0_2.out (by repeat (first | (with_reducible first | exact HB.out | apply qj | apply qz | apply qk | refine qx ?_ GE101.out) | exact HB.out))) | (with_reducible refine Kd.C_alloc ?_ _) | (with_reducible refine Kd.C_drewN ?_ _) | (with_reducible refine Kd.C_drew ?_)));(case side2 => exact HC0_2.out);rintro e w' ⟨rfl,⟨nd,rfl⟩⟩;refine ⟨_,rfl,?_⟩))
   go_ret
   exact ⟨by first | rfl | (simp [*,jk,jj] <;> rfl),by repeat (first | (with_reducible first | exact HB.out | apply qj | apply qz | apply qk | refine qx ?_ GE101.out) | exact HB.out)⟩
  ·rw [if_neg c8] at H
   have c8b0 : decide (t103 < 0) = false := decide_eq_false c8
   clear c8
   obtain rfl := Option.some.inj H
   go_enter Try.func70,Try.ntmps70
   go_wp2_with (first | ((with_reducible refine gate_dst (N := 2) rfl ?_);refine box_event ?hg (N := 2) ?hd (cs := #[.slice A0_0 l0_0.length c0_0,.int .i64 a0_1,.slice A0_2 l0_2.length c0_2]) (t := 102) ?hr ?_;(case hd => rfl);(case hg => rfl);(case hr => first | (go_simp;done) | (go_simp;rfl));intro gb101 hg w11 hbox hb;have n0_ := qq.mk (zv (by repeat (first | (with_reducible first | exact HB.out | apply qj | apply qz | apply qk) | exact HB.out)) hb);have n1_ := qq.mk (hbox);have n2_ := qq.mk ((by rw [hg];exact (zw (by repeat (first | (with_reducible first | exact HB.out | apply qj | apply qz | apply qk) | exact HB.out))) : w.heap.size ≤ gb101));have n3_ := qq.mk ((by rw [hg];exact (zw (by repeat (first | (with_reducible first | exact HB.out | apply qj | apply qz | apply qk) | exact HB.out))) : w.heap.size ≤ gb101));clear HB;have HB := n0_;have BK101 := n1_;have GW101 := n2_;have GE101 := n3_;clear n0_ n1_ n2_ n3_;clear hb hbox hg;have hcz12_0 : w11.cell? ⟨gb101,0,none⟩ = some (.slice A0_0 l0_0.length c0_0) := (qw BK101.out 0).trans rfl;have hcz12_1 : w11.cell? ⟨gb101,1,none⟩ = some (.int .i64 a0_1) := (qw BK101.out 1).trans rfl;have hcz12_2 : w11.cell? ⟨gb101,2,none⟩ = some (.slice A0_2 l0_2.length c0_2) := (qw BK101.out 2).trans rfl;have hfz12_0 := qv BK101.out 0;have hfz12_1 := qv BK101.out 1;have hfz12_2 := qv BK101.out 2) | ((with_reducible refine jv (f := 125) rfl ?_);refine goesL_ (some 8) rfl rfl Try.func125 (by kernel_rfl) rfl #[.slice A0_0 l0_0.length c0_0,.int .i64 a1] rfl (by (try simp only [List.map_toArray,List.map_cons,List.map_nil]);first | done | rfl | (simp only [List.length_drop,List.length_take];rfl)) ?_;(with_reducible refine (qzw.calls _ _ l0_0 a1 t102 _ ?side1 ?side2 A3.out).mono ?_);(case side1 => repeat (first | exact (Kd.C_below HR0_0.out HB.out) | (with_reducible refine Kd.C_alloc ?_ _) | (with_reducible refine Kd.C_drewN ?_ _) | (with_reducible refine Kd.C_drew ?_)));(case side2 => exact HC0_0.out);rintro e w' ⟨rfl,⟨nd,rfl⟩⟩;refine ⟨_,rfl,?_⟩) | ((with_reducible refine jv (f := 125) rfl ?_);refine goesL_ (some 14) rfl rfl Try.func125 (by kernel_rfl) rfl #[.slice A0_2 l0_2.length c0_2,.int .i64 t102] rfl (by (try simp only [List.map_toArray,List.map_cons,List.map_nil]);first | done | rfl | (simp only [List.length_drop,List.length_take];rfl)) ?_;(with_reducible refine (qzw.calls _ _ l0_2 t102 t103 _ ?side1 ?side2 A7.out).mono ?_);(case side1 => repeat (first | exact (Kd.C_below HR0_2.out (by repeat (first | (with_reducible first | exact HB.out | apply qj | apply qz | apply qk | refine qx ?_ GE101.out) | exact HB.out))) | (with_reducible refine Kd.C_alloc ?_ _) | (with_reducible refine Kd.C_drewN ?_ _) | (with_reducible refine Kd.C_drew ?_)));(case side2 => exact HC0_2.out);rintro e w' ⟨rfl,⟨nd,rfl⟩⟩;refine ⟨_,rfl,?_⟩))
   go_ret
   exact ⟨by first | rfl | (simp [*,jk,jj] <;> rfl),by repeat (first | (with_reducible first | exact HB.out | apply qj | apply qz | apply qk | refine qx ?_ GE101.out) | exact HB.out)⟩
def qjw.f (k : Nat) (l0_0 : List Int) (a0_1 : Int) (l0_2 : List Int) : Option (List Int × Int × List Int) := (qjk.f k l0_0).bind fun t104 => ((qjk.f k l0_2).bind fun t107 => (some (t104,a0_1,t107)))
set_option maxHeartbeats 8000000 in
set_option maxRecDepth 100000 in
theorem qjw.calls (k : Nat) (A0_0 : Option Addr) (c0_0 : Nat) (l0_0 : List Int) (a0_1 : Int) (A0_2 : Option Addr) (c0_2 : Nat) (l0_2 : List Int) (r1 : List Int) (r2 : Int) (r3 : List Int) (w : World) (hr0_0 : Kd.C (Kd.int .u8) w A0_0 l0_0.length l0_0) (hc0_0 : l0_0.length ≤ c0_0) (hr0_2 : Kd.C (Kd.int .u8) w A0_2 l0_2.length l0_2) (hc0_2 : l0_2.length ≤ c0_2) (h : qjw.f k l0_0 a0_1 l0_2 = some (r1,r2,r3)) :
  Calls Try.prog 77 #[.agg #[.slice A0_0 l0_0.length c0_0,.int .i64 a0_1,.slice A0_2 l0_2.length c0_2]] w fun e w' => ∃ v0_ v2_ : Value,e = .returned (.agg #[v0_,.int .i64 r2,v2_]) ∧ Kd.R (Kd.int .u8) 5 w' w.heap.size (fun k_ => some k_ ≠ (v2_ : Value).ownBlock) v0_ r1 ∧ Kd.R (Kd.int .u8) 5 w' w.heap.size (fun k_ => some k_ ≠ (v0_ : Value).ownBlock) v2_ r3 ∧ Below w.heap.size w w' := by
 have hu102 := Try.underlying102
 have hu82 := Try.underlying82
 have HR0_0 := qq.mk hr0_0
 have HC0_0 := qq.mk hc0_0
 clear hr0_0 hc0_0
 have HR0_2 := qq.mk hr0_2
 have HC0_2 := qq.mk hc0_2
 clear hr0_2 hc0_2
 have HB := qq.mk (Below.refl w.heap.size w)
 have H : ((qjk.f k l0_0).bind fun t104 => ((qjk.f k l0_2).bind fun t107 => (some (t104,a0_1,t107)))) = some (r1,r2,r3) := h
 clear h
 replace H := Option.bind_eq_some_iff.mp H
 obtain ⟨t104,A20,H⟩ := H
 replace H : ((qjk.f k l0_2).bind fun t107 => (some (t104,a0_1,t107))) = some (r1,r2,r3) := H
 have A2 := qq.mk A20
 clear A20
 replace H := Option.bind_eq_some_iff.mp H
 obtain ⟨t107,A30,H⟩ := H
 replace H : (some (t104,a0_1,t107)) = some (r1,r2,r3) := H
 have A3 := qq.mk A30
 clear A30
 simp only [Option.some.injEq,Prod.mk.injEq] at H
 obtain ⟨rfl,rfl,rfl⟩ := H
 go_enter Try.func77,Try.ntmps77
 go_wp2_with (first | ((with_reducible refine gate_dst (N := 1) rfl ?_);refine box_event ?hg (N := 1) ?hd (cs := #[.slice A0_0 l0_0.length c0_0,.int .i64 a0_1,.slice A0_2 l0_2.length c0_2]) (t := 102) ?hr ?_;(case hd => rfl);(case hg => rfl);(case hr => first | (go_simp;done) | (go_simp;rfl));intro gb101 hg w4 hbox hb;have n0_ := qq.mk (zv (by repeat (first | (with_reducible first | exact HB.out | apply qj | apply qz | apply qk) | exact HB.out)) hb);have n1_ := qq.mk (hbox);have n2_ := qq.mk ((by rw [hg];exact (zw (by repeat (first | (with_reducible first | exact HB.out | apply qj | apply qz | apply qk) | exact HB.out))) : w.heap.size ≤ gb101));have n3_ := qq.mk ((by rw [hg];exact (zw (by repeat (first | (with_reducible first | exact HB.out | apply qj | apply qz | apply qk) | exact HB.out))) : w.heap.size ≤ gb101));clear HB;have HB := n0_;have BK101 := n1_;have GW101 := n2_;have GE101 := n3_;clear n0_ n1_ n2_ n3_;clear hb hbox hg) | ((with_reducible refine gate_dst (N := 2) rfl ?_);refine box_event ?hg (N := 2) ?hd (cs := #[.slice none 0 0,.int .i64 0,.slice none 0 0]) (t := 82) ?hr ?_;(case hd => rfl);(case hg => rfl);(case hr => first | (go_simp;done) | (go_simp;rfl));intro gb102 hg w5 hbox hb;have n0_ := qq.mk (vz (g := gb101) (o := .cells #[.slice A0_0 l0_0.length c0_0,.int .i64 a0_1,.slice A0_2 l0_2.length c0_2] 102 (0,0)) (by (with_reducible repeat (first | refine zz ?_ _ | refine zj ?_ | refine zq ?_ _));exact BK101.out) hb);have n1_ := qq.mk (zv (by repeat (first | (with_reducible first | exact HB.out | apply qj | apply qz | apply qk | refine qx ?_ GE101.out) | exact HB.out)) hb);have n2_ := qq.mk (hbox);have n3_ := qq.mk ((by rw [hg];exact (zw (by repeat (first | (with_reducible first | exact HB.out | apply qj | apply qz | apply qk | refine qx ?_ GE101.out) | exact HB.out))) : w.heap.size ≤ gb102));have n4_ := qq.mk ((by rw [hg];exact (zw (by repeat (first | (with_reducible first | exact HB.out | apply qj | apply qz | apply qk | refine qx ?_ GE101.out) | exact HB.out))) : w.heap.size ≤ gb102));have n5_ := qq.mk ((by rw [hg];exact Nat.ne_of_lt (blk_lt (g := gb101) (o := .cells #[.slice A0_0 l0_0.length c0_0,.int .i64 a0_1,.slice A0_2 l0_2.length c0_2] 102 (0,0)) (by (with_reducible repeat (first | refine zz ?_ _ | refine zj ?_ | refine zq ?_ _));exact BK101.out)) : gb101 ≠ gb102));have n6_ := qq.mk ((by rw [hg];exact Nat.ne_of_gt (blk_lt (g := gb101) (o := .cells #[.slice A0_0 l0_0.length c0_0,.int .i64 a0_1,.slice A0_2 l0_2.length c0_2] 102 (0,0)) (by (with_reducible repeat (first | refine zz ?_ _ | refine zj ?_ | refine zq ?_ _));exact BK101.out)) : gb102 ≠ gb101));clear BK101;clear HB;have BK101 := n0_;have HB := n1_;have BK102 := n2_;have GW102 := n3_;have GE102 := n4_;have NB101_102 := n5_;have NB102_101 := n6_;clear n0_ n1_ n2_ n3_ n4_ n5_ n6_;clear hb hbox hg) | ((with_reducible refine gate_dst (N := 3) rfl ?_);refine box_event ?hg (N := 3) ?hd (cs := #[.slice none 0 0,.int .i64 0,.slice none 0 0]) (t := 82) ?hr ?_;(case hd => rfl);(case hg => rfl);(case hr => first | (go_simp;done) | (go_simp;rfl));intro gb103 hg w6 hbox hb;have n0_ := qq.mk (vz (g := gb101) (o := .cells #[.slice A0_0 l0_0.length c0_0,.int .i64 a0_1,.slice A0_2 l0_2.length c0_2] 102 (0,0)) (by (with_reducible repeat (first | refine zz ?_ _ | refine zj ?_ | refine zq ?_ _));exact BK101.out) hb);have n1_ := qq.mk (vz (g := gb102) (o := .cells #[.slice none 0 0,.int .i64 0,.slice none 0 0] 82 (0,0)) (by (with_reducible repeat (first | refine zz ?_ _ | refine zj ?_ | refine zq ?_ _));exact BK102.out) hb);have n2_ := qq.mk (zv (by repeat (first | (with_reducible first | exact HB.out | apply qj | apply qz | apply qk | refine qx ?_ GE101.out | refine qx ?_ GE102.out) | exact HB.out)) hb);have n3_ := qq.mk (hbox);have n4_ := qq.mk ((by rw [hg];exact (zw (by repeat (first | (with_reducible first | exact HB.out | apply qj | apply qz | apply qk | refine qx ?_ GE101.out | refine qx ?_ GE102.out) | exact HB.out))) : w.heap.size ≤ gb103));have n5_ := qq.mk ((by rw [hg];exact (zw (by repeat (first | (with_reducible first | exact HB.out | apply qj | apply qz | apply qk | refine qx ?_ GE101.out | refine qx ?_ GE102.out) | exact HB.out))) : w.heap.size ≤ gb103));have n6_ := qq.mk ((by rw [hg];exact Nat.ne_of_lt (blk_lt (g := gb101) (o := .cells #[.slice A0_0 l0_0.length c0_0,.int .i64 a0_1,.slice A0_2 l0_2.length c0_2] 102 (0,0)) (by (with_reducible repeat (first | refine zz ?_ _ | refine zj ?_ | refine zq ?_ _));exact BK101.out)) : gb101 ≠ gb103));have n7_ := qq.mk ((by rw [hg];exact Nat.ne_of_gt (blk_lt (g := gb101) (o := .cells #[.slice A0_0 l0_0.length c0_0,.int .i64 a0_1,.slice A0_2 l0_2.length c0_2] 102 (0,0)) (by (with_reducible repeat (first | refine zz ?_ _ | refine zj ?_ | refine zq ?_ _));exact BK101.out)) : gb103 ≠ gb101));have n8_ := qq.mk ((by rw [hg];exact Nat.ne_of_lt (blk_lt (g := gb102) (o := .cells #[.slice none 0 0,.int .i64 0,.slice none 0 0] 82 (0,0)) (by (with_reducible repeat (first | refine zz ?_ _ | refine zj ?_ | refine zq ?_ _));exact BK102.out)) : gb102 ≠ gb103));have n9_ := qq.mk ((by rw [hg];exact Nat.ne_of_gt (blk_lt (g := gb102) (o := .cells #[.slice none 0 0,.int .i64 0,.slice none 0 0] 82 (0,0)) (by (with_reducible repeat (first | refine zz ?_ _ | refine zj ?_ | refine zq ?_ _));exact BK102.out)) : gb103 ≠ gb102));clear BK101;clear BK102;clear HB;have BK101 := n0_;have BK102 := n1_;have HB := n2_;have BK103 := n3_;have GW103 := n4_;have GE103 := n5_;have NB101_103 := n6_;have NB103_101 := n7_;have NB102_103 := n8_;have NB103_102 := n9_;clear n0_ n1_ n2_ n3_ n4_ n5_ n6_ n7_ n8_ n9_;clear hb hbox hg;have hnb7 := NB101_102.out;have hnc7 := NB102_101.out;have hnb8 := NB101_103.out;have hnc8 := NB103_101.out;have hcz9_0 : w6.cell? ⟨gb101,0,none⟩ = some (.slice A0_0 l0_0.length c0_0) := (qw BK101.out 0).trans rfl;have hcz9_1 : w6.cell? ⟨gb101,1,none⟩ = some (.int .i64 a0_1) := (qw BK101.out 1).trans rfl;have hcz9_2 : w6.cell? ⟨gb101,2,none⟩ = some (.slice A0_2 l0_2.length c0_2) := (qw BK101.out 2).trans rfl;have hfz9_0 := qv BK101.out 0;have hfz9_1 := qv BK101.out 1;have hfz9_2 := qv BK101.out 2) | ((with_reducible refine jv (f := 16) rfl ?_);refine goesL_ (some 6) rfl rfl Try.func16 (by kernel_rfl) rfl #[.slice A0_0 l0_0.length c0_0] rfl (by (try simp only [List.map_toArray,List.map_cons,List.map_nil]);first | done | rfl | (simp only [List.length_drop,List.length_take];rfl)) ?_;(with_reducible refine (qjk.calls k _ _ l0_0 t104 _ ?side1 ?side2 A2.out).mono ?_);(case side1 => repeat (first | exact (Kd.C_below HR0_0.out HB.out) | (with_reducible refine Kd.C_alloc ?_ _) | (with_reducible refine Kd.C_drewN ?_ _) | (with_reducible refine Kd.C_drew ?_)));(case side2 => exact HC0_0.out);rintro e w10 ⟨v105,rfl,ho0,hb⟩;refine ⟨_,rfl,?_⟩;have n0_ := qq.mk (Kd.R_lower ho0 (zw (by repeat (first | (with_reducible first | exact HB.out | apply qj | apply qz | apply qk | refine qx ?_ GE101.out | refine qx ?_ GE102.out | refine qx ?_ GE103.out) | exact HB.out))));have n1_ := qq.mk (vz (g := gb101) (o := .cells #[.slice A0_0 l0_0.length c0_0,.int .i64 a0_1,.slice A0_2 l0_2.length c0_2] 102 (0,0)) (by (with_reducible repeat (first | refine zz ?_ _ | refine zj ?_ | refine zq ?_ _));exact BK101.out) hb);have n2_ := qq.mk (vz (g := gb102) (o := .cells #[.slice none 0 0,.int .i64 0,.slice none 0 0] 82 (0,0)) (by (with_reducible repeat (first | refine zz ?_ _ | refine zj ?_ | refine zq ?_ _));exact BK102.out) hb);have n3_ := qq.mk (vz (g := gb103) (o := .cells #[.slice none 0 0,.int .i64 0,.slice none 0 0] 82 (0,0)) (by (with_reducible repeat (first | refine zz ?_ _ | refine zj ?_ | refine zq ?_ _));exact BK103.out) hb);have n4_ := qq.mk (zv (by repeat (first | (with_reducible first | exact HB.out | apply qj | apply qz | apply qk | refine qx ?_ GE101.out | refine qx ?_ GE102.out | refine qx ?_ GE103.out) | exact HB.out)) hb);clear BK101;clear BK102;clear BK103;clear HB;have HO106 := n0_;have BK101 := n1_;have BK102 := n2_;have BK103 := n3_;have HB := n4_;clear n0_ n1_ n2_ n3_ n4_;(try clear hb);(try clear hb2);(try clear hk);(try clear hi);(try clear ho0);obtain ⟨Ao11,co11,eo11⟩ := Kd.R_slice HO106.out;subst eo11;have hnb12 := NB103_102.out;have hnc12 := NB102_103.out;have hcz13_0 : w10.cell? ⟨gb103,0,none⟩ = some (.slice none 0 0) := (qw BK103.out 0).trans rfl;have hcz13_1 : w10.cell? ⟨gb103,1,none⟩ = some (.int .i64 0) := (qw BK103.out 1).trans rfl;have hcz13_2 : w10.cell? ⟨gb103,2,none⟩ = some (.slice none 0 0) := (qw BK103.out 2).trans rfl;have hfz13_0 := qv BK103.out 0;have hfz13_1 := qv BK103.out 1;have hfz13_2 := qv BK103.out 2;have hcz14_0 : w10.cell? ⟨gb101,0,none⟩ = some (.slice A0_0 l0_0.length c0_0) := (qw BK101.out 0).trans rfl;have hcz14_1 : w10.cell? ⟨gb101,1,none⟩ = some (.int .i64 a0_1) := (qw BK101.out 1).trans rfl;have hcz14_2 : w10.cell? ⟨gb101,2,none⟩ = some (.slice A0_2 l0_2.length c0_2) := (qw BK101.out 2).trans rfl;have hfz14_0 := qv BK101.out 0;have hfz14_1 := qv BK101.out 1;have hfz14_2 := qv BK101.out 2) | ((with_reducible refine jv (f := 16) rfl ?_);refine goesL_ (some 13) rfl rfl Try.func16 (by kernel_rfl) rfl #[.slice A0_2 l0_2.length c0_2] rfl (by (try simp only [List.map_toArray,List.map_cons,List.map_nil]);first | done | rfl | (simp only [List.length_drop,List.length_take];rfl)) ?_;(with_reducible refine (qjk.calls k _ _ l0_2 t107 _ ?side1 ?side2 A3.out).mono ?_);(case side1 => exact Kd.C_below HR0_2.out (by repeat (first | (with_reducible first | exact HB.out | apply qj | apply qz | apply qk | refine qx ?_ GE101.out | refine qx ?_ GE102.out | refine qx ?_ GE103.out) | exact HB.out)));(case side2 => exact HC0_2.out);rintro e w15 ⟨v108,rfl,ho0,hb⟩;refine ⟨_,rfl,?_⟩;have n0_ := qq.mk (Kd.R_elder' (by (with_reducible repeat (first | apply Kd.jq | apply Kd.zx | apply Kd.jz));exact (Kd.R_mono (Kd.R_far (p := ⟨gb103,1,none⟩) (Kd.R_far (p := ⟨gb103,0,none⟩) (Kd.R_types HO106.out BK103.out (by decide)) (fun _ hk => hk.2) (.slice Ao11 t104.length co11)) (fun _ hk => hk.2) (.int .i64 a0_1)) (fun _ h_ => h_.1))) (Kd.R_base ho0) hb);have n1_ := qq.mk (Kd.R_lower (Kd.R_new' ho0 (Kd.R_lt (by (with_reducible repeat (first | apply Kd.jq | apply Kd.zx | apply Kd.jz));exact (Kd.R_mono (Kd.R_far (p := ⟨gb103,1,none⟩) (Kd.R_far (p := ⟨gb103,0,none⟩) (Kd.R_types HO106.out BK103.out (by decide)) (fun _ hk => hk.2) (.slice Ao11 t104.length co11)) (fun _ hk => hk.2) (.int .i64 a0_1)) (fun _ h_ => h_.1))))) (zw (by repeat (first | (with_reducible first | exact HB.out | apply qj | apply qz | apply qk | refine qx ?_ GE101.out | refine qx ?_ GE102.out | refine qx ?_ GE103.out) | exact HB.out))));have n2_ := qq.mk (vz (g := gb101) (o := .cells #[.slice A0_0 l0_0.length c0_0,.int .i64 a0_1,.slice A0_2 l0_2.length c0_2] 102 (0,0)) (by (with_reducible repeat (first | refine zz ?_ _ | refine zj ?_ | refine zq ?_ _));refine blk_far ?_ NB101_103.out _;(with_reducible repeat (first | refine zz ?_ _ | refine zj ?_ | refine zq ?_ _));refine blk_far ?_ NB101_103.out _;(with_reducible repeat (first | refine zz ?_ _ | refine zj ?_ | refine zq ?_ _));exact BK101.out) hb);have n3_ := qq.mk (vz (g := gb102) (o := .cells #[.slice none 0 0,.int .i64 0,.slice none 0 0] 82 (0,0)) (by (with_reducible repeat (first | refine zz ?_ _ | refine zj ?_ | refine zq ?_ _));refine blk_far ?_ NB102_103.out _;(with_reducible repeat (first | refine zz ?_ _ | refine zj ?_ | refine zq ?_ _));refine blk_far ?_ NB102_103.out _;(with_reducible repeat (first | refine zz ?_ _ | refine zj ?_ | refine zq ?_ _));exact BK102.out) hb);have n4_ := qq.mk (vz (g := gb103) (o := .cells #[.slice Ao11 t104.length co11,.int .i64 a0_1,.slice none 0 0] 82 (0,0)) (by (with_reducible repeat (first | refine zz ?_ _ | refine zj ?_ | refine zq ?_ _));refine blk_put (cs := #[.slice Ao11 t104.length co11,.int .i64 0,.slice none 0 0]) ?_ 1 _ rfl;(with_reducible repeat (first | refine zz ?_ _ | refine zj ?_ | refine zq ?_ _));refine blk_put (cs := #[.slice none 0 0,.int .i64 0,.slice none 0 0]) ?_ 0 _ rfl;(with_reducible repeat (first | refine zz ?_ _ | refine zj ?_ | refine zq ?_ _));exact BK103.out) hb);have n5_ := qq.mk (zv (by repeat (first | (with_reducible first | exact HB.out | apply qj | apply qz | apply qk | refine qx ?_ GE101.out | refine qx ?_ GE102.out | refine qx ?_ GE103.out) | exact HB.out)) hb);clear HO106;clear BK101;clear BK102;clear BK103;clear HB;have HO106 := n0_;have HO109 := n1_;have BK101 := n2_;have BK102 := n3_;have BK103 := n4_;have HB := n5_;clear n0_ n1_ n2_ n3_ n4_ n5_;(try clear hb);(try clear hb2);(try clear hk);(try clear hi);(try clear ho0);obtain ⟨Ao16,co16,eo16⟩ := Kd.R_slice HO109.out;subst eo16;have hcz17_0 : w15.cell? ⟨gb103,0,none⟩ = some (.slice Ao11 t104.length co11) := (qw BK103.out 0).trans rfl;have hcz17_1 : w15.cell? ⟨gb103,1,none⟩ = some (.int .i64 a0_1) := (qw BK103.out 1).trans rfl;have hcz17_2 : w15.cell? ⟨gb103,2,none⟩ = some (.slice none 0 0) := (qw BK103.out 2).trans rfl;have hfz17_0 := qv BK103.out 0;have hfz17_1 := qv BK103.out 1;have hfz17_2 := qv BK103.out 2;have hcz18_0 : w15.cell? ⟨gb102,0,none⟩ = some (.slice none 0 0) := (qw BK102.out 0).trans rfl;have hcz18_1 : w15.cell? ⟨gb102,1,none⟩ = some (.int .i64 0) := (qw BK102.out 1).trans rfl;have hcz18_2 : w15.cell? ⟨gb102,2,none⟩ = some (.slice none 0 0) := (qw BK102.out 2).trans rfl;have hfz18_0 := qv BK102.out 0;have hfz18_1 := qv BK102.out 1;have hfz18_2 := qv BK102.out 2))
 refine bodyPost_ret (results_cell_row rfl _ _ gb102 82 #[.slice Ao11 t104.length co11,.int .i64 a0_1,.slice Ao16 t107.length co16] (0,0) _ rfl (by (with_reducible repeat (first | refine zz ?_ _ | refine zj ?_ | refine zq ?_ _));refine blk_put (cs := #[.slice Ao11 t104.length co11,.int .i64 a0_1,.slice none 0 0]) ?_ 2 _ rfl;(with_reducible repeat (first | refine zz ?_ _ | refine zj ?_ | refine zq ?_ _));refine blk_put (cs := #[.slice Ao11 t104.length co11,.int .i64 0,.slice none 0 0]) ?_ 1 _ rfl;(with_reducible repeat (first | refine zz ?_ _ | refine zj ?_ | refine zq ?_ _));refine blk_put (cs := #[.slice none 0 0,.int .i64 0,.slice none 0 0]) ?_ 0 _ rfl;(with_reducible repeat (first | refine zz ?_ _ | refine zj ?_ | refine zq ?_ _));refine blk_far ?_ NB102_103.out _;(with_reducible repeat (first | refine zz ?_ _ | refine zj ?_ | refine zq ?_ _));exact BK102.out) Try.underlying82 rfl (by kernel_rfl)) rfl ?_
 exact ⟨_,_,by first | rfl | (simp [*,jk,jj] <;> rfl),by (with_reducible repeat (first | apply Kd.jq | apply Kd.zx | apply Kd.jz));exact Kd.R_mono (Kd.R_far (p := ⟨gb102,2,none⟩) (Kd.R_far (p := ⟨gb102,1,none⟩) (Kd.R_far (p := ⟨gb102,0,none⟩) (Kd.R_far (p := ⟨gb103,2,none⟩) (Kd.R_types (Kd.R_types HO106.out BK103.out (by decide)) BK102.out (by decide)) (fun _ hk => hk.1.2) (.slice Ao16 t107.length co16)) (fun _ hk => hk.2) (.slice Ao11 t104.length co11)) (fun _ hk => hk.2) (.int .i64 a0_1)) (fun _ hk => hk.2) (.slice Ao16 t107.length co16)) (fun _ hk => hk.1.1.2),by (with_reducible repeat (first | apply Kd.jq | apply Kd.zx | apply Kd.jz));exact Kd.R_mono (Kd.R_far (p := ⟨gb102,2,none⟩) (Kd.R_far (p := ⟨gb102,1,none⟩) (Kd.R_far (p := ⟨gb102,0,none⟩) (Kd.R_far (p := ⟨gb103,2,none⟩) (Kd.R_types (Kd.R_types HO109.out BK103.out (by decide)) BK102.out (by decide)) (fun _ hk => hk.1.2) (.slice Ao16 t107.length co16)) (fun _ hk => hk.2) (.slice Ao11 t104.length co11)) (fun _ hk => hk.2) (.int .i64 a0_1)) (fun _ hk => hk.2) (.slice Ao16 t107.length co16)) (fun _ hk => hk.1.1.2),by repeat (first | (with_reducible first | exact HB.out | apply qj | apply qz | apply qk | refine qx ?_ GE101.out | refine qx ?_ GE102.out | refine qx ?_ GE103.out) | exact HB.out)⟩
def qqk.f (k : Nat) (l0_0 : List Int) (a0_1 : Int) (l0_2 : List Int) (l1_0 : List Int) (a1_1 : Int) (l1_2 : List Int) : Option (Bool) := (qqq.f k l0_0 l1_0).bind fun t103 => (if t103 = true then (if a0_1 = a1_1 then ((qqq.f k l0_2 l1_2).bind fun t104 => (if t104 = true then (some true) else (some false))) else (some false)) else (some false))
set_option maxHeartbeats 8000000 in
set_option maxRecDepth 100000 in
theorem qqk.calls (k : Nat) (A0_0 : Option Addr) (c0_0 : Nat) (l0_0 : List Int) (a0_1 : Int) (A0_2 : Option Addr) (c0_2 : Nat) (l0_2 : List Int) (A1_0 : Option Addr) (c1_0 : Nat) (l1_0 : List Int) (a1_1 : Int) (A1_2 : Option Addr) (c1_2 : Nat) (l1_2 : List Int) (r : Bool) (w : World) (hr0_0 : Kd.C (Kd.int .u8) w A0_0 l0_0.length l0_0) (hc0_0 : l0_0.length ≤ c0_0) (hr0_2 : Kd.C (Kd.int .u8) w A0_2 l0_2.length l0_2) (hc0_2 : l0_2.length ≤ c0_2) (hr1_0 : Kd.C (Kd.int .u8) w A1_0 l1_0.length l1_0) (hc1_0 : l1_0.length ≤ c1_0) (hr1_2 : Kd.C (Kd.int .u8) w A1_2 l1_2.length l1_2) (hc1_2 : l1_2.length ≤ c1_2) (h : qqk.f k l0_0 a0_1 l0_2 l1_0 a1_1 l1_2 = some r) :
  Calls Try.prog 86 #[.agg #[.slice A0_0 l0_0.length c0_0,.int .i64 a0_1,.slice A0_2 l0_2.length c0_2],.agg #[.slice A1_0 l1_0.length c1_0,.int .i64 a1_1,.slice A1_2 l1_2.length c1_2]] w fun e w' => e = .returned (.bool r) ∧ Below w.heap.size w w' := by
 have hu82 := Try.underlying82
 have HR0_0 := qq.mk hr0_0
 have HC0_0 := qq.mk hc0_0
 clear hr0_0 hc0_0
 have HR0_2 := qq.mk hr0_2
 have HC0_2 := qq.mk hc0_2
 clear hr0_2 hc0_2
 have HR1_0 := qq.mk hr1_0
 have HC1_0 := qq.mk hc1_0
 clear hr1_0 hc1_0
 have HR1_2 := qq.mk hr1_2
 have HC1_2 := qq.mk hc1_2
 clear hr1_2 hc1_2
 have HB := qq.mk (Below.refl w.heap.size w)
 have H : ((qqq.f k l0_0 l1_0).bind fun t103 => (if t103 = true then (if a0_1 = a1_1 then ((qqq.f k l0_2 l1_2).bind fun t104 => (if t104 = true then (some true) else (some false))) else (some false)) else (some false))) = some r := h
 clear h
 replace H := Option.bind_eq_some_iff.mp H
 obtain ⟨t103,A30,H⟩ := H
 replace H : (if t103 = true then (if a0_1 = a1_1 then ((qqq.f k l0_2 l1_2).bind fun t104 => (if t104 = true then (some true) else (some false))) else (some false)) else (some false)) = some r := H
 have A3 := qq.mk A30
 clear A30
 by_cases c4 : t103 = true
 ·subst c4
  have H1 : (if a0_1 = a1_1 then ((qqq.f k l0_2 l1_2).bind fun t104 => (if t104 = true then (some true) else (some false))) else (some false)) = some r := by rw [if_pos rfl] at H;exact H
  clear H
  have H := H1
  clear H1
  by_cases c5 : a0_1 = a1_1
  ·rw [if_pos c5] at H
   have c5b0 : (a0_1 == a1_1) = true := beq_iff_eq.mpr c5
   have c5b1 : (a0_1 != a1_1) = false := bne_eq_false_iff_eq.mpr c5
   clear c5
   replace H := Option.bind_eq_some_iff.mp H
   obtain ⟨t104,A60,H⟩ := H
   replace H : (if t104 = true then (some true) else (some false)) = some r := H
   have A6 := qq.mk A60
   clear A60
   by_cases c7 : t104 = true
   ·subst c7
    have H1 : (some true) = some r := by rw [if_pos rfl] at H;exact H
    clear H
    have H := H1
    clear H1
    obtain rfl := Option.some.inj H
    go_enter Try.func86,Try.ntmps86
    go_wp2_with (first | ((with_reducible refine gate_dst (N := 2) rfl ?_);refine box_event ?hg (N := 2) ?hd (cs := #[.slice A0_0 l0_0.length c0_0,.int .i64 a0_1,.slice A0_2 l0_2.length c0_2]) (t := 82) ?hr ?_;(case hd => rfl);(case hg => rfl);(case hr => first | (go_simp;done) | (go_simp;rfl));intro gb101 hg w8 hbox hb;have n0_ := qq.mk (zv (by repeat (first | (with_reducible first | exact HB.out | apply qj | apply qz | apply qk) | exact HB.out)) hb);have n1_ := qq.mk (hbox);have n2_ := qq.mk ((by rw [hg];exact (zw (by repeat (first | (with_reducible first | exact HB.out | apply qj | apply qz | apply qk) | exact HB.out))) : w.heap.size ≤ gb101));have n3_ := qq.mk ((by rw [hg];exact (zw (by repeat (first | (with_reducible first | exact HB.out | apply qj | apply qz | apply qk) | exact HB.out))) : w.heap.size ≤ gb101));clear HB;have HB := n0_;have BK101 := n1_;have GW101 := n2_;have GE101 := n3_;clear n0_ n1_ n2_ n3_;clear hb hbox hg) | ((with_reducible refine gate_dst (N := 3) rfl ?_);refine box_event ?hg (N := 3) ?hd (cs := #[.slice A1_0 l1_0.length c1_0,.int .i64 a1_1,.slice A1_2 l1_2.length c1_2]) (t := 82) ?hr ?_;(case hd => rfl);(case hg => rfl);(case hr => first | (go_simp;done) | (go_simp;rfl));intro gb102 hg w9 hbox hb;have n0_ := qq.mk (vz (g := gb101) (o := .cells #[.slice A0_0 l0_0.length c0_0,.int .i64 a0_1,.slice A0_2 l0_2.length c0_2] 82 (0,0)) (by (with_reducible repeat (first | refine zz ?_ _ | refine zj ?_ | refine zq ?_ _));exact BK101.out) hb);have n1_ := qq.mk (zv (by repeat (first | (with_reducible first | exact HB.out | apply qj | apply qz | apply qk | refine qx ?_ GE101.out) | exact HB.out)) hb);have n2_ := qq.mk (hbox);have n3_ := qq.mk ((by rw [hg];exact (zw (by repeat (first | (with_reducible first | exact HB.out | apply qj | apply qz | apply qk | refine qx ?_ GE101.out) | exact HB.out))) : w.heap.size ≤ gb102));have n4_ := qq.mk ((by rw [hg];exact (zw (by repeat (first | (with_reducible first | exact HB.out | apply qj | apply qz | apply qk | refine qx ?_ GE101.out) | exact HB.out))) : w.heap.size ≤ gb102));have n5_ := qq.mk ((by rw [hg];exact Nat.ne_of_lt (blk_lt (g := gb101) (o := .cells #[.slice A0_0 l0_0.length c0_0,.int .i64 a0_1,.slice A0_2 l0_2.length c0_2] 82 (0,0)) (by (with_reducible repeat (first | refine zz ?_ _ | refine zj ?_ | refine zq ?_ _));exact BK101.out)) : gb101 ≠ gb102));have n6_ := qq.mk ((by rw [hg];exact Nat.ne_of_gt (blk_lt (g := gb101) (o := .cells #[.slice A0_0 l0_0.length c0_0,.int .i64 a0_1,.slice A0_2 l0_2.length c0_2] 82 (0,0)) (by (with_reducible repeat (first | refine zz ?_ _ | refine zj ?_ | refine zq ?_ _));exact BK101.out)) : gb102 ≠ gb101));clear BK101;clear HB;have BK101 := n0_;have HB := n1_;have BK102 := n2_;have GW102 := n3_;have GE102 := n4_;have NB101_102 := n5_;have NB102_101 := n6_;clear n0_ n1_ n2_ n3_ n4_ n5_ n6_;clear hb hbox hg;have hnb10 := NB101_102.out;have hnc10 := NB102_101.out;have hcz11_0 : w9.cell? ⟨gb101,0,none⟩ = some (.slice A0_0 l0_0.length c0_0) := (qw BK101.out 0).trans rfl;have hcz11_1 : w9.cell? ⟨gb101,1,none⟩ = some (.int .i64 a0_1) := (qw BK101.out 1).trans rfl;have hcz11_2 : w9.cell? ⟨gb101,2,none⟩ = some (.slice A0_2 l0_2.length c0_2) := (qw BK101.out 2).trans rfl;have hfz11_0 := qv BK101.out 0;have hfz11_1 := qv BK101.out 1;have hfz11_2 := qv BK101.out 2;have hcz12_0 : w9.cell? ⟨gb102,0,none⟩ = some (.slice A1_0 l1_0.length c1_0) := (qw BK102.out 0).trans rfl;have hcz12_1 : w9.cell? ⟨gb102,1,none⟩ = some (.int .i64 a1_1) := (qw BK102.out 1).trans rfl;have hcz12_2 : w9.cell? ⟨gb102,2,none⟩ = some (.slice A1_2 l1_2.length c1_2) := (qw BK102.out 2).trans rfl;have hfz12_0 := qv BK102.out 0;have hfz12_1 := qv BK102.out 1;have hfz12_2 := qv BK102.out 2) | ((with_reducible refine jv (f := 20) rfl ?_);refine goesL_ (some 9) rfl rfl Try.func20 (by kernel_rfl) rfl #[.slice A0_0 l0_0.length c0_0,.slice A1_0 l1_0.length c1_0] rfl (by (try simp only [List.map_toArray,List.map_cons,List.map_nil]);first | done | rfl | (simp only [List.length_drop,List.length_take];rfl)) ?_;(with_reducible refine (qqq.calls k _ _ l0_0 _ _ l1_0 true _ ?side1 ?side2 ?side3 ?side4 A3.out).mono ?_);(case side1 => repeat (first | exact (Kd.C_below HR0_0.out HB.out) | (with_reducible refine Kd.C_alloc ?_ _) | (with_reducible refine Kd.C_drewN ?_ _) | (with_reducible refine Kd.C_drew ?_)));(case side2 => exact HC0_0.out);(case side3 => repeat (first | exact (Kd.C_below HR1_0.out HB.out) | (with_reducible refine Kd.C_alloc ?_ _) | (with_reducible refine Kd.C_drewN ?_ _) | (with_reducible refine Kd.C_drew ?_)));(case side4 => exact HC1_0.out);rintro e w' ⟨rfl,⟨nd,rfl⟩⟩;refine ⟨_,rfl,?_⟩) | ((with_reducible refine jv (f := 20) rfl ?_);refine goesL_ (some 20) rfl rfl Try.func20 (by kernel_rfl) rfl #[.slice A0_2 l0_2.length c0_2,.slice A1_2 l1_2.length c1_2] rfl (by (try simp only [List.map_toArray,List.map_cons,List.map_nil]);first | done | rfl | (simp only [List.length_drop,List.length_take];rfl)) ?_;(with_reducible refine (qqq.calls k _ _ l0_2 _ _ l1_2 true _ ?side1 ?side2 ?side3 ?side4 A6.out).mono ?_);(case side1 => repeat (first | exact (Kd.C_below HR0_2.out (by repeat (first | (with_reducible first | exact HB.out | apply qj | apply qz | apply qk | refine qx ?_ GE101.out | refine qx ?_ GE102.out) | exact HB.out))) | (with_reducible refine Kd.C_alloc ?_ _) | (with_reducible refine Kd.C_drewN ?_ _) | (with_reducible refine Kd.C_drew ?_)));(case side2 => exact HC0_2.out);(case side3 => repeat (first | exact (Kd.C_below HR1_2.out (by repeat (first | (with_reducible first | exact HB.out | apply qj | apply qz | apply qk | refine qx ?_ GE101.out | refine qx ?_ GE102.out) | exact HB.out))) | (with_reducible refine Kd.C_alloc ?_ _) | (with_reducible refine Kd.C_drewN ?_ _) | (with_reducible refine Kd.C_drew ?_)));(case side4 => exact HC1_2.out);rintro e w' ⟨rfl,⟨nd,rfl⟩⟩;refine ⟨_,rfl,?_⟩))
    go_ret
    exact ⟨by first | rfl | (simp [*,jk,jj] <;> rfl),by repeat (first | (with_reducible first | exact HB.out | apply qj | apply qz | apply qk | refine qx ?_ GE101.out | refine qx ?_ GE102.out) | exact HB.out)⟩
   ·replace c7 := Bool.eq_false_iff.mpr c7
    subst c7
    have H1 : (some false) = some r := by rw [if_neg (show ¬ (false = true) by decide)] at H;exact H
    clear H
    have H := H1
    clear H1
    obtain rfl := Option.some.inj H
    go_enter Try.func86,Try.ntmps86
    go_wp2_with (first | ((with_reducible refine gate_dst (N := 2) rfl ?_);refine box_event ?hg (N := 2) ?hd (cs := #[.slice A0_0 l0_0.length c0_0,.int .i64 a0_1,.slice A0_2 l0_2.length c0_2]) (t := 82) ?hr ?_;(case hd => rfl);(case hg => rfl);(case hr => first | (go_simp;done) | (go_simp;rfl));intro gb101 hg w13 hbox hb;have n0_ := qq.mk (zv (by repeat (first | (with_reducible first | exact HB.out | apply qj | apply qz | apply qk) | exact HB.out)) hb);have n1_ := qq.mk (hbox);have n2_ := qq.mk ((by rw [hg];exact (zw (by repeat (first | (with_reducible first | exact HB.out | apply qj | apply qz | apply qk) | exact HB.out))) : w.heap.size ≤ gb101));have n3_ := qq.mk ((by rw [hg];exact (zw (by repeat (first | (with_reducible first | exact HB.out | apply qj | apply qz | apply qk) | exact HB.out))) : w.heap.size ≤ gb101));clear HB;have HB := n0_;have BK101 := n1_;have GW101 := n2_;have GE101 := n3_;clear n0_ n1_ n2_ n3_;clear hb hbox hg) | ((with_reducible refine gate_dst (N := 3) rfl ?_);refine box_event ?hg (N := 3) ?hd (cs := #[.slice A1_0 l1_0.length c1_0,.int .i64 a1_1,.slice A1_2 l1_2.length c1_2]) (t := 82) ?hr ?_;(case hd => rfl);(case hg => rfl);(case hr => first | (go_simp;done) | (go_simp;rfl));intro gb102 hg w14 hbox hb;have n0_ := qq.mk (vz (g := gb101) (o := .cells #[.slice A0_0 l0_0.length c0_0,.int .i64 a0_1,.slice A0_2 l0_2.length c0_2] 82 (0,0)) (by (with_reducible repeat (first | refine zz ?_ _ | refine zj ?_ | refine zq ?_ _));exact BK101.out) hb);have n1_ := qq.mk (zv (by repeat (first | (with_reducible first | exact HB.out | apply qj | apply qz | apply qk | refine qx ?_ GE101.out) | exact HB.out)) hb);have n2_ := qq.mk (hbox);have n3_ := qq.mk ((by rw [hg];exact (zw (by repeat (first | (with_reducible first | exact HB.out | apply qj | apply qz | apply qk | refine qx ?_ GE101.out) | exact HB.out))) : w.heap.size ≤ gb102));have n4_ := qq.mk ((by rw [hg];exact (zw (by repeat (first | (with_reducible first | exact HB.out | apply qj | apply qz | apply qk | refine qx ?_ GE101.out) | exact HB.out))) : w.heap.size ≤ gb102));have n5_ := qq.mk ((by rw [hg];exact Nat.ne_of_lt (blk_lt (g := gb101) (o := .cells #[.slice A0_0 l0_0.length c0_0,.int .i64 a0_1,.slice A0_2 l0_2.length c0_2] 82 (0,0)) (by (with_reducible repeat (first | refine zz ?_ _ | refine zj ?_ | refine zq ?_ _));exact BK101.out)) : gb101 ≠ gb102));have n6_ := qq.mk ((by rw [hg];exact Nat.ne_of_gt (blk_lt (g := gb101) (o := .cells #[.slice A0_0 l0_0.length c0_0,.int .i64 a0_1,.slice A0_2 l0_2.length c0_2] 82 (0,0)) (by (with_reducible repeat (first | refine zz ?_ _ | refine zj ?_ | refine zq ?_ _));exact BK101.out)) : gb102 ≠ gb101));clear BK101;clear HB;have BK101 := n0_;have HB := n1_;have BK102 := n2_;have GW102 := n3_;have GE102 := n4_;have NB101_102 := n5_;have NB102_101 := n6_;clear n0_ n1_ n2_ n3_ n4_ n5_ n6_;clear hb hbox hg;have hnb15 := NB101_102.out;have hnc15 := NB102_101.out;have hcz16_0 : w14.cell? ⟨gb101,0,none⟩ = some (.slice A0_0 l0_0.length c0_0) := (qw BK101.out 0).trans rfl;have hcz16_1 : w14.cell? ⟨gb101,1,none⟩ = some (.int .i64 a0_1) := (qw BK101.out 1).trans rfl;have hcz16_2 : w14.cell? ⟨gb101,2,none⟩ = some (.slice A0_2 l0_2.length c0_2) := (qw BK101.out 2).trans rfl;have hfz16_0 := qv BK101.out 0;have hfz16_1 := qv BK101.out 1;have hfz16_2 := qv BK101.out 2;have hcz17_0 : w14.cell? ⟨gb102,0,none⟩ = some (.slice A1_0 l1_0.length c1_0) := (qw BK102.out 0).trans rfl;have hcz17_1 : w14.cell? ⟨gb102,1,none⟩ = some (.int .i64 a1_1) := (qw BK102.out 1).trans rfl;have hcz17_2 : w14.cell? ⟨gb102,2,none⟩ = some (.slice A1_2 l1_2.length c1_2) := (qw BK102.out 2).trans rfl;have hfz17_0 := qv BK102.out 0;have hfz17_1 := qv BK102.out 1;have hfz17_2 := qv BK102.out 2) | ((with_reducible refine jv (f := 20) rfl ?_);refine goesL_ (some 9) rfl rfl Try.func20 (by kernel_rfl) rfl #[.slice A0_0 l0_0.length c0_0,.slice A1_0 l1_0.length c1_0] rfl (by (try simp only [List.map_toArray,List.map_cons,List.map_nil]);first | done | rfl | (simp only [List.length_drop,List.length_take];rfl)) ?_;(with_reducible refine (qqq.calls k _ _ l0_0 _ _ l1_0 true _ ?side1 ?side2 ?side3 ?side4 A3.out).mono ?_);(case side1 => repeat (first | exact (Kd.C_below HR0_0.out HB.out) | (with_reducible refine Kd.C_alloc ?_ _) | (with_reducible refine Kd.C_drewN ?_ _) | (with_reducible refine Kd.C_drew ?_)));(case side2 => exact HC0_0.out);(case side3 => repeat (first | exact (Kd.C_below HR1_0.out HB.out) | (with_reducible refine Kd.C_alloc ?_ _) | (with_reducible refine Kd.C_drewN ?_ _) | (with_reducible refine Kd.C_drew ?_)));(case side4 => exact HC1_0.out);rintro e w' ⟨rfl,⟨nd,rfl⟩⟩;refine ⟨_,rfl,?_⟩) | ((with_reducible refine jv (f := 20) rfl ?_);refine goesL_ (some 20) rfl rfl Try.func20 (by kernel_rfl) rfl #[.slice A0_2 l0_2.length c0_2,.slice A1_2 l1_2.length c1_2] rfl (by (try simp only [List.map_toArray,List.map_cons,List.map_nil]);first | done | rfl | (simp only [List.length_drop,List.length_take];rfl)) ?_;(with_reducible refine (qqq.calls k _ _ l0_2 _ _ l1_2 false _ ?side1 ?side2 ?side3 ?side4 A6.out).mono ?_);(case side1 => repeat (first | exact (Kd.C_below HR0_2.out (by repeat (first | (with_reducible first | exact HB.out | apply qj | apply qz | apply qk | refine qx ?_ GE101.out | refine qx ?_ GE102.out) | exact HB.out))) | (with_reducible refine Kd.C_alloc ?_ _) | (with_reducible refine Kd.C_drewN ?_ _) | (with_reducible refine Kd.C_drew ?_)));(case side2 => exact HC0_2.out);(case side3 => repeat (first | exact (Kd.C_below HR1_2.out (by repeat (first | (with_reducible first | exact HB.out | apply qj | apply qz | apply qk | refine qx ?_ GE101.out | refine qx ?_ GE102.out) | exact HB.out))) | (with_reducible refine Kd.C_alloc ?_ _) | (with_reducible refine Kd.C_drewN ?_ _) | (with_reducible refine Kd.C_drew ?_)));(case side4 => exact HC1_2.out);rintro e w' ⟨rfl,⟨nd,rfl⟩⟩;refine ⟨_,rfl,?_⟩))
    go_ret
    exact ⟨by first | rfl | (simp [*,jk,jj] <;> rfl),by repeat (first | (with_reducible first | exact HB.out | apply qj | apply qz | apply qk | refine qx ?_ GE101.out | refine qx ?_ GE102.out) | exact HB.out)⟩
  ·rw [if_neg c5] at H
   have c5b0 : (a0_1 == a1_1) = false := beq_eq_false_iff_ne.mpr c5
   have c5b1 : (a0_1 != a1_1) = true := bne_iff_ne.mpr c5
   obtain rfl := Option.some.inj H
   go_enter Try.func86,Try.ntmps86
   go_wp2_with (first | ((with_reducible refine gate_dst (N := 2) rfl ?_);refine box_event ?hg (N := 2) ?hd (cs := #[.slice A0_0 l0_0.length c0_0,.int .i64 a0_1,.slice A0_2 l0_2.length c0_2]) (t := 82) ?hr ?_;(case hd => rfl);(case hg => rfl);(case hr => first | (go_simp;done) | (go_simp;rfl));intro gb101 hg w18 hbox hb;have n0_ := qq.mk (zv (by repeat (first | (with_reducible first | exact HB.out | apply qj | apply qz | apply qk) | exact HB.out)) hb);have n1_ := qq.mk (hbox);have n2_ := qq.mk ((by rw [hg];exact (zw (by repeat (first | (with_reducible first | exact HB.out | apply qj | apply qz | apply qk) | exact HB.out))) : w.heap.size ≤ gb101));have n3_ := qq.mk ((by rw [hg];exact (zw (by repeat (first | (with_reducible first | exact HB.out | apply qj | apply qz | apply qk) | exact HB.out))) : w.heap.size ≤ gb101));clear HB;have HB := n0_;have BK101 := n1_;have GW101 := n2_;have GE101 := n3_;clear n0_ n1_ n2_ n3_;clear hb hbox hg) | ((with_reducible refine gate_dst (N := 3) rfl ?_);refine box_event ?hg (N := 3) ?hd (cs := #[.slice A1_0 l1_0.length c1_0,.int .i64 a1_1,.slice A1_2 l1_2.length c1_2]) (t := 82) ?hr ?_;(case hd => rfl);(case hg => rfl);(case hr => first | (go_simp;done) | (go_simp;rfl));intro gb102 hg w19 hbox hb;have n0_ := qq.mk (vz (g := gb101) (o := .cells #[.slice A0_0 l0_0.length c0_0,.int .i64 a0_1,.slice A0_2 l0_2.length c0_2] 82 (0,0)) (by (with_reducible repeat (first | refine zz ?_ _ | refine zj ?_ | refine zq ?_ _));exact BK101.out) hb);have n1_ := qq.mk (zv (by repeat (first | (with_reducible first | exact HB.out | apply qj | apply qz | apply qk | refine qx ?_ GE101.out) | exact HB.out)) hb);have n2_ := qq.mk (hbox);have n3_ := qq.mk ((by rw [hg];exact (zw (by repeat (first | (with_reducible first | exact HB.out | apply qj | apply qz | apply qk | refine qx ?_ GE101.out) | exact HB.out))) : w.heap.size ≤ gb102));have n4_ := qq.mk ((by rw [hg];exact (zw (by repeat (first | (with_reducible first | exact HB.out | apply qj | apply qz | apply qk | refine qx ?_ GE101.out) | exact HB.out))) : w.heap.size ≤ gb102));have n5_ := qq.mk ((by rw [hg];exact Nat.ne_of_lt (blk_lt (g := gb101) (o := .cells #[.slice A0_0 l0_0.length c0_0,.int .i64 a0_1,.slice A0_2 l0_2.length c0_2] 82 (0,0)) (by (with_reducible repeat (first | refine zz ?_ _ | refine zj ?_ | refine zq ?_ _));exact BK101.out)) : gb101 ≠ gb102));have n6_ := qq.mk ((by rw [hg];exact Nat.ne_of_gt (blk_lt (g := gb101) (o := .cells #[.slice A0_0 l0_0.length c0_0,.int .i64 a0_1,.slice A0_2 l0_2.length c0_2] 82 (0,0)) (by (with_reducible repeat (first | refine zz ?_ _ | refine zj ?_ | refine zq ?_ _));exact BK101.out)) : gb102 ≠ gb101));clear BK101;clear HB;have BK101 := n0_;have HB := n1_;have BK102 := n2_;have GW102 := n3_;have GE102 := n4_;have NB101_102 := n5_;have NB102_101 := n6_;clear n0_ n1_ n2_ n3_ n4_ n5_ n6_;clear hb hbox hg;have hnb20 := NB101_102.out;have hnc20 := NB102_101.out;have hcz21_0 : w19.cell? ⟨gb101,0,none⟩ = some (.slice A0_0 l0_0.length c0_0) := (qw BK101.out 0).trans rfl;have hcz21_1 : w19.cell? ⟨gb101,1,none⟩ = some (.int .i64 a0_1) := (qw BK101.out 1).trans rfl;have hcz21_2 : w19.cell? ⟨gb101,2,none⟩ = some (.slice A0_2 l0_2.length c0_2) := (qw BK101.out 2).trans rfl;have hfz21_0 := qv BK101.out 0;have hfz21_1 := qv BK101.out 1;have hfz21_2 := qv BK101.out 2;have hcz22_0 : w19.cell? ⟨gb102,0,none⟩ = some (.slice A1_0 l1_0.length c1_0) := (qw BK102.out 0).trans rfl;have hcz22_1 : w19.cell? ⟨gb102,1,none⟩ = some (.int .i64 a1_1) := (qw BK102.out 1).trans rfl;have hcz22_2 : w19.cell? ⟨gb102,2,none⟩ = some (.slice A1_2 l1_2.length c1_2) := (qw BK102.out 2).trans rfl;have hfz22_0 := qv BK102.out 0;have hfz22_1 := qv BK102.out 1;have hfz22_2 := qv BK102.out 2) | ((with_reducible refine jv (f := 20) rfl ?_);refine goesL_ (some 9) rfl rfl Try.func20 (by kernel_rfl) rfl #[.slice A0_0 l0_0.length c0_0,.slice A1_0 l1_0.length c1_0] rfl (by (try simp only [List.map_toArray,List.map_cons,List.map_nil]);first | done | rfl | (simp only [List.length_drop,List.length_take];rfl)) ?_;(with_reducible refine (qqq.calls k _ _ l0_0 _ _ l1_0 true _ ?side1 ?side2 ?side3 ?side4 A3.out).mono ?_);(case side1 => repeat (first | exact (Kd.C_below HR0_0.out HB.out) | (with_reducible refine Kd.C_alloc ?_ _) | (with_reducible refine Kd.C_drewN ?_ _) | (with_reducible refine Kd.C_drew ?_)));(case side2 => exact HC0_0.out);(case side3 => repeat (first | exact (Kd.C_below HR1_0.out HB.out) | (with_reducible refine Kd.C_alloc ?_ _) | (with_reducible refine Kd.C_drewN ?_ _) | (with_reducible refine Kd.C_drew ?_)));(case side4 => exact HC1_0.out);rintro e w' ⟨rfl,⟨nd,rfl⟩⟩;refine ⟨_,rfl,?_⟩))
   go_ret
   exact ⟨by first | rfl | (simp [*,jk,jj] <;> rfl),by repeat (first | (with_reducible first | exact HB.out | apply qj | apply qz | apply qk | refine qx ?_ GE101.out | refine qx ?_ GE102.out) | exact HB.out)⟩
 ·replace c4 := Bool.eq_false_iff.mpr c4
  subst c4
  have H1 : (some false) = some r := by rw [if_neg (show ¬ (false = true) by decide)] at H;exact H
  clear H
  have H := H1
  clear H1
  obtain rfl := Option.some.inj H
  go_enter Try.func86,Try.ntmps86
  go_wp2_with (first | ((with_reducible refine gate_dst (N := 2) rfl ?_);refine box_event ?hg (N := 2) ?hd (cs := #[.slice A0_0 l0_0.length c0_0,.int .i64 a0_1,.slice A0_2 l0_2.length c0_2]) (t := 82) ?hr ?_;(case hd => rfl);(case hg => rfl);(case hr => first | (go_simp;done) | (go_simp;rfl));intro gb101 hg w23 hbox hb;have n0_ := qq.mk (zv (by repeat (first | (with_reducible first | exact HB.out | apply qj | apply qz | apply qk) | exact HB.out)) hb);have n1_ := qq.mk (hbox);have n2_ := qq.mk ((by rw [hg];exact (zw (by repeat (first | (with_reducible first | exact HB.out | apply qj | apply qz | apply qk) | exact HB.out))) : w.heap.size ≤ gb101));have n3_ := qq.mk ((by rw [hg];exact (zw (by repeat (first | (with_reducible first | exact HB.out | apply qj | apply qz | apply qk) | exact HB.out))) : w.heap.size ≤ gb101));clear HB;have HB := n0_;have BK101 := n1_;have GW101 := n2_;have GE101 := n3_;clear n0_ n1_ n2_ n3_;clear hb hbox hg) | ((with_reducible refine gate_dst (N := 3) rfl ?_);refine box_event ?hg (N := 3) ?hd (cs := #[.slice A1_0 l1_0.length c1_0,.int .i64 a1_1,.slice A1_2 l1_2.length c1_2]) (t := 82) ?hr ?_;(case hd => rfl);(case hg => rfl);(case hr => first | (go_simp;done) | (go_simp;rfl));intro gb102 hg w24 hbox hb;have n0_ := qq.mk (vz (g := gb101) (o := .cells #[.slice A0_0 l0_0.length c0_0,.int .i64 a0_1,.slice A0_2 l0_2.length c0_2] 82 (0,0)) (by (with_reducible repeat (first | refine zz ?_ _ | refine zj ?_ | refine zq ?_ _));exact BK101.out) hb);have n1_ := qq.mk (zv (by repeat (first | (with_reducible first | exact HB.out | apply qj | apply qz | apply qk | refine qx ?_ GE101.out) | exact HB.out)) hb);have n2_ := qq.mk (hbox);have n3_ := qq.mk ((by rw [hg];exact (zw (by repeat (first | (with_reducible first | exact HB.out | apply qj | apply qz | apply qk | refine qx ?_ GE101.out) | exact HB.out))) : w.heap.size ≤ gb102));have n4_ := qq.mk ((by rw [hg];exact (zw (by repeat (first | (with_reducible first | exact HB.out | apply qj | apply qz | apply qk | refine qx ?_ GE101.out) | exact HB.out))) : w.heap.size ≤ gb102));have n5_ := qq.mk ((by rw [hg];exact Nat.ne_of_lt (blk_lt (g := gb101) (o := .cells #[.slice A0_0 l0_0.length c0_0,.int .i64 a0_1,.slice A0_2 l0_2.length c0_2] 82 (0,0)) (by (with_reducible repeat (first | refine zz ?_ _ | refine zj ?_ | refine zq ?_ _));exact BK101.out)) : gb101 ≠ gb102));have n6_ := qq.mk ((by rw [hg];exact Nat.ne_of_gt (blk_lt (g := gb101) (o := .cells #[.slice A0_0 l0_0.length c0_0,.int .i64 a0_1,.slice A0_2 l0_2.length c0_2] 82 (0,0)) (by (with_reducible repeat (first | refine zz ?_ _ | refine zj ?_ | refine zq ?_ _));exact BK101.out)) : gb102 ≠ gb101));clear BK101;clear HB;have BK101 := n0_;have HB := n1_;have BK102 := n2_;have GW102 := n3_;have GE102 := n4_;have NB101_102 := n5_;have NB102_101 := n6_;clear n0_ n1_ n2_ n3_ n4_ n5_ n6_;clear hb hbox hg;have hnb25 := NB101_102.out;have hnc25 := NB102_101.out;have hcz26_0 : w24.cell? ⟨gb101,0,none⟩ = some (.slice A0_0 l0_0.length c0_0) := (qw BK101.out 0).trans rfl;have hcz26_1 : w24.cell? ⟨gb101,1,none⟩ = some (.int .i64 a0_1) := (qw BK101.out 1).trans rfl;have hcz26_2 : w24.cell? ⟨gb101,2,none⟩ = some (.slice A0_2 l0_2.length c0_2) := (qw BK101.out 2).trans rfl;have hfz26_0 := qv BK101.out 0;have hfz26_1 := qv BK101.out 1;have hfz26_2 := qv BK101.out 2;have hcz27_0 : w24.cell? ⟨gb102,0,none⟩ = some (.slice A1_0 l1_0.length c1_0) := (qw BK102.out 0).trans rfl;have hcz27_1 : w24.cell? ⟨gb102,1,none⟩ = some (.int .i64 a1_1) := (qw BK102.out 1).trans rfl;have hcz27_2 : w24.cell? ⟨gb102,2,none⟩ = some (.slice A1_2 l1_2.length c1_2) := (qw BK102.out 2).trans rfl;have hfz27_0 := qv BK102.out 0;have hfz27_1 := qv BK102.out 1;have hfz27_2 := qv BK102.out 2) | ((with_reducible refine jv (f := 20) rfl ?_);refine goesL_ (some 9) rfl rfl Try.func20 (by kernel_rfl) rfl #[.slice A0_0 l0_0.length c0_0,.slice A1_0 l1_0.length c1_0] rfl (by (try simp only [List.map_toArray,List.map_cons,List.map_nil]);first | done | rfl | (simp only [List.length_drop,List.length_take];rfl)) ?_;(with_reducible refine (qqq.calls k _ _ l0_0 _ _ l1_0 false _ ?side1 ?side2 ?side3 ?side4 A3.out).mono ?_);(case side1 => repeat (first | exact (Kd.C_below HR0_0.out HB.out) | (with_reducible refine Kd.C_alloc ?_ _) | (with_reducible refine Kd.C_drewN ?_ _) | (with_reducible refine Kd.C_drew ?_)));(case side2 => exact HC0_0.out);(case side3 => repeat (first | exact (Kd.C_below HR1_0.out HB.out) | (with_reducible refine Kd.C_alloc ?_ _) | (with_reducible refine Kd.C_drewN ?_ _) | (with_reducible refine Kd.C_drew ?_)));(case side4 => exact HC1_0.out);rintro e w' ⟨rfl,⟨nd,rfl⟩⟩;refine ⟨_,rfl,?_⟩))
  go_ret
  exact ⟨by first | rfl | (simp [*,jk,jj] <;> rfl),by repeat (first | (with_reducible first | exact HB.out | apply qj | apply qz | apply qk | refine qx ?_ GE101.out | refine qx ?_ GE102.out) | exact HB.out)⟩
def qjz.l0 : Nat → List (S102) → Int → Int → Option (Int)
 | 0,_,_,_ => none
 | k + 1,x0,x1,x5 => if x5 < (x0.length : Int) then (if 0 ≤ x5 then ((qjq.f ((vw x0 x5).f0) ((vw x0 x5).f1) ((vw x0 x5).f2) x1).bind fun t102 => (if t102 < 0 then (some (-1)) else (qjz.l0 k x0 t102 (wrap64 (x5 + 1))))) else (none)) else (some x1)
def qjz.f (k : Nat) (l0 : List (S102)) (a1 : Int) : Option (Int) := if (wrap64 (a1 - (l0.length : Int))) < 0 then (some (-1)) else (qjz.l0 k l0 (wrap64 (a1 - (l0.length : Int))) 0)
set_option maxHeartbeats 8000000 in
set_option maxRecDepth 100000 in
theorem qjz.calls (k : Nat) (A0 : Option Addr) (c0 : Nat) (l0 : List (S102)) (a1 : Int) (r : Int) (w : World) (hr0 : Kd.C k102 w A0 l0.length l0) (hc0 : l0.length ≤ c0) (h : qjz.f k l0 a1 = some r) :
  Calls Try.prog 22 #[.slice A0 l0.length c0,.int .i64 a1] w fun e w' => e = .returned (.int .i64 r) ∧ Below w.heap.size w w' := by
 have hu102 := Try.underlying102
 have HR0 := qq.mk hr0
 have HC0 := qq.mk hc0
 clear hr0 hc0
 have HB := qq.mk (Below.refl w.heap.size w)
 have H : (if (wrap64 (a1 - (l0.length : Int))) < 0 then (some (-1)) else (qjz.l0 k l0 (wrap64 (a1 - (l0.length : Int))) 0)) = some r := h
 clear h
 by_cases c3 : (wrap64 (a1 - (l0.length : Int))) < 0
 ·rw [if_pos c3] at H
  have c3b0 : decide ((wrap64 (a1 - (l0.length : Int))) < 0) = true := decide_eq_true c3
  clear c3
  obtain rfl := Option.some.inj H
  go_enter Try.func22,Try.ntmps22
  go_wp2
  go_ret
  exact ⟨by first | rfl | (simp [*,jk,jj] <;> rfl),by repeat (first | (with_reducible first | exact HB.out | apply qj | apply qz | apply qk) | exact HB.out)⟩
 ·rw [if_neg c3] at H
  have c3b0 : decide ((wrap64 (a1 - (l0.length : Int))) < 0) = false := decide_eq_false c3
  clear c3
  have H' := qq.mk H
  clear H
  go_enter Try.func22,Try.ntmps22
  go_wp2
  go_loopg [1,5] k (fun kq v1 v5 w' => ∃ (x1_1 : Int) (x5_1 : Int),v1 = .int .i64 x1_1 ∧ v5 = .int .i64 x5_1 ∧ qq (qjz.l0 kq l0 x1_1 x5_1 = some r) ∧ qq (kq ≤ k) ∧ qq (Below w.heap.size w w'))
  case atStart => exact ⟨(wrap64 (a1 - (l0.length : Int))),(0),(by first | rfl | (simp;done) | (simp [*];done)),(by first | rfl | (simp;done) | (simp [*];done)),H',⟨Nat.le_refl _⟩,⟨by repeat (first | (with_reducible first | exact HB.out | apply qj | apply qz | apply qk) | exact HB.out)⟩⟩
  case round =>
   clear H'
   try clear c2
   try clear p2
   try clear c3
   try clear c3b0
   obtain ⟨x1_1,x5_1,rfl,rfl,HA,HK1,HB⟩ := hrel
   cases gk with
   | zero => exact absurd HA.out (by simp [qjz.l0])
   | succ k1 =>
    have H := HA.out
    clear HA
    simp only [qjz.l0] at H
    by_cases c4 : x5_1 < (l0.length : Int)
    ·rw [if_pos c4] at H
     have c4b0 : decide (x5_1 < (l0.length : Int)) = true := decide_eq_true c4
     clear c4
     by_cases c5 : 0 ≤ x5_1
     ·rw [if_pos c5] at H
      have c5b0 : decide (0 ≤ x5_1) = true := decide_eq_true c5
      clear c5
      replace H := Option.bind_eq_some_iff.mp H
      obtain ⟨t102,A60,H⟩ := H
      replace H : (if t102 < 0 then (some (-1)) else (qjz.l0 k1 l0 t102 (wrap64 (x5_1 + 1)))) = some r := H
      have A6 := qq.mk A60
      clear A60
      by_cases c7 : t102 < 0
      ·rw [if_pos c7] at H
       have c7b0 : decide (t102 < 0) = true := decide_eq_true c7
       clear c7
       obtain rfl := Option.some.inj H
       have p101 : 0 ≤ (x5_1 : Int) := of_decide_eq_true (by assumption)
       have q101 : x5_1 < (l0.length : Int) := of_decide_eq_true (by assumption)
       obtain ⟨ad101,A101_0,c101_0,A101_2,c101_2,e101,hx101_0,hx101_1,hx101_2,hl101_0,hi101_0,hl101_2,hi101_2⟩ := at_T102 HR0.out x5_1 p101 q101
       cases e101
       replace hx101_0 := (HB.out.cell (World.block_lt_of_cell? w _ hx101_0)).trans hx101_0
       replace hx101_1 := (HB.out.cell (World.block_lt_of_cell? w _ hx101_1)).trans hx101_1
       replace hx101_2 := (HB.out.cell (World.block_lt_of_cell? w _ hx101_2)).trans hx101_2
       have HR101_0 := qq.mk hi101_0
       have HC101_0 := qq.mk hl101_0
       clear hi101_0 hl101_0
       have HR101_2 := qq.mk hi101_2
       have HC101_2 := qq.mk hl101_2
       clear hi101_2 hl101_2
       replace p101 := eq_true p101
       replace q101 := eq_true q101
       go_wp2_with (first | ((with_reducible refine jv (f := 70) rfl ?_);refine goesL_ (some 23) rfl rfl Try.func70 (by kernel_rfl) rfl #[.agg #[.slice A101_0 ((vw l0 x5_1).f0).length c101_0,.int .i64 ((vw l0 x5_1).f1),.slice A101_2 ((vw l0 x5_1).f2).length c101_2],.int .i64 x1_1] rfl (by (try simp only [List.map_toArray,List.map_cons,List.map_nil]);first | done | rfl | (simp only [List.length_drop,List.length_take];rfl)) ?_;(with_reducible refine (qjq.calls _ _ ((vw l0 x5_1).f0) ((vw l0 x5_1).f1) _ _ ((vw l0 x5_1).f2) x1_1 t102 _ ?side1 ?side2 ?side3 ?side4 A6.out).mono ?_);(case side1 => repeat (first | exact (Kd.C_below HR101_0.out HB.out) | (with_reducible refine Kd.C_alloc ?_ _) | (with_reducible refine Kd.C_drewN ?_ _) | (with_reducible refine Kd.C_drew ?_)));(case side2 => exact HC101_0.out);(case side3 => repeat (first | exact (Kd.C_below HR101_2.out HB.out) | (with_reducible refine Kd.C_alloc ?_ _) | (with_reducible refine Kd.C_drewN ?_ _) | (with_reducible refine Kd.C_drew ?_)));(case side4 => exact HC101_2.out);rintro e w8 ⟨rfl,hb⟩;refine ⟨_,rfl,?_⟩;have n0_ := qq.mk (zv (by repeat (first | (with_reducible first | exact HB.out | apply qj | apply qz | apply qk) | exact HB.out)) hb);clear HB;have HB := n0_;clear n0_;(try clear hb);(try clear hb2);(try clear hk);(try clear hi)))
       go_ret
       exact ⟨by first | rfl | (simp [*,jk,jj] <;> rfl),by repeat (first | (with_reducible first | exact HB.out | apply qj | apply qz | apply qk) | exact HB.out)⟩
      ·rw [if_neg c7] at H
       have c7b0 : decide (t102 < 0) = false := decide_eq_false c7
       clear c7
       have H' := qq.mk H
       clear H
       have p101 : 0 ≤ (x5_1 : Int) := of_decide_eq_true (by assumption)
       have q101 : x5_1 < (l0.length : Int) := of_decide_eq_true (by assumption)
       obtain ⟨ad101,A101_0,c101_0,A101_2,c101_2,e101,hx101_0,hx101_1,hx101_2,hl101_0,hi101_0,hl101_2,hi101_2⟩ := at_T102 HR0.out x5_1 p101 q101
       cases e101
       replace hx101_0 := (HB.out.cell (World.block_lt_of_cell? w _ hx101_0)).trans hx101_0
       replace hx101_1 := (HB.out.cell (World.block_lt_of_cell? w _ hx101_1)).trans hx101_1
       replace hx101_2 := (HB.out.cell (World.block_lt_of_cell? w _ hx101_2)).trans hx101_2
       have HR101_0 := qq.mk hi101_0
       have HC101_0 := qq.mk hl101_0
       clear hi101_0 hl101_0
       have HR101_2 := qq.mk hi101_2
       have HC101_2 := qq.mk hl101_2
       clear hi101_2 hl101_2
       replace p101 := eq_true p101
       replace q101 := eq_true q101
       go_wp2_with (first | ((with_reducible refine jv (f := 70) rfl ?_);refine goesL_ (some 23) rfl rfl Try.func70 (by kernel_rfl) rfl #[.agg #[.slice A101_0 ((vw l0 x5_1).f0).length c101_0,.int .i64 ((vw l0 x5_1).f1),.slice A101_2 ((vw l0 x5_1).f2).length c101_2],.int .i64 x1_1] rfl (by (try simp only [List.map_toArray,List.map_cons,List.map_nil]);first | done | rfl | (simp only [List.length_drop,List.length_take];rfl)) ?_;(with_reducible refine (qjq.calls _ _ ((vw l0 x5_1).f0) ((vw l0 x5_1).f1) _ _ ((vw l0 x5_1).f2) x1_1 t102 _ ?side1 ?side2 ?side3 ?side4 A6.out).mono ?_);(case side1 => repeat (first | exact (Kd.C_below HR101_0.out HB.out) | (with_reducible refine Kd.C_alloc ?_ _) | (with_reducible refine Kd.C_drewN ?_ _) | (with_reducible refine Kd.C_drew ?_)));(case side2 => exact HC101_0.out);(case side3 => repeat (first | exact (Kd.C_below HR101_2.out HB.out) | (with_reducible refine Kd.C_alloc ?_ _) | (with_reducible refine Kd.C_drewN ?_ _) | (with_reducible refine Kd.C_drew ?_)));(case side4 => exact HC101_2.out);rintro e w9 ⟨rfl,hb⟩;refine ⟨_,rfl,?_⟩;have n0_ := qq.mk (zv (by repeat (first | (with_reducible first | exact HB.out | apply qj | apply qz | apply qk) | exact HB.out)) hb);clear HB;have HB := n0_;clear n0_;(try clear hb);(try clear hb2);(try clear hk);(try clear hi)))
       go_roundg k1
       case measure => have := HK1.out;omega
       case rel => exact ⟨(t102),(wrap64 (x5_1 + 1)),(by first | rfl | (simp;done) | (simp [*];done)),(by first | rfl | (simp;done) | (simp [*];done)),H',⟨by have := HK1.out;omega⟩,⟨by repeat (first | (with_reducible first | exact HB.out | apply qj | apply qz | apply qk) | exact HB.out)⟩⟩
     ·rw [if_neg c5] at H
      exact absurd H (by simp)
    ·rw [if_neg c4] at H
     have c4b0 : decide (x5_1 < (l0.length : Int)) = false := decide_eq_false c4
     clear c4
     obtain rfl := Option.some.inj H
     go_wp2
     go_ret
     exact ⟨by first | rfl | (simp [*,jk,jj] <;> rfl),by repeat (first | (with_reducible first | exact HB.out | apply qj | apply qz | apply qk) | exact HB.out)⟩
def qjx.l0 : Nat → List (S102) → List (S82) → Int → Option ((List (S82)))
 | 0,_,_,_ => none
 | k + 1,x0,x3,x4 => if x4 < (x0.length : Int) then (if 0 ≤ x4 then ((qjw.f k ((vw x0 x4).f0) ((vw x0 x4).f1) ((vw x0 x4).f2)).bind fun bt105 => (if x4 < (x3.length : Int) then (qjx.l0 k x0 (x3.set (x4 : Int).toNat (⟨bt105.1,bt105.2.1,bt105.2.2⟩ : S82)) (wrap64 (x4 + 1))) else (none))) else (none)) else (some x3)
def qjx.f (k : Nat) (l0 : List (S102)) : Option ((List (S82))) := if 0 ≤ (l0.length : Int) then (if ((l0.length : Int) : Int).toNat ≤ 5026338869833 then (qjx.l0 k l0 (List.replicate ((l0.length : Int) : Int).toNat z82) 0) else (none)) else (none)
set_option maxHeartbeats 8000000 in
set_option maxRecDepth 100000 in
theorem qjx.calls (k : Nat) (A0 : Option Addr) (c0 : Nat) (l0 : List (S102)) (r : List (S82)) (w : World) (hr0 : Kd.C k102 w A0 l0.length l0) (hc0 : l0.length ≤ c0) (h : qjx.f k l0 = some r) :
  Calls Try.prog 25 #[.slice A0 l0.length c0] w fun e w' => ∃ v0_ : Value,e = .returned (v0_) ∧ Kd.S k82 82 w' w.heap.size (fun _ => True) v0_ r ∧ Below w.heap.size w w' := by
 have hu102 := Try.underlying102
 have hu82 := Try.underlying82
 have HR0 := qq.mk hr0
 have HC0 := qq.mk hc0
 clear hr0 hc0
 have HB := qq.mk (Below.refl w.heap.size w)
 have H : (if 0 ≤ (l0.length : Int) then (if ((l0.length : Int) : Int).toNat ≤ 5026338869833 then (qjx.l0 k l0 (List.replicate ((l0.length : Int) : Int).toNat z82) 0) else (none)) else (none)) = some r := h
 clear h
 by_cases c2 : 0 ≤ (l0.length : Int)
 ·rw [if_pos c2] at H
  have c2b0 := eq_true c2
  have c2b1 : decide (0 ≤ (l0.length : Int)) = true := decide_eq_true c2
  clear c2
  by_cases c3 : ((l0.length : Int) : Int).toNat ≤ 5026338869833
  ·rw [if_pos c3] at H
   have c3b0 := eq_true c3
   have c3b1 : decide (((l0.length : Int) : Int).toNat ≤ 5026338869833) = true := decide_eq_true c3
   clear c3
   obtain ⟨y101,hy101⟩ : ∃ y_ : List (S82),y_ = (List.replicate ((l0.length : Int) : Int).toNat z82) := ⟨_,rfl⟩
   replace H : (qjx.l0 k l0 y101 0) = some r := by first | (rw [hy101];with_reducible exact H) | (have H2_ := (Option.bind_some _ _).symm.trans H;rw [hy101];with_reducible exact H2_) | (have H2_ := (Option.bind_some _ _).symm.trans H;with_reducible exact H2_) | with_reducible exact H | (rw [hy101];exact H) | exact H
   have Ny101 := qq.mk hy101
   clear hy101
   have H' := qq.mk H
   clear H
   go_enter Try.func25,Try.ntmps25
   go_wp2_with (first | ((with_reducible refine gate_dst (N := 7) rfl ?_);refine Kd.S_make k82 _ 82 rfl (N := 7) rfl 55 _ _ rfl (l0.length : Int) rfl rfl Try.underlying55 (.agg #[(.slice none 0 0),(.int .i64 0),(.slice none 0 0)]) 56 info82 rfl (by decide) (by omega) z82 (ok := fun _ => True) (okp := fun _ => True) (k82_mkM _ _ _ z82 (Kd.R_nil _ _ _ _ _) (Kd.R_nil _ _ _ _ _)) (fun _ hk => hk) trivial (of_decide_eq_true (by assumption)) (Nat.le_trans (Nat.mul_le_mul_right _ (of_decide_eq_true (by assumption) : (l0.length : Int).toNat ≤ 5026338869833)) (by omega)) (Below.refl _ _) (Nat.le_refl _) ?_;intro v102 w4 ho5 hb hg_ hnew_;clear hg_ hnew_;(first | rw [← Ny101.out] at ho5 | (simp only [Int.reduceToNat] at ho5;rw [← Ny101.out] at ho5));have n0_ := qq.mk (Kd.S_lower ho5 (zw (by repeat (first | (with_reducible first | exact HB.out | apply qj | apply qz | apply qk) | exact HB.out))));have n1_ := qq.mk (zv (by repeat (first | (with_reducible first | exact HB.out | apply qj | apply qz | apply qk) | exact HB.out)) hb);clear HB;have HO103 := n0_;have HB := n1_;clear n0_ n1_;clear hb ho5))
   go_loopg [4] k (fun kq v4 w' => ∃ (x3_1 : List (S82)) (x4_1 : Int),v4 = .int .i64 x4_1 ∧ qq (qjx.l0 kq l0 x3_1 x4_1 = some r) ∧ qq (kq ≤ k) ∧ qq (Kd.S k82 82 w' w.heap.size (fun _ => True) v102 x3_1) ∧ qq (Below w.heap.size w w'))
   case atStart => exact ⟨(y101),(0),(by first | rfl | (simp;done) | (simp [*];done)),H',⟨Nat.le_refl _⟩,⟨by (with_reducible repeat (first | apply Kd.kk | apply Kd.kj | apply Kd.kv));exact HO103.out⟩,⟨by repeat (first | (with_reducible first | exact HB.out | apply qj | apply qz | apply qk) | exact HB.out)⟩⟩
   case round =>
    clear H'
    try clear c2
    try clear c2b0
    try clear c2b1
    try clear p2
    try clear c3
    try clear c3b0
    try clear c3b1
    obtain ⟨x3_1,x4_1,rfl,HA,HK1,HO_3,HB⟩ := hrel
    cases gk with
    | zero => exact absurd HA.out (by simp [qjx.l0])
    | succ k1 =>
     have H := HA.out
     clear HA
     simp only [qjx.l0] at H
     by_cases c6 : x4_1 < (l0.length : Int)
     ·rw [if_pos c6] at H
      have c6b0 : decide (x4_1 < (l0.length : Int)) = true := decide_eq_true c6
      clear c6
      by_cases c7 : 0 ≤ x4_1
      ·rw [if_pos c7] at H
       have c7b0 : decide (0 ≤ x4_1) = true := decide_eq_true c7
       clear c7
       replace H := Option.bind_eq_some_iff.mp H
       obtain ⟨⟨t105,t108,t109⟩,A80,H⟩ := H
       replace H : (if x4_1 < (x3_1.length : Int) then (qjx.l0 k1 l0 (x3_1.set (x4_1 : Int).toNat (⟨t105,t108,t109⟩ : S82)) (wrap64 (x4_1 + 1))) else (none)) = some r := H
       have A8 := qq.mk A80
       clear A80
       by_cases c9 : x4_1 < (x3_1.length : Int)
       ·rw [if_pos c9] at H
        have c9b0 : decide (x4_1 < (x3_1.length : Int)) = true := decide_eq_true c9
        clear c9
        obtain ⟨y112,hy112⟩ : ∃ y_ : List (S82),y_ = (x3_1.set (x4_1 : Int).toNat (⟨t105,t108,t109⟩ : S82)) := ⟨_,rfl⟩
        replace H : (qjx.l0 k1 l0 y112 (wrap64 (x4_1 + 1))) = some r := by first | (rw [hy112];with_reducible exact H) | (have H2_ := (Option.bind_some _ _).symm.trans H;rw [hy112];with_reducible exact H2_) | (have H2_ := (Option.bind_some _ _).symm.trans H;with_reducible exact H2_) | with_reducible exact H | (rw [hy112];exact H) | exact H
        have Ny112 := qq.mk hy112
        clear hy112
        have H' := qq.mk H
        clear H
        have p104 : 0 ≤ (x4_1 : Int) := of_decide_eq_true (by assumption)
        have q104 : x4_1 < (l0.length : Int) := of_decide_eq_true (by assumption)
        obtain ⟨ad104,A104_0,c104_0,A104_2,c104_2,e104,hx104_0,hx104_1,hx104_2,hl104_0,hi104_0,hl104_2,hi104_2⟩ := at_T102 HR0.out x4_1 p104 q104
        cases e104
        replace hx104_0 := (HB.out.cell (World.block_lt_of_cell? w _ hx104_0)).trans hx104_0
        replace hx104_1 := (HB.out.cell (World.block_lt_of_cell? w _ hx104_1)).trans hx104_1
        replace hx104_2 := (HB.out.cell (World.block_lt_of_cell? w _ hx104_2)).trans hx104_2
        have HR104_0 := qq.mk hi104_0
        have HC104_0 := qq.mk hl104_0
        clear hi104_0 hl104_0
        have HR104_2 := qq.mk hi104_2
        have HC104_2 := qq.mk hl104_2
        clear hi104_2 hl104_2
        replace p104 := eq_true p104
        replace q104 := eq_true q104
        go_wp2_with (first | ((with_reducible refine jv (f := 77) rfl ?_);refine goesL_ (some 20) rfl rfl Try.func77 (by kernel_rfl) rfl #[.agg #[.slice A104_0 ((vw l0 x4_1).f0).length c104_0,.int .i64 ((vw l0 x4_1).f1),.slice A104_2 ((vw l0 x4_1).f2).length c104_2]] rfl (by (try simp only [List.map_toArray,List.map_cons,List.map_nil]);first | done | rfl | (simp only [List.length_drop,List.length_take];rfl)) ?_;(with_reducible refine (qjw.calls k1 _ _ ((vw l0 x4_1).f0) ((vw l0 x4_1).f1) _ _ ((vw l0 x4_1).f2) t105 t108 t109 _ ?side1 ?side2 ?side3 ?side4 A8.out).mono ?_);(case side1 => repeat (first | exact (Kd.C_below HR104_0.out HB.out) | (with_reducible refine Kd.C_alloc ?_ _) | (with_reducible refine Kd.C_drewN ?_ _) | (with_reducible refine Kd.C_drew ?_)));(case side2 => exact HC104_0.out);(case side3 => repeat (first | exact (Kd.C_below HR104_2.out HB.out) | (with_reducible refine Kd.C_alloc ?_ _) | (with_reducible refine Kd.C_drewN ?_ _) | (with_reducible refine Kd.C_drew ?_)));(case side4 => exact HC104_2.out);rintro e w11 ⟨v106,v110,rfl,ho0,ho1,hb⟩;refine ⟨_,rfl,?_⟩;have n0_ := qq.mk (Kd.S_mono (Kd.S_told (Kd.S_told (Kd.S_old (by (with_reducible repeat (first | apply Kd.kk | apply Kd.kj | apply Kd.kv));exact HO_3.out) hb) (Kd.R_base ho0)) (Kd.R_base ho1)) (fun _ h_ => h_.1));have n1_ := qq.mk (Kd.R_lower ho0 (zw (by repeat (first | (with_reducible first | exact HB.out | apply qj | apply qz | apply qk) | exact HB.out))));have n2_ := qq.mk (Kd.R_lower ho1 (zw (by repeat (first | (with_reducible first | exact HB.out | apply qj | apply qz | apply qk) | exact HB.out))));have n3_ := qq.mk (zv (by repeat (first | (with_reducible first | exact HB.out | apply qj | apply qz | apply qk) | exact HB.out)) hb);clear HO_3;clear HB;have HO_3 := n0_;have HO107 := n1_;have HO111 := n2_;have HB := n3_;clear n0_ n1_ n2_ n3_;(try clear hb);(try clear hb2);(try clear hk);(try clear hi);(try clear ho0);(try clear ho1);have p10 : 0 ≤ (x4_1 : Int) := of_decide_eq_true (by assumption);have q10 : (x4_1 : Int) < ((x3_1.length : Int) : Int) := of_decide_eq_true (by assumption);obtain ⟨go10,co10,eo10,gb10,gl10,cl10,HG10⟩ := Kd.S_form HO_3.out (by omega);(first | cases eo10 | (injection eo10 with ea_ en_ ec_;(first | subst ea_ | (injection ea_ with ea_;subst ea_));subst ec_;clear en_));have GB10 := qq.mk gb10;have GG10 := qq.mk HG10;clear gb10 gl10 HG10;obtain ⟨_,ce10,hcl10,hM10,hcc10,hfr10,_,_⟩ := Kd.S_elem HO_3.out z82 (x4_1 : Int) p10 q10;obtain ⟨ve10_0,ve10_2,rfl,ge10_0,ge10_2⟩ := k82_openM hM10;have hx10_0 : w11.cell? ⟨go10,(x4_1 : Int).toNat * 3,none⟩ = some (ve10_0) := hcc10 0 _ rfl;have hx10_1 : w11.cell? ⟨go10,(x4_1 : Int).toNat * 3 + 1,none⟩ = some (.int .i64 ((vx x3_1 x4_1).f1)) := hcc10 1 _ rfl;have hx10_2 : w11.cell? ⟨go10,(x4_1 : Int).toNat * 3 + 2,none⟩ = some (ve10_2) := hcc10 2 _ rfl;have hf10_0 : w11.frozen? ⟨go10,(x4_1 : Int).toNat * 3,none⟩ = false := hfr10 0;have hf10_1 : w11.frozen? ⟨go10,(x4_1 : Int).toNat * 3 + 1,none⟩ = false := hfr10 1;have hf10_2 : w11.frozen? ⟨go10,(x4_1 : Int).toNat * 3 + 2,none⟩ = false := hfr10 2;clear hcl10 hcc10 hfr10;(try clear hM10);replace p10 := eq_true p10;replace q10 := eq_true q10;have n_ := qq.mk (Kd.S_mono (ok' := (fun k_ => some k_ ≠ (v106 : Value).ownBlock ∧ some k_ ≠ (v110 : Value).ownBlock)) HO_3.out (fun k_ hk => ⟨hk.1.2,hk.2⟩));clear HO_3;have HO_3 := n_;clear n_;have HX12 := qq.mk (show Kd.S k82 82 w11 w.heap.size (fun k_ => ((fun _ => True)) k_ ∧ ¬ ((fun k_ => some k_ = (v106 : Value).ownBlock ∨ some k_ = (v110 : Value).ownBlock)) k_) (.slice (some ⟨go10,0,none⟩) x3_1.length co10) x3_1 from (by (with_reducible repeat (first | apply Kd.kk | apply Kd.kj | apply Kd.kv));exact Kd.S_mono HO_3.out (fun k_ hk => ⟨trivial,fun e_ => e_.elim (fun h_ => hk.1 h_) (fun h_ => hk.2 h_)⟩)));obtain ⟨oki12,ce12,hcl12,hM12,hcc12,hfr12,hoki12,hH12⟩ := Kd.S_elem HX12.out z82 (x4_1 : Int) (of_decide_eq_true (by assumption)) (by have h_ : (x4_1 : Int) < ((x3_1.length : Int) : Int) := of_decide_eq_true (by assumption);first | exact h_ | (have e_ := (Kd.S_reads' HO_3.out).1;omega) | simpa using h_);obtain ⟨ve12_0,ve12_2,rfl,ge12_0,ge12_2⟩ := k82_openM hM12;have HP12 := Kd.S_seg hH12 (of_decide_eq_true (by assumption)) (by have h_ : (x4_1 : Int) < ((x3_1.length : Int) : Int) := of_decide_eq_true (by assumption);first | exact h_ | (have e_ := (Kd.S_reads' HO_3.out).1;omega) | simpa using h_) (seg := [v106,.int .i64 t108,v110]) (j := 0) (show 3 ≤ 3 from by decide) (x' := (⟨t105,t108,t109⟩ : S82)) (k82_mkM _ _ _ (⟨t105,t108,t109⟩ : S82) (Kd.R_mono (Kd.R_tight rfl (Kd.R_mono (ok' := fun k_ => ((fun _ => True)) k_ ∧ k_ ≠ go10) (Kd.R_apart' (HO107.out) (Kd.S_typed HO_3.out) (by decide)) (fun k_ hk => ⟨trivial,fun e_ => (hk.2) (by rw [e_];rfl)⟩))) (fun _ h_ => Or.inr (Or.inl h_))) (Kd.R_mono (Kd.R_tight rfl (Kd.R_mono (ok' := fun k_ => ((fun _ => True)) k_ ∧ k_ ≠ go10) (Kd.R_apart' (HO111.out) (Kd.S_typed HO_3.out) (by decide)) (fun k_ hk => ⟨trivial,fun e_ => (hk.2) (by rw [e_];rfl)⟩))) (fun _ h_ => Or.inr (Or.inr (h_))))) (fun _ hk => hk) (fun k_ hk_ => hk_.elim (fun h_ => ((Kd.R_mono (ok' := fun k_ => ((fun _ => True)) k_ ∧ k_ ≠ go10) (Kd.R_apart' (HO107.out) (Kd.S_typed HO_3.out) (by decide)) (fun k_ hk => ⟨trivial,fun e_ => (hk.2) (by rw [e_];rfl)⟩))).1 k_ h_.symm) (fun h_ => ((Kd.R_mono (ok' := fun k_ => ((fun _ => True)) k_ ∧ k_ ≠ go10) (Kd.R_apart' (HO111.out) (Kd.S_typed HO_3.out) (by decide)) (fun k_ hk => ⟨trivial,fun e_ => (hk.2) (by rw [e_];rfl)⟩))).1 k_ h_.symm));have hx12_0 := hcc12 0 _ rfl;(try simp only [show (k82).sz = 3 from rfl,Nat.mul_one,Nat.add_zero] at hx12_0);have hf12_0 := hfr12 0;(try simp only [show (k82).sz = 3 from rfl,Nat.mul_one,Nat.add_zero] at hf12_0);have hx12_1 := hcc12 1 _ rfl;(try simp only [show (k82).sz = 3 from rfl,Nat.mul_one,Nat.add_zero] at hx12_1);have hf12_1 := hfr12 1;(try simp only [show (k82).sz = 3 from rfl,Nat.mul_one,Nat.add_zero] at hf12_1);have hx12_2 := hcc12 2 _ rfl;(try simp only [show (k82).sz = 3 from rfl,Nat.mul_one,Nat.add_zero] at hx12_2);have hf12_2 := hfr12 2;(try simp only [show (k82).sz = 3 from rfl,Nat.mul_one,Nat.add_zero] at hf12_2);clear hcl12 hcc12 hfr12 hoki12 hH12;(try clear hM12)) | ((with_reducible refine jw (t := 82) (p := 21) rfl ?_);refine jx (t := 82) (p := 21) (v := ?vo_w13) (w1 := (((w11.setCell ⟨go10,(x4_1 : Int).toNat * 3,none⟩ (v106)).setCell ⟨go10,(x4_1 : Int).toNat * 3 + 1,none⟩ (.int .i64 t108)).setCell ⟨go10,(x4_1 : Int).toNat * 3 + 2,none⟩ (v110))) ?hg ?ho ?hn ?hr ?_;(case ho => rfl);(case hg => rfl);(case hn => rfl);(case hr => first | (go_simp;done) | (go_simp;rfl) | (obtain ⟨A0_,c0_,e0_⟩ := Kd.R_slice HO107.out;obtain ⟨A1_,c1_,e1_⟩ := Kd.R_slice HO111.out;subst e0_;subst e1_;first | (go_simp;done) | (go_simp;rfl)));intro w13 hw;have hg : w11.grownBy w13 (some go10) := (by rw [hw];exact HP12.2);have hp_ : Kd.S k82 82 w13 w.heap.size (fun _ => True) (.slice (some ⟨go10,0,none⟩) x3_1.length co10) y112 := (by rw [hw,Ny112.out];exact HP12.1);clear HP12;have n0_ := qq.mk (hp_);have n1_ := qq.mk ((by rw [hw];exact qx (qx (qx (HB.out) GB10.out) GB10.out) GB10.out : Below w.heap.size w w13));clear HO_3;clear HB;clear HO107;clear HO111;have HO_3 := n0_;have HB := n1_;clear n0_ n1_;clear hg hw hp_))
        go_roundg k1
        case measure => have := HK1.out;omega
        case rel => exact ⟨(y112),(wrap64 (x4_1 + 1)),(by first | rfl | (simp;done) | (simp [*];done)),H',⟨by have := HK1.out;omega⟩,⟨by (with_reducible repeat (first | apply Kd.kk | apply Kd.kj | apply Kd.kv));exact HO_3.out⟩,⟨by repeat (first | (with_reducible first | exact HB.out | apply qj | apply qz | apply qk) | exact HB.out)⟩⟩
       ·rw [if_neg c9] at H
        exact absurd H (by simp)
      ·rw [if_neg c7] at H
       exact absurd H (by simp)
     ·rw [if_neg c6] at H
      have c6b0 : decide (x4_1 < (l0.length : Int)) = false := decide_eq_false c6
      clear c6
      obtain rfl := Option.some.inj H
      go_wp2
      go_ret
      exact ⟨_,by first | rfl | (simp [*,jk,jj] <;> rfl),by (with_reducible repeat (first | apply Kd.kk | apply Kd.kj | apply Kd.kv));exact HO_3.out,by repeat (first | (with_reducible first | exact HB.out | apply qj | apply qz | apply qk) | exact HB.out)⟩
  ·rw [if_neg c3] at H
   exact absurd H (by simp)
 ·rw [if_neg c2] at H
  exact absurd H (by simp)
def qqv.l0 : Nat → List (S82) → List (S82) → Int → Option (Bool)
 | 0,_,_,_ => none
 | k + 1,x0,x1,x5 => if x5 < (x0.length : Int) then (if 0 ≤ x5 then (if x5 < (x1.length : Int) then ((qqk.f k ((vx x0 x5).f0) ((vx x0 x5).f1) ((vx x0 x5).f2) ((vx x1 x5).f0) ((vx x1 x5).f1) ((vx x1 x5).f2)).bind fun t103 => (if t103 = true then (qqv.l0 k x0 x1 (wrap64 (x5 + 1))) else (some false))) else (none)) else (none)) else (some true)
def qqv.f (k : Nat) (l0 : List (S82)) (l1 : List (S82)) : Option (Bool) := if (l0.length : Int) = (l1.length : Int) then (qqv.l0 k l0 l1 0) else (some false)
def qqv.T6 : Bool × List (List Nat × List Nat) := (true,[([],[]),([],[]),([0,1],[0,1]),([2],[2]),([],[]),([],[]),([4,5],[4,5]),([6],[6]),([3,7],[3,7]),([8],[8])])
def qqv.B6 : List Nat := [0,0,3,7,0,0,48,112,255,511]
theorem qqv.tab6 : rtab .any (opsOf Try.f29 6) = qqv.T6 := by kernel_rfl
theorem qqv.bits6 : waitsOk qqv.T6.2 qqv.B6 = true := by kernel_rfl
set_option maxHeartbeats 8000000 in
set_option maxRecDepth 100000 in
theorem qqv.calls (k : Nat) (A0 : Option Addr) (c0 : Nat) (l0 : List (S82)) (A1 : Option Addr) (c1 : Nat) (l1 : List (S82)) (r : Bool) (w : World) (hr0 : Kd.C k82 w A0 l0.length l0) (hc0 : l0.length ≤ c0) (hr1 : Kd.C k82 w A1 l1.length l1) (hc1 : l1.length ≤ c1) (h : qqv.f k l0 l1 = some r) :
  Calls Try.prog 29 #[.slice A0 l0.length c0,.slice A1 l1.length c1] w fun e w' => e = .returned (.bool r) ∧ Below w.heap.size w w' := by
 have hu82 := Try.underlying82
 have HR0 := qq.mk hr0
 have HC0 := qq.mk hc0
 clear hr0 hc0
 have HR1 := qq.mk hr1
 have HC1 := qq.mk hc1
 clear hr1 hc1
 have HB := qq.mk (Below.refl w.heap.size w)
 have H : (if (l0.length : Int) = (l1.length : Int) then (qqv.l0 k l0 l1 0) else (some false)) = some r := h
 clear h
 by_cases c3 : (l0.length : Int) = (l1.length : Int)
 ·rw [if_pos c3] at H
  have c3b0 : ((l0.length : Int) == (l1.length : Int)) = true := beq_iff_eq.mpr c3
  have c3b1 : ((l0.length : Int) != (l1.length : Int)) = false := bne_eq_false_iff_eq.mpr c3
  have c3b2 : (l0.length == l1.length) = true := by first | simpa using c3 | (simp at c3 ⊢;omega)
  clear c3
  have H' := qq.mk H
  clear H
  go_enter Try.func29,Try.ntmps29
  go_wp2
  go_loopg [5] k (fun kq v5 w' => ∃ (x5_1 : Int),v5 = .int .i64 x5_1 ∧ qq (qqv.l0 kq l0 l1 x5_1 = some r) ∧ qq (kq ≤ k) ∧ qq (Below w.heap.size w w'))
  case atStart => exact ⟨(0),(by first | rfl | (simp;done) | (simp [*];done)),H',⟨Nat.le_refl _⟩,⟨by repeat (first | (with_reducible first | exact HB.out | apply qj | apply qz | apply qk) | exact HB.out)⟩⟩
  case round =>
   clear H'
   try clear c1
   try clear c2
   try clear p2
   try clear c3
   try clear c3b0
   try clear c3b1
   try clear c3b2
   obtain ⟨x5_1,rfl,HA,HK1,HB⟩ := hrel
   cases gk with
   | zero => exact absurd HA.out (by simp [qqv.l0])
   | succ k1 =>
    have H := HA.out
    clear HA
    simp only [qqv.l0] at H
    by_cases c4 : x5_1 < (l0.length : Int)
    ·rw [if_pos c4] at H
     have c4b0 : decide (x5_1 < (l0.length : Int)) = true := decide_eq_true c4
     clear c4
     by_cases c5 : 0 ≤ x5_1
     ·rw [if_pos c5] at H
      have c5b0 : decide (0 ≤ x5_1) = true := decide_eq_true c5
      clear c5
      by_cases c6 : x5_1 < (l1.length : Int)
      ·rw [if_pos c6] at H
       have c6b0 : decide (x5_1 < (l1.length : Int)) = true := decide_eq_true c6
       clear c6
       replace H := Option.bind_eq_some_iff.mp H
       obtain ⟨t103,A70,H⟩ := H
       replace H : (if t103 = true then (qqv.l0 k1 l0 l1 (wrap64 (x5_1 + 1))) else (some false)) = some r := H
       have A7 := qq.mk A70
       clear A70
       by_cases c8 : t103 = true
       ·subst c8
        have H1 : (qqv.l0 k1 l0 l1 (wrap64 (x5_1 + 1))) = some r := by rw [if_pos rfl] at H;exact H
        clear H
        have H := H1
        clear H1
        have H' := qq.mk H
        clear H
        try go_wp2
        have n0_ := qq.mk (qk HB.out)
        clear HB
        have HB := n0_
        clear n0_
        have p101 : 0 ≤ (x5_1 : Int) := of_decide_eq_true (by assumption)
        have q101 : x5_1 < (l0.length : Int) := of_decide_eq_true (by assumption)
        obtain ⟨ad101,A101_0,c101_0,A101_2,c101_2,e101,hx101_0,hx101_1,hx101_2,hl101_0,hi101_0,hl101_2,hi101_2⟩ := at_T82 HR0.out x5_1 p101 q101
        have hw101_2 := hx101_2
        have hw101_1 := hx101_1
        have hw101_0 := hx101_0
        cases e101
        replace hx101_0 := (HB.out.cell (World.block_lt_of_cell? w _ hx101_0)).trans hx101_0
        replace hx101_1 := (HB.out.cell (World.block_lt_of_cell? w _ hx101_1)).trans hx101_1
        replace hx101_2 := (HB.out.cell (World.block_lt_of_cell? w _ hx101_2)).trans hx101_2
        have HR101_0 := qq.mk hi101_0
        have HC101_0 := qq.mk hl101_0
        clear hi101_0 hl101_0
        have HR101_2 := qq.mk hi101_2
        have HC101_2 := qq.mk hl101_2
        clear hi101_2 hl101_2
        replace p101 := eq_true p101
        replace q101 := eq_true q101
        have p102 : 0 ≤ (x5_1 : Int) := of_decide_eq_true (by assumption)
        have q102 : x5_1 < (l1.length : Int) := of_decide_eq_true (by assumption)
        obtain ⟨ad102,A102_0,c102_0,A102_2,c102_2,e102,hx102_0,hx102_1,hx102_2,hl102_0,hi102_0,hl102_2,hi102_2⟩ := at_T82 HR1.out x5_1 p102 q102
        have hw102_2 := hx102_2
        have hw102_1 := hx102_1
        have hw102_0 := hx102_0
        cases e102
        replace hx102_0 := (HB.out.cell (World.block_lt_of_cell? w _ hx102_0)).trans hx102_0
        replace hx102_1 := (HB.out.cell (World.block_lt_of_cell? w _ hx102_1)).trans hx102_1
        replace hx102_2 := (HB.out.cell (World.block_lt_of_cell? w _ hx102_2)).trans hx102_2
        have HR102_0 := qq.mk hi102_0
        have HC102_0 := qq.mk hl102_0
        clear hi102_0 hl102_0
        have HR102_2 := qq.mk hi102_2
        have HC102_2 := qq.mk hl102_2
        clear hi102_2 hl102_2
        replace p102 := eq_true p102
        replace q102 := eq_true q102
        refine start_ (n := 10) (S := fun w' => w'.cell? (ad101.add ((x5_1).toNat * 3)) = some (.slice A101_0 ((vx l0 x5_1).f0).length c101_0) ∧ w'.cell? ⟨(ad101.add ((x5_1).toNat * 3)).block,(ad101.add ((x5_1).toNat * 3)).off + 1,none⟩ = some (.int .i64 ((vx l0 x5_1).f1)) ∧ w'.cell? ⟨(ad101.add ((x5_1).toNat * 3)).block,(ad101.add ((x5_1).toNat * 3)).off + 2,none⟩ = some (.slice A101_2 ((vx l0 x5_1).f2).length c101_2) ∧ w'.cell? (ad102.add ((x5_1).toNat * 3)) = some (.slice A102_0 ((vx l1 x5_1).f0).length c102_0) ∧ w'.cell? ⟨(ad102.add ((x5_1).toNat * 3)).block,(ad102.add ((x5_1).toNat * 3)).off + 1,none⟩ = some (.int .i64 ((vx l1 x5_1).f1)) ∧ w'.cell? ⟨(ad102.add ((x5_1).toNat * 3)).block,(ad102.add ((x5_1).toNat * 3)).off + 2,none⟩ = some (.slice A102_2 ((vx l1 x5_1).f2).length c102_2)) (ds := []) #[false,false,false,false,false,false,false,false,false,false] (by kernel_rfl) rfl rfl ⟨((HB.out.cell (World.block_lt_of_cell? w _ hw101_0)).trans hw101_0),((HB.out.cell (World.block_lt_of_cell? w _ hw101_1)).trans hw101_1),((HB.out.cell (World.block_lt_of_cell? w _ hw101_2)).trans hw101_2),((HB.out.cell (World.block_lt_of_cell? w _ hw102_0)).trans hw102_0),((HB.out.cell (World.block_lt_of_cell? w _ hw102_1)).trans hw102_1),((HB.out.cell (World.block_lt_of_cell? w _ hw102_2)).trans hw102_2)⟩ (fun hHeld => ?_);refine with_tabW qqv.tab6 qqv.bits6 (fun HT_ HW_ => ?_)
        generalize wr.drew = w9 at HB HR101_0 HR101_2 HR102_0 HR102_2 hx101_0 hx101_1 hx101_2 hx102_0 hx102_1 hx102_2 hHeld ⊢
        refine pure_ (i := 0) (N := some 17) (v := ?_) (a' := ?_) #[true,false,false,false,false,false,false,false,false,false] rfl rfl (any_of HT_.out (by kernel_rfl)) (fun _ _ _ h => h) (Or.inl ⟨by rfl,?_⟩) ?_ ?_
        rotate_left
        ·intro w'
         go_simp
         with_reducible rfl
        rotate_left
        ·simp only [Act.put,List.setIfInBounds_toArray,List.set_cons_zero,List.set_cons_succ,i64_w,i32_w]
         rfl
        refine pure_ (i := 1) (N := some 18) (v := ?_) (a' := ?_) #[true,true,false,false,false,false,false,false,false,false] rfl rfl (any_of HT_.out (by kernel_rfl)) (fun _ _ _ h => h) (Or.inl ⟨by rfl,?_⟩) ?_ ?_
        rotate_left
        ·intro w'
         go_simp
         with_reducible rfl
        rotate_left
        ·simp only [Act.put,List.setIfInBounds_toArray,List.set_cons_zero,List.set_cons_succ,i64_w,i32_w]
         rfl
        refine pure_ (i := 2) (N := some 19) (v := ?_) (a' := ?_) #[true,true,true,false,false,false,false,false,false,false] rfl rfl (any_of HT_.out (by kernel_rfl)) (fun _ _ _ h => h) (Or.inl ⟨by rfl,?_⟩) ?_ ?_
        rotate_left
        ·intro w'
         go_simp
         with_reducible rfl
        rotate_left
        ·simp only [Act.put,List.setIfInBounds_toArray,List.set_cons_zero,List.set_cons_succ,i64_w,i32_w]
         rfl
        refine pure_ (i := 4) (N := some 21) (v := ?_) (a' := ?_) #[true,true,true,false,true,false,false,false,false,false] rfl rfl (any_of HT_.out (by kernel_rfl)) (fun _ _ _ h => h) (Or.inl ⟨by rfl,?_⟩) ?_ ?_
        rotate_left
        ·intro w'
         go_simp
         with_reducible rfl
        rotate_left
        ·simp only [Act.put,List.setIfInBounds_toArray,List.set_cons_zero,List.set_cons_succ,i64_w,i32_w]
         rfl
        refine pure_ (i := 5) (N := some 22) (v := ?_) (a' := ?_) #[true,true,true,false,true,true,false,false,false,false] rfl rfl (any_of HT_.out (by kernel_rfl)) (fun _ _ _ h => h) (Or.inl ⟨by rfl,?_⟩) ?_ ?_
        rotate_left
        ·intro w'
         go_simp
         with_reducible rfl
        rotate_left
        ·simp only [Act.put,List.setIfInBounds_toArray,List.set_cons_zero,List.set_cons_succ,i64_w,i32_w]
         rfl
        refine pure_ (i := 6) (N := some 23) (v := ?_) (a' := ?_) #[true,true,true,false,true,true,true,false,false,false] rfl rfl (any_of HT_.out (by kernel_rfl)) (fun _ _ _ h => h) (Or.inl ⟨by rfl,?_⟩) ?_ ?_
        rotate_left
        ·intro w'
         go_simp
         with_reducible rfl
        rotate_left
        ·simp only [Act.put,List.setIfInBounds_toArray,List.set_cons_zero,List.set_cons_succ,i64_w,i32_w]
         rfl
        refine take_ (i := 3) (N := some 20) (v := ?_) (a' := ?_) #[true,true,true,true,true,true,true,false,false,false] rfl rfl (take_ofW HT_.out HW_.out (by kernel_rfl)) (fun _ _ _ h => h) (Or.inl ⟨by rfl,?_⟩) hHeld ?_ ?_
        rotate_left
        ·rintro w' ⟨s0,s1,s2,s3,s4,s5⟩
         go_simp
         with_reducible rfl
        rotate_left
        ·simp only [Act.put,List.setIfInBounds_toArray,List.set_cons_zero,List.set_cons_succ,i64_w,i32_w]
         rfl
        refine take_ (i := 7) (N := some 24) (v := ?_) (a' := ?_) #[true,true,true,true,true,true,true,true,false,false] rfl rfl (take_ofW HT_.out HW_.out (by kernel_rfl)) (fun _ _ _ h => h) (Or.inl ⟨by rfl,?_⟩) hHeld ?_ ?_
        rotate_left
        ·rintro w' ⟨s0,s1,s2,s3,s4,s5⟩
         go_simp
         with_reducible rfl
        rotate_left
        ·simp only [Act.put,List.setIfInBounds_toArray,List.set_cons_zero,List.set_cons_succ,i64_w,i32_w]
         rfl
        refine one_ (i := 8) (N := some 25) #[true,true,true,true,true,true,true,true,true,false] rfl rfl (one_of HT_.out (by kernel_rfl)) (by decide) (fun K hK => ?_)
        refine goes_ Try.func86 (by kernel_rfl) rfl #[.agg #[.slice A101_0 ((vx l0 x5_1).f0).length c101_0,.int .i64 ((vx l0 x5_1).f1),.slice A101_2 ((vx l0 x5_1).f2).length c101_2],.agg #[.slice A102_0 ((vx l1 x5_1).f0).length c102_0,.int .i64 ((vx l1 x5_1).f1),.slice A102_2 ((vx l1 x5_1).f2).length c102_2]] (by rfl) rfl rfl (by (try simp only [List.map_toArray,List.map_cons,List.map_nil]);first | done | rfl | (simp only [List.length_drop,List.length_take];rfl)) ?_
        with_reducible refine (qqk.calls k1 _ _ ((vx l0 x5_1).f0) ((vx l0 x5_1).f1) _ _ ((vx l0 x5_1).f2) _ _ ((vx l1 x5_1).f0) ((vx l1 x5_1).f1) _ _ ((vx l1 x5_1).f2) true _ ?side1 ?side2 ?side3 ?side4 ?side5 ?side6 ?side7 ?side8 A7.out).mono ?_
        (case side1 => repeat (first | exact (Kd.C_below HR101_0.out HB.out) | (with_reducible refine Kd.C_alloc ?_ _) | (with_reducible refine Kd.C_drewN ?_ _) | (with_reducible refine Kd.C_drew ?_)))
        (case side2 => exact HC101_0.out)
        (case side3 => repeat (first | exact (Kd.C_below HR101_2.out HB.out) | (with_reducible refine Kd.C_alloc ?_ _) | (with_reducible refine Kd.C_drewN ?_ _) | (with_reducible refine Kd.C_drew ?_)))
        (case side4 => exact HC101_2.out)
        (case side5 => repeat (first | exact (Kd.C_below HR102_0.out HB.out) | (with_reducible refine Kd.C_alloc ?_ _) | (with_reducible refine Kd.C_drewN ?_ _) | (with_reducible refine Kd.C_drew ?_)))
        (case side6 => exact HC102_0.out)
        (case side7 => repeat (first | exact (Kd.C_below HR102_2.out HB.out) | (with_reducible refine Kd.C_alloc ?_ _) | (with_reducible refine Kd.C_drewN ?_ _) | (with_reducible refine Kd.C_drew ?_)))
        (case side8 => exact HC102_2.out)
        rintro e w10 ⟨rfl,hb⟩
        refine ⟨_,rfl,?_⟩
        have n0_ := qq.mk (zv (by repeat (first | (with_reducible first | exact HB.out | apply qj | apply qz | apply qk) | exact HB.out)) hb)
        clear HB
        have HB := n0_
        clear n0_
        (try clear hb)
        (try clear hb2)
        (try clear hk)
        (try clear hi)
        refine hK.out _ _ ⟨((HB.out.cell (World.block_lt_of_cell? w _ hw101_0)).trans hw101_0),((HB.out.cell (World.block_lt_of_cell? w _ hw101_1)).trans hw101_1),((HB.out.cell (World.block_lt_of_cell? w _ hw101_2)).trans hw101_2),((HB.out.cell (World.block_lt_of_cell? w _ hw102_0)).trans hw102_0),((HB.out.cell (World.block_lt_of_cell? w _ hw102_1)).trans hw102_1),((HB.out.cell (World.block_lt_of_cell? w _ hw102_2)).trans hw102_2)⟩ (fun hHeld => ?_)
        clear hK K
        refine norm_ (a' := ?_) ?_ ?_
        rotate_left
        ·show Act.put _ (some 25) _ = _
         simp only [Act.put,List.setIfInBounds_toArray,List.set_cons_zero,List.set_cons_succ,i64_w,i32_w]
         rfl
        refine pure_ (i := 9) (N := some 26) (v := ?_) (a' := ?_) #[true,true,true,true,true,true,true,true,true,true] rfl rfl (any_of HT_.out (by kernel_rfl)) (fun _ _ _ h => h) (Or.inl ⟨by rfl,?_⟩) ?_ ?_
        rotate_left
        ·intro w'
         go_simp
         with_reducible rfl
        rotate_left
        ·simp only [Act.put,List.setIfInBounds_toArray,List.set_cons_zero,List.set_cons_succ,i64_w,i32_w]
         rfl
        refine done_ (done_of HT_.out (by kernel_rfl)) ?_
        try go_wp2
        go_roundg k1
        case measure => have := HK1.out;omega
        case rel => exact ⟨(wrap64 (x5_1 + 1)),(by first | rfl | (simp;done) | (simp [*];done)),H',⟨by have := HK1.out;omega⟩,⟨by repeat (first | (with_reducible first | exact HB.out | apply qj | apply qz | apply qk) | exact HB.out)⟩⟩
       ·replace c8 := Bool.eq_false_iff.mpr c8
        subst c8
        have H1 : (some false) = some r := by rw [if_neg (show ¬ (false = true) by decide)] at H;exact H
        clear H
        have H := H1
        clear H1
        obtain rfl := Option.some.inj H
        try go_wp2
        have n0_ := qq.mk (qk HB.out)
        clear HB
        have HB := n0_
        clear n0_
        have p101 : 0 ≤ (x5_1 : Int) := of_decide_eq_true (by assumption)
        have q101 : x5_1 < (l0.length : Int) := of_decide_eq_true (by assumption)
        obtain ⟨ad101,A101_0,c101_0,A101_2,c101_2,e101,hx101_0,hx101_1,hx101_2,hl101_0,hi101_0,hl101_2,hi101_2⟩ := at_T82 HR0.out x5_1 p101 q101
        have hw101_2 := hx101_2
        have hw101_1 := hx101_1
        have hw101_0 := hx101_0
        cases e101
        replace hx101_0 := (HB.out.cell (World.block_lt_of_cell? w _ hx101_0)).trans hx101_0
        replace hx101_1 := (HB.out.cell (World.block_lt_of_cell? w _ hx101_1)).trans hx101_1
        replace hx101_2 := (HB.out.cell (World.block_lt_of_cell? w _ hx101_2)).trans hx101_2
        have HR101_0 := qq.mk hi101_0
        have HC101_0 := qq.mk hl101_0
        clear hi101_0 hl101_0
        have HR101_2 := qq.mk hi101_2
        have HC101_2 := qq.mk hl101_2
        clear hi101_2 hl101_2
        replace p101 := eq_true p101
        replace q101 := eq_true q101
        have p102 : 0 ≤ (x5_1 : Int) := of_decide_eq_true (by assumption)
        have q102 : x5_1 < (l1.length : Int) := of_decide_eq_true (by assumption)
        obtain ⟨ad102,A102_0,c102_0,A102_2,c102_2,e102,hx102_0,hx102_1,hx102_2,hl102_0,hi102_0,hl102_2,hi102_2⟩ := at_T82 HR1.out x5_1 p102 q102
        have hw102_2 := hx102_2
        have hw102_1 := hx102_1
        have hw102_0 := hx102_0
        cases e102
        replace hx102_0 := (HB.out.cell (World.block_lt_of_cell? w _ hx102_0)).trans hx102_0
        replace hx102_1 := (HB.out.cell (World.block_lt_of_cell? w _ hx102_1)).trans hx102_1
        replace hx102_2 := (HB.out.cell (World.block_lt_of_cell? w _ hx102_2)).trans hx102_2
        have HR102_0 := qq.mk hi102_0
        have HC102_0 := qq.mk hl102_0
        clear hi102_0 hl102_0
        have HR102_2 := qq.mk hi102_2
        have HC102_2 := qq.mk hl102_2
        clear hi102_2 hl102_2
        replace p102 := eq_true p102
        replace q102 := eq_true q102
        refine start_ (n := 10) (S := fun w' => w'.cell? (ad101.add ((x5_1).toNat * 3)) = some (.slice A101_0 ((vx l0 x5_1).f0).length c101_0) ∧ w'.cell? ⟨(ad101.add ((x5_1).toNat * 3)).block,(ad101.add ((x5_1).toNat * 3)).off + 1,none⟩ = some (.int .i64 ((vx l0 x5_1).f1)) ∧ w'.cell? ⟨(ad101.add ((x5_1).toNat * 3)).block,(ad101.add ((x5_1).toNat * 3)).off + 2,none⟩ = some (.slice A101_2 ((vx l0 x5_1).f2).length c101_2) ∧ w'.cell? (ad102.add ((x5_1).toNat * 3)) = some (.slice A102_0 ((vx l1 x5_1).f0).length c102_0) ∧ w'.cell? ⟨(ad102.add ((x5_1).toNat * 3)).block,(ad102.add ((x5_1).toNat * 3)).off + 1,none⟩ = some (.int .i64 ((vx l1 x5_1).f1)) ∧ w'.cell? ⟨(ad102.add ((x5_1).toNat * 3)).block,(ad102.add ((x5_1).toNat * 3)).off + 2,none⟩ = some (.slice A102_2 ((vx l1 x5_1).f2).length c102_2)) (ds := []) #[false,false,false,false,false,false,false,false,false,false] (by kernel_rfl) rfl rfl ⟨((HB.out.cell (World.block_lt_of_cell? w _ hw101_0)).trans hw101_0),((HB.out.cell (World.block_lt_of_cell? w _ hw101_1)).trans hw101_1),((HB.out.cell (World.block_lt_of_cell? w _ hw101_2)).trans hw101_2),((HB.out.cell (World.block_lt_of_cell? w _ hw102_0)).trans hw102_0),((HB.out.cell (World.block_lt_of_cell? w _ hw102_1)).trans hw102_1),((HB.out.cell (World.block_lt_of_cell? w _ hw102_2)).trans hw102_2)⟩ (fun hHeld => ?_);refine with_tabW qqv.tab6 qqv.bits6 (fun HT_ HW_ => ?_)
        generalize wr.drew = w11 at HB HR101_0 HR101_2 HR102_0 HR102_2 hx101_0 hx101_1 hx101_2 hx102_0 hx102_1 hx102_2 hHeld ⊢
        refine pure_ (i := 0) (N := some 17) (v := ?_) (a' := ?_) #[true,false,false,false,false,false,false,false,false,false] rfl rfl (any_of HT_.out (by kernel_rfl)) (fun _ _ _ h => h) (Or.inl ⟨by rfl,?_⟩) ?_ ?_
        rotate_left
        ·intro w'
         go_simp
         with_reducible rfl
        rotate_left
        ·simp only [Act.put,List.setIfInBounds_toArray,List.set_cons_zero,List.set_cons_succ,i64_w,i32_w]
         rfl
        refine pure_ (i := 1) (N := some 18) (v := ?_) (a' := ?_) #[true,true,false,false,false,false,false,false,false,false] rfl rfl (any_of HT_.out (by kernel_rfl)) (fun _ _ _ h => h) (Or.inl ⟨by rfl,?_⟩) ?_ ?_
        rotate_left
        ·intro w'
         go_simp
         with_reducible rfl
        rotate_left
        ·simp only [Act.put,List.setIfInBounds_toArray,List.set_cons_zero,List.set_cons_succ,i64_w,i32_w]
         rfl
        refine pure_ (i := 2) (N := some 19) (v := ?_) (a' := ?_) #[true,true,true,false,false,false,false,false,false,false] rfl rfl (any_of HT_.out (by kernel_rfl)) (fun _ _ _ h => h) (Or.inl ⟨by rfl,?_⟩) ?_ ?_
        rotate_left
        ·intro w'
         go_simp
         with_reducible rfl
        rotate_left
        ·simp only [Act.put,List.setIfInBounds_toArray,List.set_cons_zero,List.set_cons_succ,i64_w,i32_w]
         rfl
        refine pure_ (i := 4) (N := some 21) (v := ?_) (a' := ?_) #[true,true,true,false,true,false,false,false,false,false] rfl rfl (any_of HT_.out (by kernel_rfl)) (fun _ _ _ h => h) (Or.inl ⟨by rfl,?_⟩) ?_ ?_
        rotate_left
        ·intro w'
         go_simp
         with_reducible rfl
        rotate_left
        ·simp only [Act.put,List.setIfInBounds_toArray,List.set_cons_zero,List.set_cons_succ,i64_w,i32_w]
         rfl
        refine pure_ (i := 5) (N := some 22) (v := ?_) (a' := ?_) #[true,true,true,false,true,true,false,false,false,false] rfl rfl (any_of HT_.out (by kernel_rfl)) (fun _ _ _ h => h) (Or.inl ⟨by rfl,?_⟩) ?_ ?_
        rotate_left
        ·intro w'
         go_simp
         with_reducible rfl
        rotate_left
        ·simp only [Act.put,List.setIfInBounds_toArray,List.set_cons_zero,List.set_cons_succ,i64_w,i32_w]
         rfl
        refine pure_ (i := 6) (N := some 23) (v := ?_) (a' := ?_) #[true,true,true,false,true,true,true,false,false,false] rfl rfl (any_of HT_.out (by kernel_rfl)) (fun _ _ _ h => h) (Or.inl ⟨by rfl,?_⟩) ?_ ?_
        rotate_left
        ·intro w'
         go_simp
         with_reducible rfl
        rotate_left
        ·simp only [Act.put,List.setIfInBounds_toArray,List.set_cons_zero,List.set_cons_succ,i64_w,i32_w]
         rfl
        refine take_ (i := 3) (N := some 20) (v := ?_) (a' := ?_) #[true,true,true,true,true,true,true,false,false,false] rfl rfl (take_ofW HT_.out HW_.out (by kernel_rfl)) (fun _ _ _ h => h) (Or.inl ⟨by rfl,?_⟩) hHeld ?_ ?_
        rotate_left
        ·rintro w' ⟨s0,s1,s2,s3,s4,s5⟩
         go_simp
         with_reducible rfl
        rotate_left
        ·simp only [Act.put,List.setIfInBounds_toArray,List.set_cons_zero,List.set_cons_succ,i64_w,i32_w]
         rfl
        refine take_ (i := 7) (N := some 24) (v := ?_) (a' := ?_) #[true,true,true,true,true,true,true,true,false,false] rfl rfl (take_ofW HT_.out HW_.out (by kernel_rfl)) (fun _ _ _ h => h) (Or.inl ⟨by rfl,?_⟩) hHeld ?_ ?_
        rotate_left
        ·rintro w' ⟨s0,s1,s2,s3,s4,s5⟩
         go_simp
         with_reducible rfl
        rotate_left
        ·simp only [Act.put,List.setIfInBounds_toArray,List.set_cons_zero,List.set_cons_succ,i64_w,i32_w]
         rfl
        refine one_ (i := 8) (N := some 25) #[true,true,true,true,true,true,true,true,true,false] rfl rfl (one_of HT_.out (by kernel_rfl)) (by decide) (fun K hK => ?_)
        refine goes_ Try.func86 (by kernel_rfl) rfl #[.agg #[.slice A101_0 ((vx l0 x5_1).f0).length c101_0,.int .i64 ((vx l0 x5_1).f1),.slice A101_2 ((vx l0 x5_1).f2).length c101_2],.agg #[.slice A102_0 ((vx l1 x5_1).f0).length c102_0,.int .i64 ((vx l1 x5_1).f1),.slice A102_2 ((vx l1 x5_1).f2).length c102_2]] (by rfl) rfl rfl (by (try simp only [List.map_toArray,List.map_cons,List.map_nil]);first | done | rfl | (simp only [List.length_drop,List.length_take];rfl)) ?_
        with_reducible refine (qqk.calls k1 _ _ ((vx l0 x5_1).f0) ((vx l0 x5_1).f1) _ _ ((vx l0 x5_1).f2) _ _ ((vx l1 x5_1).f0) ((vx l1 x5_1).f1) _ _ ((vx l1 x5_1).f2) false _ ?side1 ?side2 ?side3 ?side4 ?side5 ?side6 ?side7 ?side8 A7.out).mono ?_
        (case side1 => repeat (first | exact (Kd.C_below HR101_0.out HB.out) | (with_reducible refine Kd.C_alloc ?_ _) | (with_reducible refine Kd.C_drewN ?_ _) | (with_reducible refine Kd.C_drew ?_)))
        (case side2 => exact HC101_0.out)
        (case side3 => repeat (first | exact (Kd.C_below HR101_2.out HB.out) | (with_reducible refine Kd.C_alloc ?_ _) | (with_reducible refine Kd.C_drewN ?_ _) | (with_reducible refine Kd.C_drew ?_)))
        (case side4 => exact HC101_2.out)
        (case side5 => repeat (first | exact (Kd.C_below HR102_0.out HB.out) | (with_reducible refine Kd.C_alloc ?_ _) | (with_reducible refine Kd.C_drewN ?_ _) | (with_reducible refine Kd.C_drew ?_)))
        (case side6 => exact HC102_0.out)
        (case side7 => repeat (first | exact (Kd.C_below HR102_2.out HB.out) | (with_reducible refine Kd.C_alloc ?_ _) | (with_reducible refine Kd.C_drewN ?_ _) | (with_reducible refine Kd.C_drew ?_)))
        (case side8 => exact HC102_2.out)
        rintro e w12 ⟨rfl,hb⟩
        refine ⟨_,rfl,?_⟩
        have n0_ := qq.mk (zv (by repeat (first | (with_reducible first | exact HB.out | apply qj | apply qz | apply qk) | exact HB.out)) hb)
        clear HB
        have HB := n0_
        clear n0_
        (try clear hb)
        (try clear hb2)
        (try clear hk)
        (try clear hi)
        refine hK.out _ _ ⟨((HB.out.cell (World.block_lt_of_cell? w _ hw101_0)).trans hw101_0),((HB.out.cell (World.block_lt_of_cell? w _ hw101_1)).trans hw101_1),((HB.out.cell (World.block_lt_of_cell? w _ hw101_2)).trans hw101_2),((HB.out.cell (World.block_lt_of_cell? w _ hw102_0)).trans hw102_0),((HB.out.cell (World.block_lt_of_cell? w _ hw102_1)).trans hw102_1),((HB.out.cell (World.block_lt_of_cell? w _ hw102_2)).trans hw102_2)⟩ (fun hHeld => ?_)
        clear hK K
        refine norm_ (a' := ?_) ?_ ?_
        rotate_left
        ·show Act.put _ (some 25) _ = _
         simp only [Act.put,List.setIfInBounds_toArray,List.set_cons_zero,List.set_cons_succ,i64_w,i32_w]
         rfl
        refine pure_ (i := 9) (N := some 26) (v := ?_) (a' := ?_) #[true,true,true,true,true,true,true,true,true,true] rfl rfl (any_of HT_.out (by kernel_rfl)) (fun _ _ _ h => h) (Or.inl ⟨by rfl,?_⟩) ?_ ?_
        rotate_left
        ·intro w'
         go_simp
         with_reducible rfl
        rotate_left
        ·simp only [Act.put,List.setIfInBounds_toArray,List.set_cons_zero,List.set_cons_succ,i64_w,i32_w]
         rfl
        refine done_ (done_of HT_.out (by kernel_rfl)) ?_
        try go_wp2
        go_ret
        exact ⟨by first | rfl | (simp [*,jk,jj] <;> rfl),by repeat (first | (with_reducible first | exact HB.out | apply qj | apply qz | apply qk) | exact HB.out)⟩
      ·rw [if_neg c6] at H
       exact absurd H (by simp)
     ·rw [if_neg c5] at H
      exact absurd H (by simp)
    ·rw [if_neg c4] at H
     have c4b0 : decide (x5_1 < (l0.length : Int)) = false := decide_eq_false c4
     clear c4
     obtain rfl := Option.some.inj H
     go_wp2
     go_ret
     exact ⟨by first | rfl | (simp [*,jk,jj] <;> rfl),by repeat (first | (with_reducible first | exact HB.out | apply qj | apply qz | apply qk) | exact HB.out)⟩
 ·rw [if_neg c3] at H
  have c3b0 : ((l0.length : Int) == (l1.length : Int)) = false := beq_eq_false_iff_ne.mpr c3
  have c3b1 : ((l0.length : Int) != (l1.length : Int)) = true := bne_iff_ne.mpr c3
  have c3b2 : (l0.length == l1.length) = false := by first | simpa using c3 | (simp at c3 ⊢;omega)
  obtain rfl := Option.some.inj H
  go_enter Try.func29,Try.ntmps29
  go_wp2
  go_ret
  exact ⟨by first | rfl | (simp [*,jk,jj] <;> rfl),by repeat (first | (with_reducible first | exact HB.out | apply qj | apply qz | apply qk) | exact HB.out)⟩
end Go.Proofs.Ytgolcojhnklfdaa.Pr
