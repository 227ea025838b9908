/- The law FnPasswords: whatever the input, the call returns true and the arguments read as before. No conditions. -/
import Derived.Test.YtgolcojhnklfdaaFullFnPasswordsD
import Derived.Deep.QuietTactic
import Derived.BigQuiet
import Derived.Laws.Cover1
import Derived.Test.YtgolcojhnklfdaaRows
import Derived.WalkKit
import Derived.ProofKit
import Derived.OpenShut
import Derived.ShutString
import Derived.ChangeOld
import Derived.Below
import Derived.HandedShaped
import Derived.Shelf.Vars
namespace Go.Proofs.Ytgolcojhnklfdaa.Pr
open Go.RowKit Go.Proofs.YtgolcojhnklfdaaW.PrintWords Go.Proofs.YtgolcojhnklfdaaW.PrintLast Go.Proofs.YtgolcojhnklfdaaW.PrintMore
attribute [local go_sem] max2_int min2_int max_two min_two max_three min_three max_four min_four
set_option linter.unusedVariables false
set_option linter.unusedSimpArgs false
def qzw.l0 : Nat → Int → List Int → Int → Int → Option (Bool)
 | 0,_,_,_,_ => none
 | k + 1,x1,x7,x8,x9 => if x9 < x8 then (if 0 ≤ x9 then (if x9 < (x7.length : Int) then (if (rd x7 x9) = x1 then (some true) else (qzw.l0 k x1 x7 x8 (wrap64 (x9 + 1)))) else (none)) else (none)) else (some false)
def qzw.f (k : Nat) (l0 : List Int) (a1 : Int) : Option (Bool) := qzw.l0 k a1 l0 (l0.length : Int) 0
set_option maxHeartbeats 8000000 in
set_option maxRecDepth 100000 in
theorem qzw.calls (k : Nat) (A0 : Option Addr) (c0 : Nat) (l0 : List Int) (a1 : Int) (r : Bool) (w : World) (hr0 : Kd.C (Kd.int .i64) w A0 l0.length l0) (hc0 : l0.length ≤ c0) (h : qzw.f k l0 a1 = some r) :
  Calls Try.prog 49 #[.slice A0 l0.length c0,.int .i64 a1] w fun e w' => e = .returned (.bool r) ∧ Drawn0 w w' := by
 have HR0 := qq.mk hr0
 have HC0 := qq.mk hc0
 clear hr0 hc0
 have H : (qzw.l0 k a1 l0 (l0.length : Int) 0) = some r := h
 clear h
 have H' := qq.mk H
 clear H
 go_enter Try.func49,Try.ntmps49
 go_wp2
 go_loopg [9] k (fun kq v9 w' => ∃ (x9_1 : Int),v9 = .int .i64 x9_1 ∧ qq (qzw.l0 kq a1 l0 (l0.length : Int) x9_1 = some r) ∧ qq (kq ≤ k) ∧ Drawn0 w w')
 case atStart => exact ⟨(0),(by first | rfl | (simp;done) | (simp [*];done)),H',⟨Nat.le_refl _⟩,by repeat (first | exact Drawn0.refl _ | apply Drawn0.step)⟩
 case round =>
  clear H'
  try clear p2
  obtain ⟨x9_1,rfl,HA,HK1,⟨m1,rfl⟩⟩ := hrel
  cases gk with
  | zero => exact absurd HA.out (by simp [qzw.l0])
  | succ k1 =>
   have H := HA.out
   clear HA
   simp only [qzw.l0] at H
   by_cases c3 : x9_1 < (l0.length : Int)
   ·rw [if_pos c3] at H
    have c3b0 : decide (x9_1 < (l0.length : Int)) = true := decide_eq_true c3
    clear c3
    by_cases c4 : 0 ≤ x9_1
    ·rw [if_pos c4] at H
     have c4b0 : decide (0 ≤ x9_1) = true := decide_eq_true c4
     clear c4
     by_cases c5 : x9_1 < (l0.length : Int)
     ·rw [if_pos c5] at H
      have c5b0 : decide (x9_1 < (l0.length : Int)) = true := decide_eq_true c5
      clear c5
      by_cases c6 : (rd l0 x9_1) = a1
      ·rw [if_pos c6] at H
       have c6b0 : ((rd l0 x9_1) == a1) = true := beq_iff_eq.mpr c6
       have c6b1 : ((rd l0 x9_1) != a1) = false := bne_eq_false_iff_eq.mpr c6
       clear c6
       obtain rfl := Option.some.inj H
       have p101 : 0 ≤ (x9_1 : Int) := of_decide_eq_true (by assumption)
       have q101 : x9_1 < (l0.length : Int) := of_decide_eq_true (by assumption)
       obtain ⟨ad101,e101,hx101_0⟩ := Kd.at_int HR0.out x9_1 p101 q101
       cases e101
       replace p101 := eq_true p101
       replace q101 := eq_true q101
       go_wp2
       go_ret
       exact ⟨by first | rfl | (simp;done) | (simp [*];done),by repeat (first | exact Drawn0.refl _ | apply Drawn0.step)⟩
      ·rw [if_neg c6] at H
       have c6b0 : ((rd l0 x9_1) == a1) = false := beq_eq_false_iff_ne.mpr c6
       have c6b1 : ((rd l0 x9_1) != a1) = true := bne_iff_ne.mpr c6
       have H' := qq.mk H
       clear H
       have p101 : 0 ≤ (x9_1 : Int) := of_decide_eq_true (by assumption)
       have q101 : x9_1 < (l0.length : Int) := of_decide_eq_true (by assumption)
       obtain ⟨ad101,e101,hx101_0⟩ := Kd.at_int HR0.out x9_1 p101 q101
       cases e101
       replace p101 := eq_true p101
       replace q101 := eq_true q101
       go_wp2
       go_roundg k1
       case measure => have := HK1.out;omega
       case rel => exact ⟨(wrap64 (x9_1 + 1)),(by first | rfl | (simp;done) | (simp [*];done)),H',⟨by have := HK1.out;omega⟩,by repeat (first | exact Drawn0.refl _ | apply Drawn0.step)⟩
     ·rw [if_neg c5] at H
      exact absurd H (by simp)
    ·rw [if_neg c4] at H
     exact absurd H (by simp)
   ·rw [if_neg c3] at H
    have c3b0 : decide (x9_1 < (l0.length : Int)) = false := decide_eq_false c3
    clear c3
    obtain rfl := Option.some.inj H
    go_wp2
    go_ret
    exact ⟨by first | rfl | (simp;done) | (simp [*];done),by repeat (first | exact Drawn0.refl _ | apply Drawn0.step)⟩
def qzq.f (k : Nat) (l0 : List Int) : Option (Bool) := if (l0.length : Int) > 1048576 then (some true) else ((qzv.f k l0).bind fun bt101 => ((qqz.f k bt101.1 bt101.2.1 bt101.2.2).bind fun t106 => ((qjz.f k bt101.1 bt101.2.1 bt101.2.2).bind fun t109 => ((qzz.f t106 t109).bind fun t112 => (if t112 = true then ((xx.f k bt101.2.1 bt101.2.2 t106 bt101.1).bind fun t114 => (if (t114 != (decide ((t106.length : Int) > 0))) = true then (none) else ((qzk.f k l0).bind fun bt115 => ((qqq.f k bt115.1 bt115.2.1 bt115.2.2.1 bt115.2.2.2.1 bt115.2.2.2.2.1 bt115.2.2.2.2.2.1 bt115.2.2.2.2.2.2).bind fun t127 => ((qjq.f k bt115.1 bt115.2.1 bt115.2.2.1 bt115.2.2.2.1 bt115.2.2.2.2.1 bt115.2.2.2.2.2.1 bt115.2.2.2.2.2.2).bind fun t130 => ((qzj.f k t127 t130).bind fun t133 => (if t133 = true then (if (t106.length : Int) = 0 then (some true) else ((qqq.f k 1 0 ([] : List ByteArray) 1 (⟨#[]⟩ : ByteArray) bt101.1 (([(⟨bt101.2.1,bt101.2.2,t106⟩ : S82)] : List (S82)))).bind fun t137 => ((qzw.f k t137 7).bind fun t140 => (some t140)))) else (none)))))))) else (none))))))
set_option maxHeartbeats 8000000 in
set_option maxRecDepth 100000 in
theorem qzq.calls (k : Nat) (A0 : Option Addr) (c0 : Nat) (l0 : List Int) (r : Bool) (w : World) (htab : TabW w) (hr0 : Kd.C (Kd.int .u8) w A0 l0.length l0) (hc0 : l0.length ≤ c0) (h : qzq.f k l0 = some r) :
  Calls Try.prog 8 #[.slice A0 l0.length c0] w fun e w' => e = .returned (.bool r) ∧ Below w.heap.size w w' := by
 have HTAB := qq.mk htab
 clear htab
 have hu82 := Try.underlying82
 have hu53 := Try.underlying53
 have HR0 := qq.mk hr0
 have HC0 := qq.mk hc0
 clear hr0 hc0
 have HB := qq.mk (Below.refl w.heap.size w)
 have H : (if (l0.length : Int) > 1048576 then (some true) else ((qzv.f k l0).bind fun bt101 => ((qqz.f k bt101.1 bt101.2.1 bt101.2.2).bind fun t106 => ((qjz.f k bt101.1 bt101.2.1 bt101.2.2).bind fun t109 => ((qzz.f t106 t109).bind fun t112 => (if t112 = true then ((xx.f k bt101.2.1 bt101.2.2 t106 bt101.1).bind fun t114 => (if (t114 != (decide ((t106.length : Int) > 0))) = true then (none) else ((qzk.f k l0).bind fun bt115 => ((qqq.f k bt115.1 bt115.2.1 bt115.2.2.1 bt115.2.2.2.1 bt115.2.2.2.2.1 bt115.2.2.2.2.2.1 bt115.2.2.2.2.2.2).bind fun t127 => ((qjq.f k bt115.1 bt115.2.1 bt115.2.2.1 bt115.2.2.2.1 bt115.2.2.2.2.1 bt115.2.2.2.2.2.1 bt115.2.2.2.2.2.2).bind fun t130 => ((qzj.f k t127 t130).bind fun t133 => (if t133 = true then (if (t106.length : Int) = 0 then (some true) else ((qqq.f k 1 0 ([] : List ByteArray) 1 (⟨#[]⟩ : ByteArray) bt101.1 (([(⟨bt101.2.1,bt101.2.2,t106⟩ : S82)] : List (S82)))).bind fun t137 => ((qzw.f k t137 7).bind fun t140 => (some t140)))) else (none)))))))) else (none))))))) = some r := h
 clear h
 by_cases c2 : (l0.length : Int) > 1048576
 ·rw [if_pos c2] at H
  have c2b0 : decide (1048576 < (l0.length : Int)) = true := decide_eq_true c2
  have c2b1 : decide (1048576 < l0.length) = true := decide_eq_true (by omega)
  clear c2
  obtain rfl := Option.some.inj H
  go_enter Try.func8,Try.ntmps8
  go_wp2
  go_ret
  exact ⟨by first | rfl | (simp [*,kz,jx] <;> rfl),by repeat (first | (with_reducible first | exact HB.out | apply qj | apply qz | apply qk) | exact HB.out)⟩
 ·rw [if_neg c2] at H
  have c2b0 : decide (1048576 < (l0.length : Int)) = false := decide_eq_false c2
  have c2b1 : decide (1048576 < l0.length) = false := decide_eq_false (by omega)
  clear c2
  replace H := Option.bind_eq_some_iff.mp H
  obtain ⟨⟨t101,t102,t105⟩,A30,H⟩ := H
  replace H : ((qqz.f k t101 t102 t105).bind fun t106 => ((qjz.f k t101 t102 t105).bind fun t109 => ((qzz.f t106 t109).bind fun t112 => (if t112 = true then ((xx.f k t102 t105 t106 t101).bind fun t114 => (if (t114 != (decide ((t106.length : Int) > 0))) = true then (none) else ((qzk.f k l0).bind fun bt115 => ((qqq.f k bt115.1 bt115.2.1 bt115.2.2.1 bt115.2.2.2.1 bt115.2.2.2.2.1 bt115.2.2.2.2.2.1 bt115.2.2.2.2.2.2).bind fun t127 => ((qjq.f k bt115.1 bt115.2.1 bt115.2.2.1 bt115.2.2.2.1 bt115.2.2.2.2.1 bt115.2.2.2.2.2.1 bt115.2.2.2.2.2.2).bind fun t130 => ((qzj.f k t127 t130).bind fun t133 => (if t133 = true then (if (t106.length : Int) = 0 then (some true) else ((qqq.f k 1 0 ([] : List ByteArray) 1 (⟨#[]⟩ : ByteArray) t101 (([(⟨t102,t105,t106⟩ : S82)] : List (S82)))).bind fun t137 => ((qzw.f k t137 7).bind fun t140 => (some t140)))) else (none)))))))) else (none))))) = some r := H
  have A3 := qq.mk A30
  clear A30
  replace H := Option.bind_eq_some_iff.mp H
  obtain ⟨t106,A40,H⟩ := H
  replace H : ((qjz.f k t101 t102 t105).bind fun t109 => ((qzz.f t106 t109).bind fun t112 => (if t112 = true then ((xx.f k t102 t105 t106 t101).bind fun t114 => (if (t114 != (decide ((t106.length : Int) > 0))) = true then (none) else ((qzk.f k l0).bind fun bt115 => ((qqq.f k bt115.1 bt115.2.1 bt115.2.2.1 bt115.2.2.2.1 bt115.2.2.2.2.1 bt115.2.2.2.2.2.1 bt115.2.2.2.2.2.2).bind fun t127 => ((qjq.f k bt115.1 bt115.2.1 bt115.2.2.1 bt115.2.2.2.1 bt115.2.2.2.2.1 bt115.2.2.2.2.2.1 bt115.2.2.2.2.2.2).bind fun t130 => ((qzj.f k t127 t130).bind fun t133 => (if t133 = true then (if (t106.length : Int) = 0 then (some true) else ((qqq.f k 1 0 ([] : List ByteArray) 1 (⟨#[]⟩ : ByteArray) t101 (([(⟨t102,t105,t106⟩ : S82)] : List (S82)))).bind fun t137 => ((qzw.f k t137 7).bind fun t140 => (some t140)))) else (none)))))))) else (none)))) = some r := H
  have A4 := qq.mk A40
  clear A40
  replace H := Option.bind_eq_some_iff.mp H
  obtain ⟨t109,A50,H⟩ := H
  replace H : ((qzz.f t106 t109).bind fun t112 => (if t112 = true then ((xx.f k t102 t105 t106 t101).bind fun t114 => (if (t114 != (decide ((t106.length : Int) > 0))) = true then (none) else ((qzk.f k l0).bind fun bt115 => ((qqq.f k bt115.1 bt115.2.1 bt115.2.2.1 bt115.2.2.2.1 bt115.2.2.2.2.1 bt115.2.2.2.2.2.1 bt115.2.2.2.2.2.2).bind fun t127 => ((qjq.f k bt115.1 bt115.2.1 bt115.2.2.1 bt115.2.2.2.1 bt115.2.2.2.2.1 bt115.2.2.2.2.2.1 bt115.2.2.2.2.2.2).bind fun t130 => ((qzj.f k t127 t130).bind fun t133 => (if t133 = true then (if (t106.length : Int) = 0 then (some true) else ((qqq.f k 1 0 ([] : List ByteArray) 1 (⟨#[]⟩ : ByteArray) t101 (([(⟨t102,t105,t106⟩ : S82)] : List (S82)))).bind fun t137 => ((qzw.f k t137 7).bind fun t140 => (some t140)))) else (none)))))))) else (none))) = some r := H
  have A5 := qq.mk A50
  clear A50
  replace H := Option.bind_eq_some_iff.mp H
  obtain ⟨t112,A60,H⟩ := H
  replace H : (if t112 = true then ((xx.f k t102 t105 t106 t101).bind fun t114 => (if (t114 != (decide ((t106.length : Int) > 0))) = true then (none) else ((qzk.f k l0).bind fun bt115 => ((qqq.f k bt115.1 bt115.2.1 bt115.2.2.1 bt115.2.2.2.1 bt115.2.2.2.2.1 bt115.2.2.2.2.2.1 bt115.2.2.2.2.2.2).bind fun t127 => ((qjq.f k bt115.1 bt115.2.1 bt115.2.2.1 bt115.2.2.2.1 bt115.2.2.2.2.1 bt115.2.2.2.2.2.1 bt115.2.2.2.2.2.2).bind fun t130 => ((qzj.f k t127 t130).bind fun t133 => (if t133 = true then (if (t106.length : Int) = 0 then (some true) else ((qqq.f k 1 0 ([] : List ByteArray) 1 (⟨#[]⟩ : ByteArray) t101 (([(⟨t102,t105,t106⟩ : S82)] : List (S82)))).bind fun t137 => ((qzw.f k t137 7).bind fun t140 => (some t140)))) else (none)))))))) else (none)) = some r := H
  have A6 := qq.mk A60
  clear A60
  by_cases c7 : t112 = true
  ·subst c7
   have H1 : ((xx.f k t102 t105 t106 t101).bind fun t114 => (if (t114 != (decide ((t106.length : Int) > 0))) = true then (none) else ((qzk.f k l0).bind fun bt115 => ((qqq.f k bt115.1 bt115.2.1 bt115.2.2.1 bt115.2.2.2.1 bt115.2.2.2.2.1 bt115.2.2.2.2.2.1 bt115.2.2.2.2.2.2).bind fun t127 => ((qjq.f k bt115.1 bt115.2.1 bt115.2.2.1 bt115.2.2.2.1 bt115.2.2.2.2.1 bt115.2.2.2.2.2.1 bt115.2.2.2.2.2.2).bind fun t130 => ((qzj.f k t127 t130).bind fun t133 => (if t133 = true then (if (t106.length : Int) = 0 then (some true) else ((qqq.f k 1 0 ([] : List ByteArray) 1 (⟨#[]⟩ : ByteArray) t101 (([(⟨t102,t105,t106⟩ : S82)] : List (S82)))).bind fun t137 => ((qzw.f k t137 7).bind fun t140 => (some t140)))) else (none)))))))) = some r := by rw [if_pos rfl] at H;exact H
   clear H
   have H := H1
   clear H1
   replace H := Option.bind_eq_some_iff.mp H
   obtain ⟨t114,A80,H⟩ := H
   replace H : (if (t114 != (decide ((t106.length : Int) > 0))) = true then (none) else ((qzk.f k l0).bind fun bt115 => ((qqq.f k bt115.1 bt115.2.1 bt115.2.2.1 bt115.2.2.2.1 bt115.2.2.2.2.1 bt115.2.2.2.2.2.1 bt115.2.2.2.2.2.2).bind fun t127 => ((qjq.f k bt115.1 bt115.2.1 bt115.2.2.1 bt115.2.2.2.1 bt115.2.2.2.2.1 bt115.2.2.2.2.2.1 bt115.2.2.2.2.2.2).bind fun t130 => ((qzj.f k t127 t130).bind fun t133 => (if t133 = true then (if (t106.length : Int) = 0 then (some true) else ((qqq.f k 1 0 ([] : List ByteArray) 1 (⟨#[]⟩ : ByteArray) t101 (([(⟨t102,t105,t106⟩ : S82)] : List (S82)))).bind fun t137 => ((qzw.f k t137 7).bind fun t140 => (some t140)))) else (none))))))) = some r := H
   have A8 := qq.mk A80
   clear A80
   by_cases c9 : (t114 != (decide ((t106.length : Int) > 0))) = true
   ·rw [if_pos c9] at H
    exact absurd H (by simp)
   ·rw [if_neg c9] at H
    have c9b0 : (t114 != (decide ((t106.length : Int) > 0))) = false := by simpa using c9
    (try (have c9b1 : decide (t114 = (decide ((t106.length : Int) > 0))) = true := by simpa using c9))
    (try (have c9b2 : (t114 == (decide ((t106.length : Int) > 0))) = true := by simpa using c9))
    have c9b3 : (t114 == decide (0 < t106.length)) = true := by
     have e_ : decide ((t106.length : Int) > 0) = decide (0 < t106.length) := decide_eq_decide.mpr (by omega)
     rw [← e_];exact c9b2
    have c9b4 : (!t114 == decide (0 < t106.length)) = false := by rw [c9b3];rfl
    have c9b5 : (!(t114 == decide (0 < (t106.length : Int)))) = false := by rw [show decide (0 < (t106.length : Int)) = decide (0 < t106.length) from decide_eq_decide.mpr (by omega)];exact c9b4
    clear c9
    replace H := Option.bind_eq_some_iff.mp H
    obtain ⟨⟨t115,t116,t117,t120,t121,t122,t123⟩,A100,H⟩ := H
    replace H : ((qqq.f k t115 t116 t117 t120 t121 t122 t123).bind fun t127 => ((qjq.f k t115 t116 t117 t120 t121 t122 t123).bind fun t130 => ((qzj.f k t127 t130).bind fun t133 => (if t133 = true then (if (t106.length : Int) = 0 then (some true) else ((qqq.f k 1 0 ([] : List ByteArray) 1 (⟨#[]⟩ : ByteArray) t101 (([(⟨t102,t105,t106⟩ : S82)] : List (S82)))).bind fun t137 => ((qzw.f k t137 7).bind fun t140 => (some t140)))) else (none))))) = some r := H
    have A10 := qq.mk A100
    clear A100
    replace H := Option.bind_eq_some_iff.mp H
    obtain ⟨t127,A110,H⟩ := H
    replace H : ((qjq.f k t115 t116 t117 t120 t121 t122 t123).bind fun t130 => ((qzj.f k t127 t130).bind fun t133 => (if t133 = true then (if (t106.length : Int) = 0 then (some true) else ((qqq.f k 1 0 ([] : List ByteArray) 1 (⟨#[]⟩ : ByteArray) t101 (([(⟨t102,t105,t106⟩ : S82)] : List (S82)))).bind fun t137 => ((qzw.f k t137 7).bind fun t140 => (some t140)))) else (none)))) = some r := H
    have A11 := qq.mk A110
    clear A110
    replace H := Option.bind_eq_some_iff.mp H
    obtain ⟨t130,A120,H⟩ := H
    replace H : ((qzj.f k t127 t130).bind fun t133 => (if t133 = true then (if (t106.length : Int) = 0 then (some true) else ((qqq.f k 1 0 ([] : List ByteArray) 1 (⟨#[]⟩ : ByteArray) t101 (([(⟨t102,t105,t106⟩ : S82)] : List (S82)))).bind fun t137 => ((qzw.f k t137 7).bind fun t140 => (some t140)))) else (none))) = some r := H
    have A12 := qq.mk A120
    clear A120
    replace H := Option.bind_eq_some_iff.mp H
    obtain ⟨t133,A130,H⟩ := H
    replace H : (if t133 = true then (if (t106.length : Int) = 0 then (some true) else ((qqq.f k 1 0 ([] : List ByteArray) 1 (⟨#[]⟩ : ByteArray) t101 (([(⟨t102,t105,t106⟩ : S82)] : List (S82)))).bind fun t137 => ((qzw.f k t137 7).bind fun t140 => (some t140)))) else (none)) = some r := H
    have A13 := qq.mk A130
    clear A130
    by_cases c14 : t133 = true
    ·subst c14
     have H1 : (if (t106.length : Int) = 0 then (some true) else ((qqq.f k 1 0 ([] : List ByteArray) 1 (⟨#[]⟩ : ByteArray) t101 (([(⟨t102,t105,t106⟩ : S82)] : List (S82)))).bind fun t137 => ((qzw.f k t137 7).bind fun t140 => (some t140)))) = some r := by rw [if_pos rfl] at H;exact H
     clear H
     have H := H1
     clear H1
     by_cases c15 : (t106.length : Int) = 0
     ·rw [if_pos c15] at H
      have c15b0 : ((t106.length : Int) == 0) = true := beq_iff_eq.mpr c15
      have c15b1 : ((t106.length : Int) != 0) = false := bne_eq_false_iff_eq.mpr c15
      clear c15
      obtain rfl := Option.some.inj H
      go_enter Try.func8,Try.ntmps8
      go_wp2_with (first | ((with_reducible refine kj (f := 43) rfl ?_);refine goesL_ (some 18) rfl rfl Try.func43 (by kernel_rfl) rfl #[.slice A0 l0.length c0] rfl (by (try simp only [List.map_toArray,List.map_cons,List.map_nil]);first | done | rfl | (simp only [List.length_drop,List.length_take];rfl)) ?_;(with_reducible refine (qzv.calls k _ _ l0 t101 t102 t105 _ ?side1 ?side2 A3.out).mono ?_);(case side1 => repeat (first | exact HR0.out | (with_reducible refine Kd.C_alloc ?_ _) | (with_reducible refine Kd.C_drewN ?_ _) | (with_reducible refine Kd.C_drew ?_)));(case side2 => exact HC0.out);rintro e w16 ⟨v103,rfl,ho0,hb⟩;refine ⟨_,rfl,?_⟩;have n0_ := qq.mk (Kd.V_lower (Kd.V_mono (ok' := fun k_ => True) ho0 (fun k_ hk_ => trivial)) (zw (by repeat (first | (with_reducible first | exact HB.out | apply qj | apply qz | apply qk) | exact HB.out))));have n1_ := qq.mk (zv (by repeat (first | (with_reducible first | exact HB.out | apply qj | apply qz | apply qk) | exact HB.out)) hb);clear HB;have HO104 := n0_;have HB := n1_;clear n0_ n1_;(try clear hb);(try clear hb2);(try clear hk);(try clear hi);(try clear ho0);obtain ⟨Ao17,co17,eo17⟩ := Kd.V_slice HO104.out;subst eo17) | ((with_reducible refine kj (f := 44) rfl ?_);refine goesL_ (some 25) rfl rfl Try.func44 (by kernel_rfl) rfl #[.string t101,.slice Ao17 t102.length co17,.int .i64 t105] rfl (by (try simp only [List.map_toArray,List.map_cons,List.map_nil]);first | done | rfl | (simp only [List.length_drop,List.length_take];rfl)) ?_;(with_reducible refine (qqz.calls k t101 _ _ t102 t105 t106 _ ?side1 ?side2 A4.out).mono ?_);(case side1 => repeat (first | exact (Kd.V_reads' HO104.out).2.2 | (with_reducible refine Kd.C_alloc ?_ _) | (with_reducible refine Kd.C_drewN ?_ _) | (with_reducible refine Kd.C_drew ?_)));(case side2 => exact (Kd.V_reads' HO104.out).2.1);rintro e w18 ⟨v107,rfl,ho0,hb⟩;refine ⟨_,rfl,?_⟩;have n0_ := qq.mk (Kd.V_elder' (by (with_reducible repeat (first | apply Kd.wq | apply Kd.vx | apply Kd.wz));first | exact HO104.out | exact Kd.V_mono HO104.out (fun _ hk => by first | trivial | (simp_all;done) | grind)) (Kd.R_base ho0) hb);have n1_ := qq.mk (Kd.R_lower ho0 (zw (by repeat (first | (with_reducible first | exact HB.out | apply qj | apply qz | apply qk) | exact HB.out))));have n2_ := qq.mk (zv (by repeat (first | (with_reducible first | exact HB.out | apply qj | apply qz | apply qk) | exact HB.out)) hb);clear HO104;clear HB;have HO104 := n0_;have HO108 := n1_;have HB := n2_;clear n0_ n1_ n2_;(try clear hb);(try clear hb2);(try clear hk);(try clear hi);(try clear ho0)) | ((with_reducible refine kj (f := 46) rfl ?_);refine goesL_ (some 30) rfl rfl Try.func46 (by kernel_rfl) rfl #[.string t101,.slice Ao17 t102.length co17,.int .i64 t105] rfl (by (try simp only [List.map_toArray,List.map_cons,List.map_nil]);first | done | rfl | (simp only [List.length_drop,List.length_take];rfl)) ?_;(with_reducible refine (qjz.calls k t101 _ _ t102 t105 t109 _ ?side1 ?side2 A5.out).mono ?_);(case side1 => repeat (first | exact (Kd.V_reads' HO104.out).2.2 | (with_reducible refine Kd.C_alloc ?_ _) | (with_reducible refine Kd.C_drewN ?_ _) | (with_reducible refine Kd.C_drew ?_)));(case side2 => exact (Kd.V_reads' HO104.out).2.1);rintro e w19 ⟨v110,rfl,ho0,hb⟩;refine ⟨_,rfl,?_⟩;have n0_ := qq.mk (Kd.V_elder' (by (with_reducible repeat (first | apply Kd.wq | apply Kd.vx | apply Kd.wz));first | exact HO104.out | exact Kd.V_mono HO104.out (fun _ hk => by first | trivial | (simp_all;done) | grind)) (Kd.R_base ho0) hb);have n1_ := qq.mk (Kd.R_elder' (by (with_reducible repeat (first | apply Kd.jq | apply Kd.zx | apply Kd.jz));first | exact HO108.out | exact Kd.R_mono HO108.out (fun _ hk => by first | trivial | (simp_all;done) | grind)) (Kd.R_base ho0) hb);have n2_ := qq.mk (Kd.R_lower (Kd.R_new' ho0 (Kd.R_lt (by (with_reducible repeat (first | apply Kd.jq | apply Kd.zx | apply Kd.jz));first | exact HO108.out | exact Kd.R_mono HO108.out (fun _ hk => by first | trivial | (simp_all;done) | grind)))) (zw (by repeat (first | (with_reducible first | exact HB.out | apply qj | apply qz | apply qk) | exact HB.out))));have n3_ := qq.mk (zv (by repeat (first | (with_reducible first | exact HB.out | apply qj | apply qz | apply qk) | exact HB.out)) hb);clear HO104;clear HO108;clear HB;have HO104 := n0_;have HO108 := n1_;have HO111 := n2_;have HB := n3_;clear n0_ n1_ n2_ n3_;(try clear hb);(try clear hb2);(try clear hk);(try clear hi);(try clear ho0);obtain ⟨Ao20,co20,eo20⟩ := Kd.R_slice HO108.out;subst eo20;obtain ⟨Ao21,co21,eo21⟩ := Kd.R_slice HO111.out;subst eo21) | ((with_reducible refine kj (f := 45) rfl ?_);refine goesL_ (some 31) rfl rfl Try.func45 (by kernel_rfl) rfl #[.slice Ao20 t106.length co20,.slice Ao21 t109.length co21] rfl (by (try simp only [List.map_toArray,List.map_cons,List.map_nil]);first | done | rfl | (simp only [List.length_drop,List.length_take];rfl)) ?_;(with_reducible refine (qzz.calls _ _ t106 _ _ t109 true _ ?side1 ?side2 ?side3 ?side4 A6.out).mono ?_);(case side1 => repeat (first | exact (Kd.R_reads' HO108.out).2.2 | (with_reducible refine Kd.C_alloc ?_ _) | (with_reducible refine Kd.C_drewN ?_ _) | (with_reducible refine Kd.C_drew ?_)));(case side2 => exact (Kd.R_reads' HO108.out).2.1);(case side3 => repeat (first | exact (Kd.R_reads' HO111.out).2.2 | (with_reducible refine Kd.C_alloc ?_ _) | (with_reducible refine Kd.C_drewN ?_ _) | (with_reducible refine Kd.C_drew ?_)));(case side4 => exact (Kd.R_reads' HO111.out).2.1);rintro e w' ⟨rfl,⟨nd,rfl⟩⟩;refine ⟨_,rfl,?_⟩;(try (rw [drewN_self w19];generalize hq_ : World.drewN w19 _ = w19;have n0_ : qq (Kd.V (Kd.int .u8) 5 w19 w.heap.size (fun k_ => some k_ ≠ (.slice Ao20 t106.length co20 : Value).ownBlock ∧ some k_ ≠ (.slice Ao21 t109.length co21 : Value).ownBlock) (.slice Ao17 t102.length co17) t102) := ⟨by rw [← hq_];exact (by (with_reducible repeat (first | apply Kd.wq | apply Kd.vx | apply Kd.wz));exact Kd.V_mono HO104.out (fun _ hk => by first | exact ⟨hk.1.2,hk.2⟩ | trivial | (simp_all;done) | grind))⟩;have n1_ : qq (Kd.R (Kd.int .u8) 5 w19 w.heap.size (fun k_ => some k_ ≠ (.slice Ao21 t109.length co21 : Value).ownBlock) (.slice Ao20 t106.length co20) t106) := ⟨by rw [← hq_];exact (by (with_reducible repeat (first | apply Kd.jq | apply Kd.zx | apply Kd.jz));exact Kd.R_mono HO108.out (fun _ hk => by first | exact hk.2 | trivial | (simp_all;done) | grind))⟩;have n2_ : qq (Kd.R (Kd.int .u8) 5 w19 w.heap.size (fun k_ => some k_ ≠ (.slice Ao20 t106.length co20 : Value).ownBlock) (.slice Ao21 t109.length co21) t109) := ⟨by rw [← hq_];exact (by (with_reducible repeat (first | apply Kd.jq | apply Kd.zx | apply Kd.jz));exact Kd.R_mono HO111.out (fun _ hk => by first | exact hk.2 | trivial | (simp_all;done) | grind))⟩;have n3_ : qq (Below w.heap.size w w19) := ⟨by rw [← hq_];exact (by repeat (first | (with_reducible first | exact HB.out | apply qj | apply qz | apply qk) | exact HB.out))⟩;clear HO104 HO108 HO111 HB hq_;have HO104 := n0_;have HO108 := n1_;have HO111 := n2_;have HB := n3_;clear n0_ n1_ n2_ n3_))) | ((with_reducible refine gate_dst (N := 7) rfl ?_);refine box_event ?hg (N := 7) ?hd (cs := #[.slice none 0 0,.int .i64 0,.slice none 0 0]) (t := 82) ?hr ?_;(case hd => rfl);(case hg => rfl);(case hr => first | (go_simp;done) | (go_simp;rfl));intro gb113 hg w22 hbox hb;have n0_ := qq.mk (Kd.V_below (Kd.V_elderB (by (with_reducible repeat (first | apply Kd.wq | apply Kd.vx | apply Kd.wz));first | exact HO104.out | exact Kd.V_mono HO104.out (fun _ hk => by first | trivial | (simp_all;done) | grind)) gb113 (Nat.le_of_eq hg.symm)) hb);have n1_ := qq.mk (Kd.R_below (by (with_reducible repeat (first | apply Kd.jq | apply Kd.zx | apply Kd.jz));first | exact HO108.out | exact Kd.R_mono HO108.out (fun _ hk => by first | trivial | (simp_all;done) | grind)) hb);have n2_ := qq.mk (Kd.R_below (by (with_reducible repeat (first | apply Kd.jq | apply Kd.zx | apply Kd.jz));first | exact HO111.out | exact Kd.R_mono HO111.out (fun _ hk => by first | trivial | (simp_all;done) | grind)) hb);have n3_ := qq.mk (zv (by repeat (first | (with_reducible first | exact HB.out | apply qj | apply qz | apply qk) | exact HB.out)) hb);have n4_ := qq.mk (hbox);have n5_ := qq.mk ((by rw [hg];exact (zw (by repeat (first | (with_reducible first | exact HB.out | apply qj | apply qz | apply qk) | exact HB.out))) : w.heap.size ≤ gb113));have n6_ := qq.mk ((by rw [hg];exact (zw (by repeat (first | (with_reducible first | exact HB.out | apply qj | apply qz | apply qk) | exact HB.out))) : w.heap.size ≤ gb113));clear HO104;clear HO108;clear HO111;clear HB;have HO104 := n0_;have HO108 := n1_;have HO111 := n2_;have HB := n3_;have BK113 := n4_;have GW113 := n5_;have GE113 := n6_;clear n0_ n1_ n2_ n3_ n4_ n5_ n6_;clear hb hbox hg;have hcz23_0 : w22.cell? ⟨gb113,0,none⟩ = some (.slice none 0 0) := (qw BK113.out 0).trans rfl;have hcz23_1 : w22.cell? ⟨gb113,1,none⟩ = some (.int .i64 0) := (qw BK113.out 1).trans rfl;have hcz23_2 : w22.cell? ⟨gb113,2,none⟩ = some (.slice none 0 0) := (qw BK113.out 2).trans rfl;have hfz23_0 := qv BK113.out 0;have hfz23_1 := qv BK113.out 1;have hfz23_2 := qv BK113.out 2) | ((with_reducible refine kj (f := 47) rfl ?_);refine goesL_ (some 39) rfl rfl Try.func47 (by kernel_rfl) rfl #[.agg #[.slice Ao17 t102.length co17,.int .i64 t105,.slice Ao20 t106.length co20],.string t101] rfl (by (try simp only [List.map_toArray,List.map_cons,List.map_nil]);first | done | rfl | (simp only [List.length_drop,List.length_take];rfl)) ?_;(with_reducible refine (xx.calls k _ _ t102 t105 _ _ t106 t101 t114 _ ?side1 ?side2 ?side3 ?side4 A8.out).mono ?_);(case side1 => refine (Kd.V_reads' (e := 5) (base := w.heap.size) (ok := fun k_ => (((True ∧ some k_ ≠ (.slice Ao20 t106.length co20 : Value).ownBlock) ∧ some k_ ≠ (.slice Ao21 t109.length co21 : Value).ownBlock) ∧ k_ ≠ gb113)) (n := t102.length) (c := co17) ?_).2.2;exact (by (with_reducible repeat (first | apply Kd.wq | apply Kd.vx | apply Kd.wz));exact (Kd.V_mono (Kd.V_far (p := ⟨gb113,2,none⟩) (Kd.V_far (p := ⟨gb113,1,none⟩) (Kd.V_far (p := ⟨gb113,0,none⟩) (Kd.V_mono HO104.out (fun k_ hk => (⟨hk,by first | exact hk.2 | grind | (simp_all;done)⟩ : _ ∧ k_ ≠ gb113))) (fun _ hk => by first | exact hk.2 | trivial | (simp_all;done) | grind) (.slice Ao17 t102.length co17)) (fun _ hk => by first | exact hk.2 | trivial | (simp_all;done) | grind) (.int .i64 t105)) (fun _ hk => by first | exact hk.2 | trivial | (simp_all;done) | grind) (.slice Ao20 t106.length co20)) (fun _ h_ => by first | exact h_.1 | (simp_all;done) | grind))));(case side2 => exact (Kd.V_reads' HO104.out).2.1);(case side3 => refine (Kd.R_reads' (e := 5) (base := w.heap.size) (ok := fun k_ => (True ∧ some k_ ≠ (.slice Ao21 t109.length co21 : Value).ownBlock)) (n := t106.length) (c := co20) ?_).2.2;exact (by (with_reducible repeat (first | apply Kd.jq | apply Kd.zx | apply Kd.jz));exact (Kd.R_mono (Kd.R_far (p := ⟨gb113,2,none⟩) (Kd.R_far (p := ⟨gb113,1,none⟩) (Kd.R_far (p := ⟨gb113,0,none⟩) (Kd.R_types HO108.out BK113.out (by decide)) (fun _ hk => by first | exact hk.2 | trivial | (simp_all;done) | grind) (.slice Ao17 t102.length co17)) (fun _ hk => by first | exact hk.2 | trivial | (simp_all;done) | grind) (.int .i64 t105)) (fun _ hk => by first | exact hk.2 | trivial | (simp_all;done) | grind) (.slice Ao20 t106.length co20)) (fun _ h_ => by first | exact h_.1 | (simp_all;done) | grind))));(case side4 => exact (Kd.R_reads' HO108.out).2.1);rintro e w24 ⟨rfl,hb⟩;refine ⟨_,rfl,?_⟩;have n0_ := qq.mk (Kd.V_below (by (with_reducible repeat (first | apply Kd.wq | apply Kd.vx | apply Kd.wz));exact (Kd.V_mono (Kd.V_far (p := ⟨gb113,2,none⟩) (Kd.V_far (p := ⟨gb113,1,none⟩) (Kd.V_far (p := ⟨gb113,0,none⟩) (Kd.V_mono HO104.out (fun k_ hk => (⟨hk,by first | exact hk.2 | grind | (simp_all;done)⟩ : _ ∧ k_ ≠ gb113))) (fun _ hk => by first | exact hk.2 | trivial | (simp_all;done) | grind) (.slice Ao17 t102.length co17)) (fun _ hk => by first | exact hk.2 | trivial | (simp_all;done) | grind) (.int .i64 t105)) (fun _ hk => by first | exact hk.2 | trivial | (simp_all;done) | grind) (.slice Ao20 t106.length co20)) (fun _ h_ => by first | exact h_.1 | (simp_all;done) | grind))) hb);have n1_ := qq.mk (Kd.R_below (by (with_reducible repeat (first | apply Kd.jq | apply Kd.zx | apply Kd.jz));exact (Kd.R_mono (Kd.R_far (p := ⟨gb113,2,none⟩) (Kd.R_far (p := ⟨gb113,1,none⟩) (Kd.R_far (p := ⟨gb113,0,none⟩) (Kd.R_types HO108.out BK113.out (by decide)) (fun _ hk => by first | exact hk.2 | trivial | (simp_all;done) | grind) (.slice Ao17 t102.length co17)) (fun _ hk => by first | exact hk.2 | trivial | (simp_all;done) | grind) (.int .i64 t105)) (fun _ hk => by first | exact hk.2 | trivial | (simp_all;done) | grind) (.slice Ao20 t106.length co20)) (fun _ h_ => by first | exact h_.1 | (simp_all;done) | grind))) hb);have n2_ := qq.mk (Kd.R_below (by (with_reducible repeat (first | apply Kd.jq | apply Kd.zx | apply Kd.jz));exact (Kd.R_mono (Kd.R_far (p := ⟨gb113,2,none⟩) (Kd.R_far (p := ⟨gb113,1,none⟩) (Kd.R_far (p := ⟨gb113,0,none⟩) (Kd.R_types HO111.out BK113.out (by decide)) (fun _ hk => by first | exact hk.2 | trivial | (simp_all;done) | grind) (.slice Ao17 t102.length co17)) (fun _ hk => by first | exact hk.2 | trivial | (simp_all;done) | grind) (.int .i64 t105)) (fun _ hk => by first | exact hk.2 | trivial | (simp_all;done) | grind) (.slice Ao20 t106.length co20)) (fun _ h_ => by first | exact h_.1 | (simp_all;done) | grind))) hb);have n3_ := qq.mk (wj (g := gb113) (o := .cells #[.slice Ao17 t102.length co17,.int .i64 t105,.slice Ao20 t106.length co20] 82 (0,0)) (by (with_reducible repeat (first | refine zz ?_ _ | refine zj ?_ | refine zq ?_ _));refine blk_put (cs := #[.slice Ao17 t102.length co17,.int .i64 t105,.slice none 0 0]) ?_ 2 _ rfl;(with_reducible repeat (first | refine zz ?_ _ | refine zj ?_ | refine zq ?_ _));refine blk_put (cs := #[.slice Ao17 t102.length co17,.int .i64 0,.slice none 0 0]) ?_ 1 _ rfl;(with_reducible repeat (first | refine zz ?_ _ | refine zj ?_ | refine zq ?_ _));refine blk_put (cs := #[.slice none 0 0,.int .i64 0,.slice none 0 0]) ?_ 0 _ rfl;(with_reducible repeat (first | refine zz ?_ _ | refine zj ?_ | refine zq ?_ _));exact BK113.out) hb);have n4_ := qq.mk (zv (by repeat (first | (with_reducible first | exact HB.out | apply qj | apply qz | apply qk | refine qx ?_ GE113.out) | exact HB.out)) hb);clear HO104;clear HO108;clear HO111;clear BK113;clear HB;have HO104 := n0_;have HO108 := n1_;have HO111 := n2_;have BK113 := n3_;have HB := n4_;clear n0_ n1_ n2_ n3_ n4_;(try clear hb);(try clear hb2);(try clear hk);(try clear hi)) | ((with_reducible refine kj (f := 48) rfl ?_);refine goesL_ (some 46) rfl rfl Try.func48 (by kernel_rfl) rfl #[.slice A0 l0.length c0] rfl (by (try simp only [List.map_toArray,List.map_cons,List.map_nil]);first | done | rfl | (simp only [List.length_drop,List.length_take];rfl)) ?_;(with_reducible refine (qzk.calls k _ _ l0 t115 t116 t117 t120 t121 t122 t123 _ ?side1 ?side2 A10.out).mono ?_);(case side1 => repeat (first | exact (Kd.C_below HR0.out HB.out) | (with_reducible refine Kd.C_alloc ?_ _) | (with_reducible refine Kd.C_drewN ?_ _) | (with_reducible refine Kd.C_drew ?_)));(case side2 => exact HC0.out);rintro e w25 ⟨v118,v124,rfl,ho0,ho1,hb⟩;refine ⟨_,rfl,?_⟩;have n0_ := qq.mk (Kd.V_mono (Kd.V_told (Kd.V_told (Kd.V_old (by (with_reducible repeat (first | apply Kd.wq | apply Kd.vx | apply Kd.wz));first | exact HO104.out | exact Kd.V_mono HO104.out (fun _ hk => by first | trivial | (simp_all;done) | grind)) hb) (Kd.R_base ho0)) (by first | exact Kd.N_base ho1 | exact Kd.S_base ho1 | exact Kd.R_base ho1)) (fun _ h_ => by first | exact h_.1 | (simp_all;done) | grind));have n1_ := qq.mk (Kd.R_below (by (with_reducible repeat (first | apply Kd.jq | apply Kd.zx | apply Kd.jz));first | exact HO108.out | exact Kd.R_mono HO108.out (fun _ hk => by first | trivial | (simp_all;done) | grind)) hb);have n2_ := qq.mk (Kd.R_below (by (with_reducible repeat (first | apply Kd.jq | apply Kd.zx | apply Kd.jz));first | exact HO111.out | exact Kd.R_mono HO111.out (fun _ hk => by first | trivial | (simp_all;done) | grind)) hb);have n3_ := qq.mk (Kd.R_lower ho0 (zw (by repeat (first | (with_reducible first | exact HB.out | apply qj | apply qz | apply qk | refine qx ?_ GE113.out) | exact HB.out))));have n4_ := qq.mk (Kd.N_lower (Kd.N_mono (ok' := fun k_ => some k_ ≠ (v118 : Value).ownBlock ∧ some k_ ≠ (.slice Ao20 t106.length co20 : Value).ownBlock ∧ some k_ ≠ (.slice Ao21 t109.length co21 : Value).ownBlock ∧ k_ ≠ gb113) (Kd.S_N (Kd.S_bound (Kd.S_apart' ho1 (Kd.R_typed ho0) (by decide)))) (fun k_ hk_ => ⟨hk_.1.2,(Kd.fresh' (Kd.R_lt (by (with_reducible repeat (first | apply Kd.jq | apply Kd.zx | apply Kd.jz));first | exact HO108.out | exact Kd.R_mono HO108.out (fun _ hk => by first | trivial | (simp_all;done) | grind))) k_ hk_.2.1),(Kd.fresh' (Kd.R_lt (by (with_reducible repeat (first | apply Kd.jq | apply Kd.zx | apply Kd.jz));first | exact HO111.out | exact Kd.R_mono HO111.out (fun _ hk => by first | trivial | (simp_all;done) | grind))) k_ hk_.2.1),(Kd.freshB (g := gb113) (o := .cells #[.slice Ao17 t102.length co17,.int .i64 t105,.slice Ao20 t106.length co20] 82 (0,0)) (by (with_reducible repeat (first | refine zz ?_ _ | refine zj ?_ | refine zq ?_ _));exact BK113.out) k_ hk_.2.1)⟩)) (zw (by repeat (first | (with_reducible first | exact HB.out | apply qj | apply qz | apply qk | refine qx ?_ GE113.out) | exact HB.out))));have n5_ := qq.mk (wj (g := gb113) (o := .cells #[.slice Ao17 t102.length co17,.int .i64 t105,.slice Ao20 t106.length co20] 82 (0,0)) (by (with_reducible repeat (first | refine zz ?_ _ | refine zj ?_ | refine zq ?_ _));exact BK113.out) hb);have n6_ := qq.mk (zv (by repeat (first | (with_reducible first | exact HB.out | apply qj | apply qz | apply qk | refine qx ?_ GE113.out) | exact HB.out)) hb);clear HO104;clear HO108;clear HO111;clear BK113;clear HB;have HO104 := n0_;have HO108 := n1_;have HO111 := n2_;have HO119 := n3_;have HO125 := n4_;have BK113 := n5_;have HB := n6_;clear n0_ n1_ n2_ n3_ n4_ n5_ n6_;(try clear hb);(try clear hb2);(try clear hk);(try clear hi);(try clear ho0);(try clear ho1)) | ((with_reducible refine gate_dst (N := 8) rfl ?_);refine box_event ?hg (N := 8) ?hd (cs := #[.int .i64 0,.int .i64 0,.slice none 0 0,.int .i64 0]) (t := 53) ?hr ?_;(case hd => rfl);(case hg => rfl);(case hr => first | (go_simp;done) | (go_simp;rfl));intro gb126 hg w26 hbox hb;have n0_ := qq.mk (Kd.V_below (Kd.V_elderB (by (with_reducible repeat (first | apply Kd.wq | apply Kd.vx | apply Kd.wz));first | exact HO104.out | exact Kd.V_mono HO104.out (fun _ hk => by first | trivial | (simp_all;done) | grind)) gb126 (Nat.le_of_eq hg.symm)) hb);have n1_ := qq.mk (Kd.R_below (by (with_reducible repeat (first | apply Kd.jq | apply Kd.zx | apply Kd.jz));first | exact HO108.out | exact Kd.R_mono HO108.out (fun _ hk => by first | trivial | (simp_all;done) | grind)) hb);have n2_ := qq.mk (Kd.R_below (by (with_reducible repeat (first | apply Kd.jq | apply Kd.zx | apply Kd.jz));first | exact HO111.out | exact Kd.R_mono HO111.out (fun _ hk => by first | trivial | (simp_all;done) | grind)) hb);have n3_ := qq.mk (Kd.R_below (by (with_reducible repeat (first | apply Kd.jq | apply Kd.zx | apply Kd.jz));first | exact HO119.out | exact Kd.R_mono HO119.out (fun _ hk => by first | trivial | (simp_all;done) | grind)) hb);have n4_ := qq.mk (Kd.N_below (Kd.N_elderB (by (with_reducible repeat (first | apply Kd.vq | apply Kd.kx | apply Kd.vz));first | exact HO125.out | exact Kd.N_mono HO125.out (fun _ hk => by first | trivial | (simp_all;done) | grind)) gb126 (Nat.le_of_eq hg.symm)) hb);have n5_ := qq.mk (wj (g := gb113) (o := .cells #[.slice Ao17 t102.length co17,.int .i64 t105,.slice Ao20 t106.length co20] 82 (0,0)) (by (with_reducible repeat (first | refine zz ?_ _ | refine zj ?_ | refine zq ?_ _));exact BK113.out) hb);have n6_ := qq.mk (zv (by repeat (first | (with_reducible first | exact HB.out | apply qj | apply qz | apply qk | refine qx ?_ GE113.out) | exact HB.out)) hb);have n7_ := qq.mk (hbox);have n8_ := qq.mk ((by rw [hg];exact (zw (by repeat (first | (with_reducible first | exact HB.out | apply qj | apply qz | apply qk | refine qx ?_ GE113.out) | exact HB.out))) : w.heap.size ≤ gb126));have n9_ := qq.mk ((by rw [hg];exact (zw (by repeat (first | (with_reducible first | exact HB.out | apply qj | apply qz | apply qk | refine qx ?_ GE113.out) | exact HB.out))) : w.heap.size ≤ gb126));have n10_ := qq.mk ((by rw [hg];exact Nat.ne_of_lt (blk_lt (g := gb113) (o := .cells #[.slice Ao17 t102.length co17,.int .i64 t105,.slice Ao20 t106.length co20] 82 (0,0)) (by (with_reducible repeat (first | refine zz ?_ _ | refine zj ?_ | refine zq ?_ _));exact BK113.out)) : gb113 ≠ gb126));have n11_ := qq.mk ((by rw [hg];exact Nat.ne_of_gt (blk_lt (g := gb113) (o := .cells #[.slice Ao17 t102.length co17,.int .i64 t105,.slice Ao20 t106.length co20] 82 (0,0)) (by (with_reducible repeat (first | refine zz ?_ _ | refine zj ?_ | refine zq ?_ _));exact BK113.out)) : gb126 ≠ gb113));clear HO104;clear HO108;clear HO111;clear HO119;clear HO125;clear BK113;clear HB;have HO104 := n0_;have HO108 := n1_;have HO111 := n2_;have HO119 := n3_;have HO125 := n4_;have BK113 := n5_;have HB := n6_;have BK126 := n7_;have GW126 := n8_;have GE126 := n9_;have NB113_126 := n10_;have NB126_113 := n11_;clear n0_ n1_ n2_ n3_ n4_ n5_ n6_ n7_ n8_ n9_ n10_ n11_;clear hb hbox hg;have hnb27 := NB126_113.out;have hnc27 := NB113_126.out;have hcz28_0 : w26.cell? ⟨gb126,0,none⟩ = some (.int .i64 0) := (qw BK126.out 0).trans rfl;have hcz28_1 : w26.cell? ⟨gb126,1,none⟩ = some (.int .i64 0) := (qw BK126.out 1).trans rfl;have hcz28_2 : w26.cell? ⟨gb126,2,none⟩ = some (.slice none 0 0) := (qw BK126.out 2).trans rfl;have hcz28_3 : w26.cell? ⟨gb126,3,none⟩ = some (.int .i64 0) := (qw BK126.out 3).trans rfl;have hfz28_0 := qv BK126.out 0;have hfz28_1 := qv BK126.out 1;have hfz28_2 := qv BK126.out 2;have hfz28_3 := qv BK126.out 3;obtain ⟨Ao29,co29,eo29⟩ := Kd.R_slice HO119.out;subst eo29;obtain ⟨Ao30,co30,eo30⟩ := Kd.N_slice HO125.out;subst eo30) | ((with_reducible refine kj (f := 26) rfl ?_);refine goesL_ (some 55) rfl rfl Try.func26 (by kernel_rfl) rfl #[.agg #[.int .i64 t115,.int .i64 t116,.slice Ao29 t117.length co29,.int .i64 t120],.string t121,.string t122,.slice Ao30 t123.length co30] rfl (by (try simp only [List.map_toArray,List.map_cons,List.map_nil]);first | done | rfl | (simp only [List.length_drop,List.length_take];rfl)) ?_;(with_reducible refine (qqq.calls k t115 t116 _ _ t117 t120 t121 t122 _ _ t123 t127 _ ?tabw ?side1 ?side2 ?side3 ?side4 A11.out).mono ?_);(case tabw => repeat (first | exact HTAB.out | exact TabW_below HTAB.out HB.out | exact TabW_below HTAB.out (by repeat (first | (with_reducible first | exact HB.out | apply qj | apply qz | apply qk | refine qx ?_ GE113.out | refine qx ?_ GE126.out) | exact HB.out)) | (with_reducible refine TabW_drewN ?_ _) | (with_reducible refine TabW_drew ?_) | (with_reducible refine TabW_alloc ?_ _)));(case side1 => refine (Kd.R_reads' (e := 9) (base := w.heap.size) (ok := fun k_ => True) (n := t117.length) (c := co29) ?_).2.2;exact (by (with_reducible repeat (first | apply Kd.jq | apply Kd.zx | apply Kd.jz));exact (Kd.R_mono (Kd.R_far (p := ⟨gb126,3,none⟩) (Kd.R_far (p := ⟨gb126,2,none⟩) (Kd.R_far (p := ⟨gb126,1,none⟩) (Kd.R_far (p := ⟨gb126,0,none⟩) (Kd.R_types HO119.out BK126.out (by decide)) (fun _ hk => by first | exact hk.2 | trivial | (simp_all;done) | grind) (.int .i64 t115)) (fun _ hk => by first | exact hk.2 | trivial | (simp_all;done) | grind) (.int .i64 t116)) (fun _ hk => by first | exact hk.2 | trivial | (simp_all;done) | grind) (.slice Ao29 t117.length co29)) (fun _ hk => by first | exact hk.2 | trivial | (simp_all;done) | grind) (.int .i64 t120)) (fun _ h_ => by first | exact h_.1 | (simp_all;done) | grind))));(case side2 => exact (Kd.R_reads' HO119.out).2.1);(case side3 => refine (Kd.N_reads' (e := 82) (base := w.heap.size) (ok := fun k_ => ((some k_ ≠ (.slice Ao29 t117.length co29 : Value).ownBlock ∧ (some k_ ≠ (.slice Ao20 t106.length co20 : Value).ownBlock ∧ (some k_ ≠ (.slice Ao21 t109.length co21 : Value).ownBlock ∧ k_ ≠ gb113))) ∧ k_ ≠ gb126)) (n := t123.length) (c := co30) ?_).2.2;exact (by (with_reducible repeat (first | apply Kd.vq | apply Kd.kx | apply Kd.vz));exact (Kd.N_mono (Kd.N_far (p := ⟨gb126,3,none⟩) (Kd.N_far (p := ⟨gb126,2,none⟩) (Kd.N_far (p := ⟨gb126,1,none⟩) (Kd.N_far (p := ⟨gb126,0,none⟩) (Kd.N_mono HO125.out (fun k_ hk => (⟨hk,by first | exact hk.2 | grind | (simp_all;done)⟩ : _ ∧ k_ ≠ gb126))) (fun _ hk => by first | exact hk.2 | trivial | (simp_all;done) | grind) (.int .i64 t115)) (fun _ hk => by first | exact hk.2 | trivial | (simp_all;done) | grind) (.int .i64 t116)) (fun _ hk => by first | exact hk.2 | trivial | (simp_all;done) | grind) (.slice Ao29 t117.length co29)) (fun _ hk => by first | exact hk.2 | trivial | (simp_all;done) | grind) (.int .i64 t120)) (fun _ h_ => by first | exact h_.1 | (simp_all;done) | grind))));(case side4 => exact (Kd.N_reads' HO125.out).2.1);rintro e w31 ⟨v128,rfl,ho0,hb⟩;refine ⟨_,rfl,?_⟩;have n0_ := qq.mk (Kd.V_elder' (by (with_reducible repeat (first | apply Kd.wq | apply Kd.vx | apply Kd.wz));exact (Kd.V_mono (Kd.V_far (p := ⟨gb126,3,none⟩) (Kd.V_far (p := ⟨gb126,2,none⟩) (Kd.V_far (p := ⟨gb126,1,none⟩) (Kd.V_far (p := ⟨gb126,0,none⟩) (Kd.V_mono HO104.out (fun k_ hk => (⟨hk,by first | exact hk.2 | grind | (simp_all;done)⟩ : _ ∧ k_ ≠ gb126))) (fun _ hk => by first | exact hk.2 | trivial | (simp_all;done) | grind) (.int .i64 t115)) (fun _ hk => by first | exact hk.2 | trivial | (simp_all;done) | grind) (.int .i64 t116)) (fun _ hk => by first | exact hk.2 | trivial | (simp_all;done) | grind) (.slice Ao29 t117.length co29)) (fun _ hk => by first | exact hk.2 | trivial | (simp_all;done) | grind) (.int .i64 t120)) (fun _ h_ => by first | exact h_.1 | (simp_all;done) | grind))) (Kd.R_base ho0) hb);have n1_ := qq.mk (Kd.R_below (by (with_reducible repeat (first | apply Kd.jq | apply Kd.zx | apply Kd.jz));exact (Kd.R_mono (Kd.R_far (p := ⟨gb126,3,none⟩) (Kd.R_far (p := ⟨gb126,2,none⟩) (Kd.R_far (p := ⟨gb126,1,none⟩) (Kd.R_far (p := ⟨gb126,0,none⟩) (Kd.R_types HO108.out BK126.out (by decide)) (fun _ hk => by first | exact hk.2 | trivial | (simp_all;done) | grind) (.int .i64 t115)) (fun _ hk => by first | exact hk.2 | trivial | (simp_all;done) | grind) (.int .i64 t116)) (fun _ hk => by first | exact hk.2 | trivial | (simp_all;done) | grind) (.slice Ao29 t117.length co29)) (fun _ hk => by first | exact hk.2 | trivial | (simp_all;done) | grind) (.int .i64 t120)) (fun _ h_ => by first | exact h_.1 | (simp_all;done) | grind))) hb);have n2_ := qq.mk (Kd.R_below (by (with_reducible repeat (first | apply Kd.jq | apply Kd.zx | apply Kd.jz));exact (Kd.R_mono (Kd.R_far (p := ⟨gb126,3,none⟩) (Kd.R_far (p := ⟨gb126,2,none⟩) (Kd.R_far (p := ⟨gb126,1,none⟩) (Kd.R_far (p := ⟨gb126,0,none⟩) (Kd.R_types HO111.out BK126.out (by decide)) (fun _ hk => by first | exact hk.2 | trivial | (simp_all;done) | grind) (.int .i64 t115)) (fun _ hk => by first | exact hk.2 | trivial | (simp_all;done) | grind) (.int .i64 t116)) (fun _ hk => by first | exact hk.2 | trivial | (simp_all;done) | grind) (.slice Ao29 t117.length co29)) (fun _ hk => by first | exact hk.2 | trivial | (simp_all;done) | grind) (.int .i64 t120)) (fun _ h_ => by first | exact h_.1 | (simp_all;done) | grind))) hb);have n3_ := qq.mk (Kd.R_below (by (with_reducible repeat (first | apply Kd.jq | apply Kd.zx | apply Kd.jz));exact (Kd.R_mono (Kd.R_far (p := ⟨gb126,3,none⟩) (Kd.R_far (p := ⟨gb126,2,none⟩) (Kd.R_far (p := ⟨gb126,1,none⟩) (Kd.R_far (p := ⟨gb126,0,none⟩) (Kd.R_types HO119.out BK126.out (by decide)) (fun _ hk => by first | exact hk.2 | trivial | (simp_all;done) | grind) (.int .i64 t115)) (fun _ hk => by first | exact hk.2 | trivial | (simp_all;done) | grind) (.int .i64 t116)) (fun _ hk => by first | exact hk.2 | trivial | (simp_all;done) | grind) (.slice Ao29 t117.length co29)) (fun _ hk => by first | exact hk.2 | trivial | (simp_all;done) | grind) (.int .i64 t120)) (fun _ h_ => by first | exact h_.1 | (simp_all;done) | grind))) hb);have n4_ := qq.mk (Kd.N_elder' (by (with_reducible repeat (first | apply Kd.vq | apply Kd.kx | apply Kd.vz));exact (Kd.N_mono (Kd.N_far (p := ⟨gb126,3,none⟩) (Kd.N_far (p := ⟨gb126,2,none⟩) (Kd.N_far (p := ⟨gb126,1,none⟩) (Kd.N_far (p := ⟨gb126,0,none⟩) (Kd.N_mono HO125.out (fun k_ hk => (⟨hk,by first | exact hk.2 | grind | (simp_all;done)⟩ : _ ∧ k_ ≠ gb126))) (fun _ hk => by first | exact hk.2 | trivial | (simp_all;done) | grind) (.int .i64 t115)) (fun _ hk => by first | exact hk.2 | trivial | (simp_all;done) | grind) (.int .i64 t116)) (fun _ hk => by first | exact hk.2 | trivial | (simp_all;done) | grind) (.slice Ao29 t117.length co29)) (fun _ hk => by first | exact hk.2 | trivial | (simp_all;done) | grind) (.int .i64 t120)) (fun _ h_ => by first | exact h_.1 | (simp_all;done) | grind))) (Kd.R_base ho0) hb);have n5_ := qq.mk (Kd.R_lower ho0 (zw (by repeat (first | (with_reducible first | exact HB.out | apply qj | apply qz | apply qk | refine qx ?_ GE113.out | refine qx ?_ GE126.out) | exact HB.out))));have n6_ := qq.mk (wj (g := gb113) (o := .cells #[.slice Ao17 t102.length co17,.int .i64 t105,.slice Ao20 t106.length co20] 82 (0,0)) (by (with_reducible repeat (first | refine zz ?_ _ | refine zj ?_ | refine zq ?_ _));refine blk_far ?_ NB113_126.out _;(with_reducible repeat (first | refine zz ?_ _ | refine zj ?_ | refine zq ?_ _));refine blk_far ?_ NB113_126.out _;(with_reducible repeat (first | refine zz ?_ _ | refine zj ?_ | refine zq ?_ _));refine blk_far ?_ NB113_126.out _;(with_reducible repeat (first | refine zz ?_ _ | refine zj ?_ | refine zq ?_ _));refine blk_far ?_ NB113_126.out _;(with_reducible repeat (first | refine zz ?_ _ | refine zj ?_ | refine zq ?_ _));exact BK113.out) hb);have n7_ := qq.mk (wj (g := gb126) (o := .cells #[.int .i64 t115,.int .i64 t116,.slice Ao29 t117.length co29,.int .i64 t120] 53 (0,0)) (by (with_reducible repeat (first | refine zz ?_ _ | refine zj ?_ | refine zq ?_ _));refine blk_put (cs := #[.int .i64 t115,.int .i64 t116,.slice Ao29 t117.length co29,.int .i64 0]) ?_ 3 _ rfl;(with_reducible repeat (first | refine zz ?_ _ | refine zj ?_ | refine zq ?_ _));refine blk_put (cs := #[.int .i64 t115,.int .i64 t116,.slice none 0 0,.int .i64 0]) ?_ 2 _ rfl;(with_reducible repeat (first | refine zz ?_ _ | refine zj ?_ | refine zq ?_ _));refine blk_put (cs := #[.int .i64 t115,.int .i64 0,.slice none 0 0,.int .i64 0]) ?_ 1 _ rfl;(with_reducible repeat (first | refine zz ?_ _ | refine zj ?_ | refine zq ?_ _));refine blk_put (cs := #[.int .i64 0,.int .i64 0,.slice none 0 0,.int .i64 0]) ?_ 0 _ rfl;(with_reducible repeat (first | refine zz ?_ _ | refine zj ?_ | refine zq ?_ _));exact BK126.out) hb);have n8_ := qq.mk (zv (by repeat (first | (with_reducible first | exact HB.out | apply qj | apply qz | apply qk | refine qx ?_ GE113.out | refine qx ?_ GE126.out) | exact HB.out)) hb);clear HO104;clear HO108;clear HO111;clear HO119;clear HO125;clear BK113;clear BK126;clear HB;have HO104 := n0_;have HO108 := n1_;have HO111 := n2_;have HO119 := n3_;have HO125 := n4_;have HO129 := n5_;have BK113 := n6_;have BK126 := n7_;have HB := n8_;clear n0_ n1_ n2_ n3_ n4_ n5_ n6_ n7_ n8_;(try clear hb);(try clear hb2);(try clear hk);(try clear hi);(try clear ho0);have hcz32_0 : w31.cell? ⟨gb126,0,none⟩ = some (.int .i64 t115) := (qw BK126.out 0).trans rfl;have hcz32_1 : w31.cell? ⟨gb126,1,none⟩ = some (.int .i64 t116) := (qw BK126.out 1).trans rfl;have hcz32_2 : w31.cell? ⟨gb126,2,none⟩ = some (.slice Ao29 t117.length co29) := (qw BK126.out 2).trans rfl;have hcz32_3 : w31.cell? ⟨gb126,3,none⟩ = some (.int .i64 t120) := (qw BK126.out 3).trans rfl;have hfz32_0 := qv BK126.out 0;have hfz32_1 := qv BK126.out 1;have hfz32_2 := qv BK126.out 2;have hfz32_3 := qv BK126.out 3) | ((with_reducible refine kj (f := 23) rfl ?_);refine goesL_ (some 61) rfl rfl Try.func23 (by kernel_rfl) rfl #[.agg #[.int .i64 t115,.int .i64 t116,.slice Ao29 t117.length co29,.int .i64 t120],.string t121,.string t122,.slice Ao30 t123.length co30] rfl (by (try simp only [List.map_toArray,List.map_cons,List.map_nil]);first | done | rfl | (simp only [List.length_drop,List.length_take];rfl)) ?_;(with_reducible refine (qjq.calls k t115 t116 _ _ t117 t120 t121 t122 _ _ t123 t130 _ ?side1 ?side2 ?side3 ?side4 A12.out).mono ?_);(case side1 => repeat (first | exact (Kd.R_reads' HO119.out).2.2 | (with_reducible refine Kd.C_alloc ?_ _) | (with_reducible refine Kd.C_drewN ?_ _) | (with_reducible refine Kd.C_drew ?_)));(case side2 => exact (Kd.R_reads' HO119.out).2.1);(case side3 => repeat (first | exact (Kd.N_reads' HO125.out).2.2 | (with_reducible refine Kd.C_alloc ?_ _) | (with_reducible refine Kd.C_drewN ?_ _) | (with_reducible refine Kd.C_drew ?_)));(case side4 => exact (Kd.N_reads' HO125.out).2.1);rintro e w33 ⟨v131,rfl,ho0,hb⟩;refine ⟨_,rfl,?_⟩;have n0_ := qq.mk (Kd.V_elder' (by (with_reducible repeat (first | apply Kd.wq | apply Kd.vx | apply Kd.wz));first | exact HO104.out | exact Kd.V_mono HO104.out (fun _ hk => by first | trivial | (simp_all;done) | grind)) (Kd.R_base ho0) hb);have n1_ := qq.mk (Kd.R_below (by (with_reducible repeat (first | apply Kd.jq | apply Kd.zx | apply Kd.jz));first | exact HO108.out | exact Kd.R_mono HO108.out (fun _ hk => by first | trivial | (simp_all;done) | grind)) hb);have n2_ := qq.mk (Kd.R_below (by (with_reducible repeat (first | apply Kd.jq | apply Kd.zx | apply Kd.jz));first | exact HO111.out | exact Kd.R_mono HO111.out (fun _ hk => by first | trivial | (simp_all;done) | grind)) hb);have n3_ := qq.mk (Kd.R_below (by (with_reducible repeat (first | apply Kd.jq | apply Kd.zx | apply Kd.jz));first | exact HO119.out | exact Kd.R_mono HO119.out (fun _ hk => by first | trivial | (simp_all;done) | grind)) hb);have n4_ := qq.mk (Kd.N_elder' (by (with_reducible repeat (first | apply Kd.vq | apply Kd.kx | apply Kd.vz));first | exact HO125.out | exact Kd.N_mono HO125.out (fun _ hk => by first | trivial | (simp_all;done) | grind)) (Kd.R_base ho0) hb);have n5_ := qq.mk (Kd.R_elder' (by (with_reducible repeat (first | apply Kd.jq | apply Kd.zx | apply Kd.jz));first | exact HO129.out | exact Kd.R_mono HO129.out (fun _ hk => by first | trivial | (simp_all;done) | grind)) (Kd.R_base ho0) hb);have n6_ := qq.mk (Kd.R_lower (Kd.R_new' ho0 (Kd.R_lt (by (with_reducible repeat (first | apply Kd.jq | apply Kd.zx | apply Kd.jz));first | exact HO129.out | exact Kd.R_mono HO129.out (fun _ hk => by first | trivial | (simp_all;done) | grind)))) (zw (by repeat (first | (with_reducible first | exact HB.out | apply qj | apply qz | apply qk | refine qx ?_ GE113.out | refine qx ?_ GE126.out) | exact HB.out))));have n7_ := qq.mk (wj (g := gb113) (o := .cells #[.slice Ao17 t102.length co17,.int .i64 t105,.slice Ao20 t106.length co20] 82 (0,0)) (by (with_reducible repeat (first | refine zz ?_ _ | refine zj ?_ | refine zq ?_ _));exact BK113.out) hb);have n8_ := qq.mk (wj (g := gb126) (o := .cells #[.int .i64 t115,.int .i64 t116,.slice Ao29 t117.length co29,.int .i64 t120] 53 (0,0)) (by (with_reducible repeat (first | refine zz ?_ _ | refine zj ?_ | refine zq ?_ _));exact BK126.out) hb);have n9_ := qq.mk (zv (by repeat (first | (with_reducible first | exact HB.out | apply qj | apply qz | apply qk | refine qx ?_ GE113.out | refine qx ?_ GE126.out) | exact HB.out)) hb);clear HO104;clear HO108;clear HO111;clear HO119;clear HO125;clear HO129;clear BK113;clear BK126;clear HB;have HO104 := n0_;have HO108 := n1_;have HO111 := n2_;have HO119 := n3_;have HO125 := n4_;have HO129 := n5_;have HO132 := n6_;have BK113 := n7_;have BK126 := n8_;have HB := n9_;clear n0_ n1_ n2_ n3_ n4_ n5_ n6_ n7_ n8_ n9_;(try clear hb);(try clear hb2);(try clear hk);(try clear hi);(try clear ho0);obtain ⟨Ao34,co34,eo34⟩ := Kd.R_slice HO129.out;subst eo34;obtain ⟨Ao35,co35,eo35⟩ := Kd.R_slice HO132.out;subst eo35) | ((with_reducible refine kj (f := 36) rfl ?_);refine goesL_ (some 62) rfl rfl Try.func36 (by kernel_rfl) rfl #[.slice Ao34 t127.length co34,.slice Ao35 t130.length co35] rfl (by (try simp only [List.map_toArray,List.map_cons,List.map_nil]);first | done | rfl | (simp only [List.length_drop,List.length_take];rfl)) ?_;(with_reducible refine (qzj.calls k _ _ t127 _ _ t130 true _ ?side1 ?side2 ?side3 ?side4 A13.out).mono ?_);(case side1 => repeat (first | exact (Kd.R_reads' HO129.out).2.2 | (with_reducible refine Kd.C_alloc ?_ _) | (with_reducible refine Kd.C_drewN ?_ _) | (with_reducible refine Kd.C_drew ?_)));(case side2 => exact (Kd.R_reads' HO129.out).2.1);(case side3 => repeat (first | exact (Kd.R_reads' HO132.out).2.2 | (with_reducible refine Kd.C_alloc ?_ _) | (with_reducible refine Kd.C_drewN ?_ _) | (with_reducible refine Kd.C_drew ?_)));(case side4 => exact (Kd.R_reads' HO132.out).2.1);rintro e w' ⟨rfl,⟨nd,rfl⟩⟩;refine ⟨_,rfl,?_⟩))
      go_ret
      exact ⟨by first | rfl | (simp [*,kz,jx] <;> rfl),by repeat (first | (with_reducible first | exact HB.out | apply qj | apply qz | apply qk | refine qx ?_ GE113.out | refine qx ?_ GE126.out) | exact HB.out)⟩
     ·rw [if_neg c15] at H
      have c15b0 : ((t106.length : Int) == 0) = false := beq_eq_false_iff_ne.mpr c15
      have c15b1 : ((t106.length : Int) != 0) = true := bne_iff_ne.mpr c15
      have c15b2 : ¬ (t106 = []) := fun h_ => c15 (by rw [h_];rfl)
      obtain ⟨y134,hy134⟩ : ∃ y_ : List (S82),y_ = (([(⟨t102,t105,t106⟩ : S82)] : List (S82))) := ⟨_,rfl⟩
      replace H : ((qqq.f k 1 0 ([] : List ByteArray) 1 (⟨#[]⟩ : ByteArray) t101 y134).bind fun t137 => ((qzw.f k t137 7).bind fun t140 => (some t140))) = some r := by first | (rw [hy134];with_reducible exact H) | (have H2_ := (Option.bind_some _ _).symm.trans H;rw [hy134];with_reducible exact H2_) | (have H2_ := (Option.bind_some _ _).symm.trans H;with_reducible exact H2_) | with_reducible exact H | (rw [hy134];exact H) | exact H
      have Ny134 := qq.mk hy134
      clear hy134
      replace H := Option.bind_eq_some_iff.mp H
      obtain ⟨t137,A360,H⟩ := H
      replace H : ((qzw.f k t137 7).bind fun t140 => (some t140)) = some r := H
      have A36 := qq.mk A360
      clear A360
      replace H := Option.bind_eq_some_iff.mp H
      obtain ⟨t140,A370,H⟩ := H
      replace H : (some t140) = some r := H
      have A37 := qq.mk A370
      clear A370
      obtain rfl := Option.some.inj H
      go_enter Try.func8,Try.ntmps8
      go_wp2_with (first | ((with_reducible refine kj (f := 43) rfl ?_);refine goesL_ (some 18) rfl rfl Try.func43 (by kernel_rfl) rfl #[.slice A0 l0.length c0] rfl (by (try simp only [List.map_toArray,List.map_cons,List.map_nil]);first | done | rfl | (simp only [List.length_drop,List.length_take];rfl)) ?_;(with_reducible refine (qzv.calls k _ _ l0 t101 t102 t105 _ ?side1 ?side2 A3.out).mono ?_);(case side1 => repeat (first | exact HR0.out | (with_reducible refine Kd.C_alloc ?_ _) | (with_reducible refine Kd.C_drewN ?_ _) | (with_reducible refine Kd.C_drew ?_)));(case side2 => exact HC0.out);rintro e w38 ⟨v103,rfl,ho0,hb⟩;refine ⟨_,rfl,?_⟩;have n0_ := qq.mk (Kd.V_lower (Kd.V_mono (ok' := fun k_ => True) ho0 (fun k_ hk_ => trivial)) (zw (by repeat (first | (with_reducible first | exact HB.out | apply qj | apply qz | apply qk) | exact HB.out))));have n1_ := qq.mk (zv (by repeat (first | (with_reducible first | exact HB.out | apply qj | apply qz | apply qk) | exact HB.out)) hb);clear HB;have HO104 := n0_;have HB := n1_;clear n0_ n1_;(try clear hb);(try clear hb2);(try clear hk);(try clear hi);(try clear ho0);obtain ⟨Ao39,co39,eo39⟩ := Kd.V_slice HO104.out;subst eo39) | ((with_reducible refine kj (f := 44) rfl ?_);refine goesL_ (some 25) rfl rfl Try.func44 (by kernel_rfl) rfl #[.string t101,.slice Ao39 t102.length co39,.int .i64 t105] rfl (by (try simp only [List.map_toArray,List.map_cons,List.map_nil]);first | done | rfl | (simp only [List.length_drop,List.length_take];rfl)) ?_;(with_reducible refine (qqz.calls k t101 _ _ t102 t105 t106 _ ?side1 ?side2 A4.out).mono ?_);(case side1 => repeat (first | exact (Kd.V_reads' HO104.out).2.2 | (with_reducible refine Kd.C_alloc ?_ _) | (with_reducible refine Kd.C_drewN ?_ _) | (with_reducible refine Kd.C_drew ?_)));(case side2 => exact (Kd.V_reads' HO104.out).2.1);rintro e w40 ⟨v107,rfl,ho0,hb⟩;refine ⟨_,rfl,?_⟩;have n0_ := qq.mk (Kd.V_elder' (by (with_reducible repeat (first | apply Kd.wq | apply Kd.vx | apply Kd.wz));first | exact HO104.out | exact Kd.V_mono HO104.out (fun _ hk => by first | trivial | (simp_all;done) | grind)) (Kd.R_base ho0) hb);have n1_ := qq.mk (Kd.R_lower ho0 (zw (by repeat (first | (with_reducible first | exact HB.out | apply qj | apply qz | apply qk) | exact HB.out))));have n2_ := qq.mk (zv (by repeat (first | (with_reducible first | exact HB.out | apply qj | apply qz | apply qk) | exact HB.out)) hb);clear HO104;clear HB;have HO104 := n0_;have HO108 := n1_;have HB := n2_;clear n0_ n1_ n2_;(try clear hb);(try clear hb2);(try clear hk);(try clear hi);(try clear ho0)) | ((with_reducible refine kj (f := 46) rfl ?_);refine goesL_ (some 30) rfl rfl Try.func46 (by kernel_rfl) rfl #[.string t101,.slice Ao39 t102.length co39,.int .i64 t105] rfl (by (try simp only [List.map_toArray,List.map_cons,List.map_nil]);first | done | rfl | (simp only [List.length_drop,List.length_take];rfl)) ?_;(with_reducible refine (qjz.calls k t101 _ _ t102 t105 t109 _ ?side1 ?side2 A5.out).mono ?_);(case side1 => repeat (first | exact (Kd.V_reads' HO104.out).2.2 | (with_reducible refine Kd.C_alloc ?_ _) | (with_reducible refine Kd.C_drewN ?_ _) | (with_reducible refine Kd.C_drew ?_)));(case side2 => exact (Kd.V_reads' HO104.out).2.1);rintro e w41 ⟨v110,rfl,ho0,hb⟩;refine ⟨_,rfl,?_⟩;have n0_ := qq.mk (Kd.V_elder' (by (with_reducible repeat (first | apply Kd.wq | apply Kd.vx | apply Kd.wz));first | exact HO104.out | exact Kd.V_mono HO104.out (fun _ hk => by first | trivial | (simp_all;done) | grind)) (Kd.R_base ho0) hb);have n1_ := qq.mk (Kd.R_elder' (by (with_reducible repeat (first | apply Kd.jq | apply Kd.zx | apply Kd.jz));first | exact HO108.out | exact Kd.R_mono HO108.out (fun _ hk => by first | trivial | (simp_all;done) | grind)) (Kd.R_base ho0) hb);have n2_ := qq.mk (Kd.R_lower (Kd.R_new' ho0 (Kd.R_lt (by (with_reducible repeat (first | apply Kd.jq | apply Kd.zx | apply Kd.jz));first | exact HO108.out | exact Kd.R_mono HO108.out (fun _ hk => by first | trivial | (simp_all;done) | grind)))) (zw (by repeat (first | (with_reducible first | exact HB.out | apply qj | apply qz | apply qk) | exact HB.out))));have n3_ := qq.mk (zv (by repeat (first | (with_reducible first | exact HB.out | apply qj | apply qz | apply qk) | exact HB.out)) hb);clear HO104;clear HO108;clear HB;have HO104 := n0_;have HO108 := n1_;have HO111 := n2_;have HB := n3_;clear n0_ n1_ n2_ n3_;(try clear hb);(try clear hb2);(try clear hk);(try clear hi);(try clear ho0);obtain ⟨Ao42,co42,eo42⟩ := Kd.R_slice HO108.out;subst eo42;obtain ⟨Ao43,co43,eo43⟩ := Kd.R_slice HO111.out;subst eo43) | ((with_reducible refine kj (f := 45) rfl ?_);refine goesL_ (some 31) rfl rfl Try.func45 (by kernel_rfl) rfl #[.slice Ao42 t106.length co42,.slice Ao43 t109.length co43] rfl (by (try simp only [List.map_toArray,List.map_cons,List.map_nil]);first | done | rfl | (simp only [List.length_drop,List.length_take];rfl)) ?_;(with_reducible refine (qzz.calls _ _ t106 _ _ t109 true _ ?side1 ?side2 ?side3 ?side4 A6.out).mono ?_);(case side1 => repeat (first | exact (Kd.R_reads' HO108.out).2.2 | (with_reducible refine Kd.C_alloc ?_ _) | (with_reducible refine Kd.C_drewN ?_ _) | (with_reducible refine Kd.C_drew ?_)));(case side2 => exact (Kd.R_reads' HO108.out).2.1);(case side3 => repeat (first | exact (Kd.R_reads' HO111.out).2.2 | (with_reducible refine Kd.C_alloc ?_ _) | (with_reducible refine Kd.C_drewN ?_ _) | (with_reducible refine Kd.C_drew ?_)));(case side4 => exact (Kd.R_reads' HO111.out).2.1);rintro e w' ⟨rfl,⟨nd,rfl⟩⟩;refine ⟨_,rfl,?_⟩;(try (rw [drewN_self w41];generalize hq_ : World.drewN w41 _ = w41;have n0_ : qq (Kd.V (Kd.int .u8) 5 w41 w.heap.size (fun k_ => some k_ ≠ (.slice Ao42 t106.length co42 : Value).ownBlock ∧ some k_ ≠ (.slice Ao43 t109.length co43 : Value).ownBlock) (.slice Ao39 t102.length co39) t102) := ⟨by rw [← hq_];exact (by (with_reducible repeat (first | apply Kd.wq | apply Kd.vx | apply Kd.wz));exact Kd.V_mono HO104.out (fun _ hk => by first | exact ⟨hk.1.2,hk.2⟩ | trivial | (simp_all;done) | grind))⟩;have n1_ : qq (Kd.R (Kd.int .u8) 5 w41 w.heap.size (fun k_ => some k_ ≠ (.slice Ao43 t109.length co43 : Value).ownBlock) (.slice Ao42 t106.length co42) t106) := ⟨by rw [← hq_];exact (by (with_reducible repeat (first | apply Kd.jq | apply Kd.zx | apply Kd.jz));exact Kd.R_mono HO108.out (fun _ hk => by first | exact hk.2 | trivial | (simp_all;done) | grind))⟩;have n2_ : qq (Kd.R (Kd.int .u8) 5 w41 w.heap.size (fun k_ => some k_ ≠ (.slice Ao42 t106.length co42 : Value).ownBlock) (.slice Ao43 t109.length co43) t109) := ⟨by rw [← hq_];exact (by (with_reducible repeat (first | apply Kd.jq | apply Kd.zx | apply Kd.jz));exact Kd.R_mono HO111.out (fun _ hk => by first | exact hk.2 | trivial | (simp_all;done) | grind))⟩;have n3_ : qq (Below w.heap.size w w41) := ⟨by rw [← hq_];exact (by repeat (first | (with_reducible first | exact HB.out | apply qj | apply qz | apply qk) | exact HB.out))⟩;clear HO104 HO108 HO111 HB hq_;have HO104 := n0_;have HO108 := n1_;have HO111 := n2_;have HB := n3_;clear n0_ n1_ n2_ n3_))) | ((with_reducible refine gate_dst (N := 7) rfl ?_);refine box_event ?hg (N := 7) ?hd (cs := #[.slice none 0 0,.int .i64 0,.slice none 0 0]) (t := 82) ?hr ?_;(case hd => rfl);(case hg => rfl);(case hr => first | (go_simp;done) | (go_simp;rfl));intro gb113 hg w44 hbox hb;have n0_ := qq.mk (Kd.V_below (Kd.V_elderB (by (with_reducible repeat (first | apply Kd.wq | apply Kd.vx | apply Kd.wz));first | exact HO104.out | exact Kd.V_mono HO104.out (fun _ hk => by first | trivial | (simp_all;done) | grind)) gb113 (Nat.le_of_eq hg.symm)) hb);have n1_ := qq.mk (Kd.R_below (by (with_reducible repeat (first | apply Kd.jq | apply Kd.zx | apply Kd.jz));first | exact HO108.out | exact Kd.R_mono HO108.out (fun _ hk => by first | trivial | (simp_all;done) | grind)) hb);have n2_ := qq.mk (Kd.R_below (by (with_reducible repeat (first | apply Kd.jq | apply Kd.zx | apply Kd.jz));first | exact HO111.out | exact Kd.R_mono HO111.out (fun _ hk => by first | trivial | (simp_all;done) | grind)) hb);have n3_ := qq.mk (zv (by repeat (first | (with_reducible first | exact HB.out | apply qj | apply qz | apply qk) | exact HB.out)) hb);have n4_ := qq.mk (hbox);have n5_ := qq.mk ((by rw [hg];exact (zw (by repeat (first | (with_reducible first | exact HB.out | apply qj | apply qz | apply qk) | exact HB.out))) : w.heap.size ≤ gb113));have n6_ := qq.mk ((by rw [hg];exact (zw (by repeat (first | (with_reducible first | exact HB.out | apply qj | apply qz | apply qk) | exact HB.out))) : w.heap.size ≤ gb113));clear HO104;clear HO108;clear HO111;clear HB;have HO104 := n0_;have HO108 := n1_;have HO111 := n2_;have HB := n3_;have BK113 := n4_;have GW113 := n5_;have GE113 := n6_;clear n0_ n1_ n2_ n3_ n4_ n5_ n6_;clear hb hbox hg;have hcz45_0 : w44.cell? ⟨gb113,0,none⟩ = some (.slice none 0 0) := (qw BK113.out 0).trans rfl;have hcz45_1 : w44.cell? ⟨gb113,1,none⟩ = some (.int .i64 0) := (qw BK113.out 1).trans rfl;have hcz45_2 : w44.cell? ⟨gb113,2,none⟩ = some (.slice none 0 0) := (qw BK113.out 2).trans rfl;have hfz45_0 := qv BK113.out 0;have hfz45_1 := qv BK113.out 1;have hfz45_2 := qv BK113.out 2) | ((with_reducible refine kj (f := 47) rfl ?_);refine goesL_ (some 39) rfl rfl Try.func47 (by kernel_rfl) rfl #[.agg #[.slice Ao39 t102.length co39,.int .i64 t105,.slice Ao42 t106.length co42],.string t101] rfl (by (try simp only [List.map_toArray,List.map_cons,List.map_nil]);first | done | rfl | (simp only [List.length_drop,List.length_take];rfl)) ?_;(with_reducible refine (xx.calls k _ _ t102 t105 _ _ t106 t101 t114 _ ?side1 ?side2 ?side3 ?side4 A8.out).mono ?_);(case side1 => refine (Kd.V_reads' (e := 5) (base := w.heap.size) (ok := fun k_ => (((True ∧ some k_ ≠ (.slice Ao42 t106.length co42 : Value).ownBlock) ∧ some k_ ≠ (.slice Ao43 t109.length co43 : Value).ownBlock) ∧ k_ ≠ gb113)) (n := t102.length) (c := co39) ?_).2.2;exact (by (with_reducible repeat (first | apply Kd.wq | apply Kd.vx | apply Kd.wz));exact (Kd.V_mono (Kd.V_far (p := ⟨gb113,2,none⟩) (Kd.V_far (p := ⟨gb113,1,none⟩) (Kd.V_far (p := ⟨gb113,0,none⟩) (Kd.V_mono HO104.out (fun k_ hk => (⟨hk,by first | exact hk.2 | grind | (simp_all;done)⟩ : _ ∧ k_ ≠ gb113))) (fun _ hk => by first | exact hk.2 | trivial | (simp_all;done) | grind) (.slice Ao39 t102.length co39)) (fun _ hk => by first | exact hk.2 | trivial | (simp_all;done) | grind) (.int .i64 t105)) (fun _ hk => by first | exact hk.2 | trivial | (simp_all;done) | grind) (.slice Ao42 t106.length co42)) (fun _ h_ => by first | exact h_.1 | (simp_all;done) | grind))));(case side2 => exact (Kd.V_reads' HO104.out).2.1);(case side3 => refine (Kd.R_reads' (e := 5) (base := w.heap.size) (ok := fun k_ => (True ∧ some k_ ≠ (.slice Ao43 t109.length co43 : Value).ownBlock)) (n := t106.length) (c := co42) ?_).2.2;exact (by (with_reducible repeat (first | apply Kd.jq | apply Kd.zx | apply Kd.jz));exact (Kd.R_mono (Kd.R_far (p := ⟨gb113,2,none⟩) (Kd.R_far (p := ⟨gb113,1,none⟩) (Kd.R_far (p := ⟨gb113,0,none⟩) (Kd.R_types HO108.out BK113.out (by decide)) (fun _ hk => by first | exact hk.2 | trivial | (simp_all;done) | grind) (.slice Ao39 t102.length co39)) (fun _ hk => by first | exact hk.2 | trivial | (simp_all;done) | grind) (.int .i64 t105)) (fun _ hk => by first | exact hk.2 | trivial | (simp_all;done) | grind) (.slice Ao42 t106.length co42)) (fun _ h_ => by first | exact h_.1 | (simp_all;done) | grind))));(case side4 => exact (Kd.R_reads' HO108.out).2.1);rintro e w46 ⟨rfl,hb⟩;refine ⟨_,rfl,?_⟩;have n0_ := qq.mk (Kd.V_below (by (with_reducible repeat (first | apply Kd.wq | apply Kd.vx | apply Kd.wz));exact (Kd.V_mono (Kd.V_far (p := ⟨gb113,2,none⟩) (Kd.V_far (p := ⟨gb113,1,none⟩) (Kd.V_far (p := ⟨gb113,0,none⟩) (Kd.V_mono HO104.out (fun k_ hk => (⟨hk,by first | exact hk.2 | grind | (simp_all;done)⟩ : _ ∧ k_ ≠ gb113))) (fun _ hk => by first | exact hk.2 | trivial | (simp_all;done) | grind) (.slice Ao39 t102.length co39)) (fun _ hk => by first | exact hk.2 | trivial | (simp_all;done) | grind) (.int .i64 t105)) (fun _ hk => by first | exact hk.2 | trivial | (simp_all;done) | grind) (.slice Ao42 t106.length co42)) (fun _ h_ => by first | exact h_.1 | (simp_all;done) | grind))) hb);have n1_ := qq.mk (Kd.R_below (by (with_reducible repeat (first | apply Kd.jq | apply Kd.zx | apply Kd.jz));exact (Kd.R_mono (Kd.R_far (p := ⟨gb113,2,none⟩) (Kd.R_far (p := ⟨gb113,1,none⟩) (Kd.R_far (p := ⟨gb113,0,none⟩) (Kd.R_types HO108.out BK113.out (by decide)) (fun _ hk => by first | exact hk.2 | trivial | (simp_all;done) | grind) (.slice Ao39 t102.length co39)) (fun _ hk => by first | exact hk.2 | trivial | (simp_all;done) | grind) (.int .i64 t105)) (fun _ hk => by first | exact hk.2 | trivial | (simp_all;done) | grind) (.slice Ao42 t106.length co42)) (fun _ h_ => by first | exact h_.1 | (simp_all;done) | grind))) hb);have n2_ := qq.mk (Kd.R_below (by (with_reducible repeat (first | apply Kd.jq | apply Kd.zx | apply Kd.jz));exact (Kd.R_mono (Kd.R_far (p := ⟨gb113,2,none⟩) (Kd.R_far (p := ⟨gb113,1,none⟩) (Kd.R_far (p := ⟨gb113,0,none⟩) (Kd.R_types HO111.out BK113.out (by decide)) (fun _ hk => by first | exact hk.2 | trivial | (simp_all;done) | grind) (.slice Ao39 t102.length co39)) (fun _ hk => by first | exact hk.2 | trivial | (simp_all;done) | grind) (.int .i64 t105)) (fun _ hk => by first | exact hk.2 | trivial | (simp_all;done) | grind) (.slice Ao42 t106.length co42)) (fun _ h_ => by first | exact h_.1 | (simp_all;done) | grind))) hb);have n3_ := qq.mk (wj (g := gb113) (o := .cells #[.slice Ao39 t102.length co39,.int .i64 t105,.slice Ao42 t106.length co42] 82 (0,0)) (by (with_reducible repeat (first | refine zz ?_ _ | refine zj ?_ | refine zq ?_ _));refine blk_put (cs := #[.slice Ao39 t102.length co39,.int .i64 t105,.slice none 0 0]) ?_ 2 _ rfl;(with_reducible repeat (first | refine zz ?_ _ | refine zj ?_ | refine zq ?_ _));refine blk_put (cs := #[.slice Ao39 t102.length co39,.int .i64 0,.slice none 0 0]) ?_ 1 _ rfl;(with_reducible repeat (first | refine zz ?_ _ | refine zj ?_ | refine zq ?_ _));refine blk_put (cs := #[.slice none 0 0,.int .i64 0,.slice none 0 0]) ?_ 0 _ rfl;(with_reducible repeat (first | refine zz ?_ _ | refine zj ?_ | refine zq ?_ _));exact BK113.out) hb);have n4_ := qq.mk (zv (by repeat (first | (with_reducible first | exact HB.out | apply qj | apply qz | apply qk | refine qx ?_ GE113.out) | exact HB.out)) hb);clear HO104;clear HO108;clear HO111;clear BK113;clear HB;have HO104 := n0_;have HO108 := n1_;have HO111 := n2_;have BK113 := n3_;have HB := n4_;clear n0_ n1_ n2_ n3_ n4_;(try clear hb);(try clear hb2);(try clear hk);(try clear hi)) | ((with_reducible refine kj (f := 48) rfl ?_);refine goesL_ (some 46) rfl rfl Try.func48 (by kernel_rfl) rfl #[.slice A0 l0.length c0] rfl (by (try simp only [List.map_toArray,List.map_cons,List.map_nil]);first | done | rfl | (simp only [List.length_drop,List.length_take];rfl)) ?_;(with_reducible refine (qzk.calls k _ _ l0 t115 t116 t117 t120 t121 t122 t123 _ ?side1 ?side2 A10.out).mono ?_);(case side1 => repeat (first | exact (Kd.C_below HR0.out HB.out) | (with_reducible refine Kd.C_alloc ?_ _) | (with_reducible refine Kd.C_drewN ?_ _) | (with_reducible refine Kd.C_drew ?_)));(case side2 => exact HC0.out);rintro e w47 ⟨v118,v124,rfl,ho0,ho1,hb⟩;refine ⟨_,rfl,?_⟩;have n0_ := qq.mk (Kd.V_mono (Kd.V_told (Kd.V_told (Kd.V_old (by (with_reducible repeat (first | apply Kd.wq | apply Kd.vx | apply Kd.wz));first | exact HO104.out | exact Kd.V_mono HO104.out (fun _ hk => by first | trivial | (simp_all;done) | grind)) hb) (Kd.R_base ho0)) (by first | exact Kd.N_base ho1 | exact Kd.S_base ho1 | exact Kd.R_base ho1)) (fun _ h_ => by first | exact h_.1 | (simp_all;done) | grind));have n1_ := qq.mk (Kd.R_below (by (with_reducible repeat (first | apply Kd.jq | apply Kd.zx | apply Kd.jz));first | exact HO108.out | exact Kd.R_mono HO108.out (fun _ hk => by first | trivial | (simp_all;done) | grind)) hb);have n2_ := qq.mk (Kd.R_below (by (with_reducible repeat (first | apply Kd.jq | apply Kd.zx | apply Kd.jz));first | exact HO111.out | exact Kd.R_mono HO111.out (fun _ hk => by first | trivial | (simp_all;done) | grind)) hb);have n3_ := qq.mk (Kd.R_lower ho0 (zw (by repeat (first | (with_reducible first | exact HB.out | apply qj | apply qz | apply qk | refine qx ?_ GE113.out) | exact HB.out))));have n4_ := qq.mk (Kd.N_lower (Kd.N_mono (ok' := fun k_ => some k_ ≠ (v118 : Value).ownBlock ∧ some k_ ≠ (.slice Ao42 t106.length co42 : Value).ownBlock ∧ some k_ ≠ (.slice Ao43 t109.length co43 : Value).ownBlock ∧ k_ ≠ gb113) (Kd.S_N (Kd.S_bound (Kd.S_apart' ho1 (Kd.R_typed ho0) (by decide)))) (fun k_ hk_ => ⟨hk_.1.2,(Kd.fresh' (Kd.R_lt (by (with_reducible repeat (first | apply Kd.jq | apply Kd.zx | apply Kd.jz));first | exact HO108.out | exact Kd.R_mono HO108.out (fun _ hk => by first | trivial | (simp_all;done) | grind))) k_ hk_.2.1),(Kd.fresh' (Kd.R_lt (by (with_reducible repeat (first | apply Kd.jq | apply Kd.zx | apply Kd.jz));first | exact HO111.out | exact Kd.R_mono HO111.out (fun _ hk => by first | trivial | (simp_all;done) | grind))) k_ hk_.2.1),(Kd.freshB (g := gb113) (o := .cells #[.slice Ao39 t102.length co39,.int .i64 t105,.slice Ao42 t106.length co42] 82 (0,0)) (by (with_reducible repeat (first | refine zz ?_ _ | refine zj ?_ | refine zq ?_ _));exact BK113.out) k_ hk_.2.1)⟩)) (zw (by repeat (first | (with_reducible first | exact HB.out | apply qj | apply qz | apply qk | refine qx ?_ GE113.out) | exact HB.out))));have n5_ := qq.mk (wj (g := gb113) (o := .cells #[.slice Ao39 t102.length co39,.int .i64 t105,.slice Ao42 t106.length co42] 82 (0,0)) (by (with_reducible repeat (first | refine zz ?_ _ | refine zj ?_ | refine zq ?_ _));exact BK113.out) hb);have n6_ := qq.mk (zv (by repeat (first | (with_reducible first | exact HB.out | apply qj | apply qz | apply qk | refine qx ?_ GE113.out) | exact HB.out)) hb);clear HO104;clear HO108;clear HO111;clear BK113;clear HB;have HO104 := n0_;have HO108 := n1_;have HO111 := n2_;have HO119 := n3_;have HO125 := n4_;have BK113 := n5_;have HB := n6_;clear n0_ n1_ n2_ n3_ n4_ n5_ n6_;(try clear hb);(try clear hb2);(try clear hk);(try clear hi);(try clear ho0);(try clear ho1)) | ((with_reducible refine gate_dst (N := 8) rfl ?_);refine box_event ?hg (N := 8) ?hd (cs := #[.int .i64 0,.int .i64 0,.slice none 0 0,.int .i64 0]) (t := 53) ?hr ?_;(case hd => rfl);(case hg => rfl);(case hr => first | (go_simp;done) | (go_simp;rfl));intro gb126 hg w48 hbox hb;have n0_ := qq.mk (Kd.V_below (Kd.V_elderB (by (with_reducible repeat (first | apply Kd.wq | apply Kd.vx | apply Kd.wz));first | exact HO104.out | exact Kd.V_mono HO104.out (fun _ hk => by first | trivial | (simp_all;done) | grind)) gb126 (Nat.le_of_eq hg.symm)) hb);have n1_ := qq.mk (Kd.R_below (by (with_reducible repeat (first | apply Kd.jq | apply Kd.zx | apply Kd.jz));first | exact HO108.out | exact Kd.R_mono HO108.out (fun _ hk => by first | trivial | (simp_all;done) | grind)) hb);have n2_ := qq.mk (Kd.R_below (by (with_reducible repeat (first | apply Kd.jq | apply Kd.zx | apply Kd.jz));first | exact HO111.out | exact Kd.R_mono HO111.out (fun _ hk => by first | trivial | (simp_all;done) | grind)) hb);have n3_ := qq.mk (Kd.R_below (by (with_reducible repeat (first | apply Kd.jq | apply Kd.zx | apply Kd.jz));first | exact HO119.out | exact Kd.R_mono HO119.out (fun _ hk => by first | trivial | (simp_all;done) | grind)) hb);have n4_ := qq.mk (Kd.N_below (Kd.N_elderB (by (with_reducible repeat (first | apply Kd.vq | apply Kd.kx | apply Kd.vz));first | exact HO125.out | exact Kd.N_mono HO125.out (fun _ hk => by first | trivial | (simp_all;done) | grind)) gb126 (Nat.le_of_eq hg.symm)) hb);have n5_ := qq.mk (wj (g := gb113) (o := .cells #[.slice Ao39 t102.length co39,.int .i64 t105,.slice Ao42 t106.length co42] 82 (0,0)) (by (with_reducible repeat (first | refine zz ?_ _ | refine zj ?_ | refine zq ?_ _));exact BK113.out) hb);have n6_ := qq.mk (zv (by repeat (first | (with_reducible first | exact HB.out | apply qj | apply qz | apply qk | refine qx ?_ GE113.out) | exact HB.out)) hb);have n7_ := qq.mk (hbox);have n8_ := qq.mk ((by rw [hg];exact (zw (by repeat (first | (with_reducible first | exact HB.out | apply qj | apply qz | apply qk | refine qx ?_ GE113.out) | exact HB.out))) : w.heap.size ≤ gb126));have n9_ := qq.mk ((by rw [hg];exact (zw (by repeat (first | (with_reducible first | exact HB.out | apply qj | apply qz | apply qk | refine qx ?_ GE113.out) | exact HB.out))) : w.heap.size ≤ gb126));have n10_ := qq.mk ((by rw [hg];exact Nat.ne_of_lt (blk_lt (g := gb113) (o := .cells #[.slice Ao39 t102.length co39,.int .i64 t105,.slice Ao42 t106.length co42] 82 (0,0)) (by (with_reducible repeat (first | refine zz ?_ _ | refine zj ?_ | refine zq ?_ _));exact BK113.out)) : gb113 ≠ gb126));have n11_ := qq.mk ((by rw [hg];exact Nat.ne_of_gt (blk_lt (g := gb113) (o := .cells #[.slice Ao39 t102.length co39,.int .i64 t105,.slice Ao42 t106.length co42] 82 (0,0)) (by (with_reducible repeat (first | refine zz ?_ _ | refine zj ?_ | refine zq ?_ _));exact BK113.out)) : gb126 ≠ gb113));clear HO104;clear HO108;clear HO111;clear HO119;clear HO125;clear BK113;clear HB;have HO104 := n0_;have HO108 := n1_;have HO111 := n2_;have HO119 := n3_;have HO125 := n4_;have BK113 := n5_;have HB := n6_;have BK126 := n7_;have GW126 := n8_;have GE126 := n9_;have NB113_126 := n10_;have NB126_113 := n11_;clear n0_ n1_ n2_ n3_ n4_ n5_ n6_ n7_ n8_ n9_ n10_ n11_;clear hb hbox hg;have hnb49 := NB126_113.out;have hnc49 := NB113_126.out;have hcz50_0 : w48.cell? ⟨gb126,0,none⟩ = some (.int .i64 0) := (qw BK126.out 0).trans rfl;have hcz50_1 : w48.cell? ⟨gb126,1,none⟩ = some (.int .i64 0) := (qw BK126.out 1).trans rfl;have hcz50_2 : w48.cell? ⟨gb126,2,none⟩ = some (.slice none 0 0) := (qw BK126.out 2).trans rfl;have hcz50_3 : w48.cell? ⟨gb126,3,none⟩ = some (.int .i64 0) := (qw BK126.out 3).trans rfl;have hfz50_0 := qv BK126.out 0;have hfz50_1 := qv BK126.out 1;have hfz50_2 := qv BK126.out 2;have hfz50_3 := qv BK126.out 3;obtain ⟨Ao51,co51,eo51⟩ := Kd.R_slice HO119.out;subst eo51;obtain ⟨Ao52,co52,eo52⟩ := Kd.N_slice HO125.out;subst eo52) | ((with_reducible refine kj (f := 26) rfl ?_);refine goesL_ (some 55) rfl rfl Try.func26 (by kernel_rfl) rfl #[.agg #[.int .i64 t115,.int .i64 t116,.slice Ao51 t117.length co51,.int .i64 t120],.string t121,.string t122,.slice Ao52 t123.length co52] rfl (by (try simp only [List.map_toArray,List.map_cons,List.map_nil]);first | done | rfl | (simp only [List.length_drop,List.length_take];rfl)) ?_;(with_reducible refine (qqq.calls k t115 t116 _ _ t117 t120 t121 t122 _ _ t123 t127 _ ?tabw ?side1 ?side2 ?side3 ?side4 A11.out).mono ?_);(case tabw => repeat (first | exact HTAB.out | exact TabW_below HTAB.out HB.out | exact TabW_below HTAB.out (by repeat (first | (with_reducible first | exact HB.out | apply qj | apply qz | apply qk | refine qx ?_ GE113.out | refine qx ?_ GE126.out) | exact HB.out)) | (with_reducible refine TabW_drewN ?_ _) | (with_reducible refine TabW_drew ?_) | (with_reducible refine TabW_alloc ?_ _)));(case side1 => refine (Kd.R_reads' (e := 9) (base := w.heap.size) (ok := fun k_ => True) (n := t117.length) (c := co51) ?_).2.2;exact (by (with_reducible repeat (first | apply Kd.jq | apply Kd.zx | apply Kd.jz));exact (Kd.R_mono (Kd.R_far (p := ⟨gb126,3,none⟩) (Kd.R_far (p := ⟨gb126,2,none⟩) (Kd.R_far (p := ⟨gb126,1,none⟩) (Kd.R_far (p := ⟨gb126,0,none⟩) (Kd.R_types HO119.out BK126.out (by decide)) (fun _ hk => by first | exact hk.2 | trivial | (simp_all;done) | grind) (.int .i64 t115)) (fun _ hk => by first | exact hk.2 | trivial | (simp_all;done) | grind) (.int .i64 t116)) (fun _ hk => by first | exact hk.2 | trivial | (simp_all;done) | grind) (.slice Ao51 t117.length co51)) (fun _ hk => by first | exact hk.2 | trivial | (simp_all;done) | grind) (.int .i64 t120)) (fun _ h_ => by first | exact h_.1 | (simp_all;done) | grind))));(case side2 => exact (Kd.R_reads' HO119.out).2.1);(case side3 => refine (Kd.N_reads' (e := 82) (base := w.heap.size) (ok := fun k_ => ((some k_ ≠ (.slice Ao51 t117.length co51 : Value).ownBlock ∧ (some k_ ≠ (.slice Ao42 t106.length co42 : Value).ownBlock ∧ (some k_ ≠ (.slice Ao43 t109.length co43 : Value).ownBlock ∧ k_ ≠ gb113))) ∧ k_ ≠ gb126)) (n := t123.length) (c := co52) ?_).2.2;exact (by (with_reducible repeat (first | apply Kd.vq | apply Kd.kx | apply Kd.vz));exact (Kd.N_mono (Kd.N_far (p := ⟨gb126,3,none⟩) (Kd.N_far (p := ⟨gb126,2,none⟩) (Kd.N_far (p := ⟨gb126,1,none⟩) (Kd.N_far (p := ⟨gb126,0,none⟩) (Kd.N_mono HO125.out (fun k_ hk => (⟨hk,by first | exact hk.2 | grind | (simp_all;done)⟩ : _ ∧ k_ ≠ gb126))) (fun _ hk => by first | exact hk.2 | trivial | (simp_all;done) | grind) (.int .i64 t115)) (fun _ hk => by first | exact hk.2 | trivial | (simp_all;done) | grind) (.int .i64 t116)) (fun _ hk => by first | exact hk.2 | trivial | (simp_all;done) | grind) (.slice Ao51 t117.length co51)) (fun _ hk => by first | exact hk.2 | trivial | (simp_all;done) | grind) (.int .i64 t120)) (fun _ h_ => by first | exact h_.1 | (simp_all;done) | grind))));(case side4 => exact (Kd.N_reads' HO125.out).2.1);rintro e w53 ⟨v128,rfl,ho0,hb⟩;refine ⟨_,rfl,?_⟩;have n0_ := qq.mk (Kd.V_elder' (by (with_reducible repeat (first | apply Kd.wq | apply Kd.vx | apply Kd.wz));exact (Kd.V_mono (Kd.V_far (p := ⟨gb126,3,none⟩) (Kd.V_far (p := ⟨gb126,2,none⟩) (Kd.V_far (p := ⟨gb126,1,none⟩) (Kd.V_far (p := ⟨gb126,0,none⟩) (Kd.V_mono HO104.out (fun k_ hk => (⟨hk,by first | exact hk.2 | grind | (simp_all;done)⟩ : _ ∧ k_ ≠ gb126))) (fun _ hk => by first | exact hk.2 | trivial | (simp_all;done) | grind) (.int .i64 t115)) (fun _ hk => by first | exact hk.2 | trivial | (simp_all;done) | grind) (.int .i64 t116)) (fun _ hk => by first | exact hk.2 | trivial | (simp_all;done) | grind) (.slice Ao51 t117.length co51)) (fun _ hk => by first | exact hk.2 | trivial | (simp_all;done) | grind) (.int .i64 t120)) (fun _ h_ => by first | exact h_.1 | (simp_all;done) | grind))) (Kd.R_base ho0) hb);have n1_ := qq.mk (Kd.R_below (by (with_reducible repeat (first | apply Kd.jq | apply Kd.zx | apply Kd.jz));exact (Kd.R_mono (Kd.R_far (p := ⟨gb126,3,none⟩) (Kd.R_far (p := ⟨gb126,2,none⟩) (Kd.R_far (p := ⟨gb126,1,none⟩) (Kd.R_far (p := ⟨gb126,0,none⟩) (Kd.R_types HO108.out BK126.out (by decide)) (fun _ hk => by first | exact hk.2 | trivial | (simp_all;done) | grind) (.int .i64 t115)) (fun _ hk => by first | exact hk.2 | trivial | (simp_all;done) | grind) (.int .i64 t116)) (fun _ hk => by first | exact hk.2 | trivial | (simp_all;done) | grind) (.slice Ao51 t117.length co51)) (fun _ hk => by first | exact hk.2 | trivial | (simp_all;done) | grind) (.int .i64 t120)) (fun _ h_ => by first | exact h_.1 | (simp_all;done) | grind))) hb);have n2_ := qq.mk (Kd.R_below (by (with_reducible repeat (first | apply Kd.jq | apply Kd.zx | apply Kd.jz));exact (Kd.R_mono (Kd.R_far (p := ⟨gb126,3,none⟩) (Kd.R_far (p := ⟨gb126,2,none⟩) (Kd.R_far (p := ⟨gb126,1,none⟩) (Kd.R_far (p := ⟨gb126,0,none⟩) (Kd.R_types HO111.out BK126.out (by decide)) (fun _ hk => by first | exact hk.2 | trivial | (simp_all;done) | grind) (.int .i64 t115)) (fun _ hk => by first | exact hk.2 | trivial | (simp_all;done) | grind) (.int .i64 t116)) (fun _ hk => by first | exact hk.2 | trivial | (simp_all;done) | grind) (.slice Ao51 t117.length co51)) (fun _ hk => by first | exact hk.2 | trivial | (simp_all;done) | grind) (.int .i64 t120)) (fun _ h_ => by first | exact h_.1 | (simp_all;done) | grind))) hb);have n3_ := qq.mk (Kd.R_below (by (with_reducible repeat (first | apply Kd.jq | apply Kd.zx | apply Kd.jz));exact (Kd.R_mono (Kd.R_far (p := ⟨gb126,3,none⟩) (Kd.R_far (p := ⟨gb126,2,none⟩) (Kd.R_far (p := ⟨gb126,1,none⟩) (Kd.R_far (p := ⟨gb126,0,none⟩) (Kd.R_types HO119.out BK126.out (by decide)) (fun _ hk => by first | exact hk.2 | trivial | (simp_all;done) | grind) (.int .i64 t115)) (fun _ hk => by first | exact hk.2 | trivial | (simp_all;done) | grind) (.int .i64 t116)) (fun _ hk => by first | exact hk.2 | trivial | (simp_all;done) | grind) (.slice Ao51 t117.length co51)) (fun _ hk => by first | exact hk.2 | trivial | (simp_all;done) | grind) (.int .i64 t120)) (fun _ h_ => by first | exact h_.1 | (simp_all;done) | grind))) hb);have n4_ := qq.mk (Kd.N_elder' (by (with_reducible repeat (first | apply Kd.vq | apply Kd.kx | apply Kd.vz));exact (Kd.N_mono (Kd.N_far (p := ⟨gb126,3,none⟩) (Kd.N_far (p := ⟨gb126,2,none⟩) (Kd.N_far (p := ⟨gb126,1,none⟩) (Kd.N_far (p := ⟨gb126,0,none⟩) (Kd.N_mono HO125.out (fun k_ hk => (⟨hk,by first | exact hk.2 | grind | (simp_all;done)⟩ : _ ∧ k_ ≠ gb126))) (fun _ hk => by first | exact hk.2 | trivial | (simp_all;done) | grind) (.int .i64 t115)) (fun _ hk => by first | exact hk.2 | trivial | (simp_all;done) | grind) (.int .i64 t116)) (fun _ hk => by first | exact hk.2 | trivial | (simp_all;done) | grind) (.slice Ao51 t117.length co51)) (fun _ hk => by first | exact hk.2 | trivial | (simp_all;done) | grind) (.int .i64 t120)) (fun _ h_ => by first | exact h_.1 | (simp_all;done) | grind))) (Kd.R_base ho0) hb);have n5_ := qq.mk (Kd.R_lower ho0 (zw (by repeat (first | (with_reducible first | exact HB.out | apply qj | apply qz | apply qk | refine qx ?_ GE113.out | refine qx ?_ GE126.out) | exact HB.out))));have n6_ := qq.mk (wj (g := gb113) (o := .cells #[.slice Ao39 t102.length co39,.int .i64 t105,.slice Ao42 t106.length co42] 82 (0,0)) (by (with_reducible repeat (first | refine zz ?_ _ | refine zj ?_ | refine zq ?_ _));refine blk_far ?_ NB113_126.out _;(with_reducible repeat (first | refine zz ?_ _ | refine zj ?_ | refine zq ?_ _));refine blk_far ?_ NB113_126.out _;(with_reducible repeat (first | refine zz ?_ _ | refine zj ?_ | refine zq ?_ _));refine blk_far ?_ NB113_126.out _;(with_reducible repeat (first | refine zz ?_ _ | refine zj ?_ | refine zq ?_ _));refine blk_far ?_ NB113_126.out _;(with_reducible repeat (first | refine zz ?_ _ | refine zj ?_ | refine zq ?_ _));exact BK113.out) hb);have n7_ := qq.mk (wj (g := gb126) (o := .cells #[.int .i64 t115,.int .i64 t116,.slice Ao51 t117.length co51,.int .i64 t120] 53 (0,0)) (by (with_reducible repeat (first | refine zz ?_ _ | refine zj ?_ | refine zq ?_ _));refine blk_put (cs := #[.int .i64 t115,.int .i64 t116,.slice Ao51 t117.length co51,.int .i64 0]) ?_ 3 _ rfl;(with_reducible repeat (first | refine zz ?_ _ | refine zj ?_ | refine zq ?_ _));refine blk_put (cs := #[.int .i64 t115,.int .i64 t116,.slice none 0 0,.int .i64 0]) ?_ 2 _ rfl;(with_reducible repeat (first | refine zz ?_ _ | refine zj ?_ | refine zq ?_ _));refine blk_put (cs := #[.int .i64 t115,.int .i64 0,.slice none 0 0,.int .i64 0]) ?_ 1 _ rfl;(with_reducible repeat (first | refine zz ?_ _ | refine zj ?_ | refine zq ?_ _));refine blk_put (cs := #[.int .i64 0,.int .i64 0,.slice none 0 0,.int .i64 0]) ?_ 0 _ rfl;(with_reducible repeat (first | refine zz ?_ _ | refine zj ?_ | refine zq ?_ _));exact BK126.out) hb);have n8_ := qq.mk (zv (by repeat (first | (with_reducible first | exact HB.out | apply qj | apply qz | apply qk | refine qx ?_ GE113.out | refine qx ?_ GE126.out) | exact HB.out)) hb);clear HO104;clear HO108;clear HO111;clear HO119;clear HO125;clear BK113;clear BK126;clear HB;have HO104 := n0_;have HO108 := n1_;have HO111 := n2_;have HO119 := n3_;have HO125 := n4_;have HO129 := n5_;have BK113 := n6_;have BK126 := n7_;have HB := n8_;clear n0_ n1_ n2_ n3_ n4_ n5_ n6_ n7_ n8_;(try clear hb);(try clear hb2);(try clear hk);(try clear hi);(try clear ho0);have hcz54_0 : w53.cell? ⟨gb126,0,none⟩ = some (.int .i64 t115) := (qw BK126.out 0).trans rfl;have hcz54_1 : w53.cell? ⟨gb126,1,none⟩ = some (.int .i64 t116) := (qw BK126.out 1).trans rfl;have hcz54_2 : w53.cell? ⟨gb126,2,none⟩ = some (.slice Ao51 t117.length co51) := (qw BK126.out 2).trans rfl;have hcz54_3 : w53.cell? ⟨gb126,3,none⟩ = some (.int .i64 t120) := (qw BK126.out 3).trans rfl;have hfz54_0 := qv BK126.out 0;have hfz54_1 := qv BK126.out 1;have hfz54_2 := qv BK126.out 2;have hfz54_3 := qv BK126.out 3) | ((with_reducible refine kj (f := 23) rfl ?_);refine goesL_ (some 61) rfl rfl Try.func23 (by kernel_rfl) rfl #[.agg #[.int .i64 t115,.int .i64 t116,.slice Ao51 t117.length co51,.int .i64 t120],.string t121,.string t122,.slice Ao52 t123.length co52] rfl (by (try simp only [List.map_toArray,List.map_cons,List.map_nil]);first | done | rfl | (simp only [List.length_drop,List.length_take];rfl)) ?_;(with_reducible refine (qjq.calls k t115 t116 _ _ t117 t120 t121 t122 _ _ t123 t130 _ ?side1 ?side2 ?side3 ?side4 A12.out).mono ?_);(case side1 => repeat (first | exact (Kd.R_reads' HO119.out).2.2 | (with_reducible refine Kd.C_alloc ?_ _) | (with_reducible refine Kd.C_drewN ?_ _) | (with_reducible refine Kd.C_drew ?_)));(case side2 => exact (Kd.R_reads' HO119.out).2.1);(case side3 => repeat (first | exact (Kd.N_reads' HO125.out).2.2 | (with_reducible refine Kd.C_alloc ?_ _) | (with_reducible refine Kd.C_drewN ?_ _) | (with_reducible refine Kd.C_drew ?_)));(case side4 => exact (Kd.N_reads' HO125.out).2.1);rintro e w55 ⟨v131,rfl,ho0,hb⟩;refine ⟨_,rfl,?_⟩;have n0_ := qq.mk (Kd.V_elder' (by (with_reducible repeat (first | apply Kd.wq | apply Kd.vx | apply Kd.wz));first | exact HO104.out | exact Kd.V_mono HO104.out (fun _ hk => by first | trivial | (simp_all;done) | grind)) (Kd.R_base ho0) hb);have n1_ := qq.mk (Kd.R_below (by (with_reducible repeat (first | apply Kd.jq | apply Kd.zx | apply Kd.jz));first | exact HO108.out | exact Kd.R_mono HO108.out (fun _ hk => by first | trivial | (simp_all;done) | grind)) hb);have n2_ := qq.mk (Kd.R_below (by (with_reducible repeat (first | apply Kd.jq | apply Kd.zx | apply Kd.jz));first | exact HO111.out | exact Kd.R_mono HO111.out (fun _ hk => by first | trivial | (simp_all;done) | grind)) hb);have n3_ := qq.mk (Kd.R_below (by (with_reducible repeat (first | apply Kd.jq | apply Kd.zx | apply Kd.jz));first | exact HO119.out | exact Kd.R_mono HO119.out (fun _ hk => by first | trivial | (simp_all;done) | grind)) hb);have n4_ := qq.mk (Kd.N_elder' (by (with_reducible repeat (first | apply Kd.vq | apply Kd.kx | apply Kd.vz));first | exact HO125.out | exact Kd.N_mono HO125.out (fun _ hk => by first | trivial | (simp_all;done) | grind)) (Kd.R_base ho0) hb);have n5_ := qq.mk (Kd.R_elder' (by (with_reducible repeat (first | apply Kd.jq | apply Kd.zx | apply Kd.jz));first | exact HO129.out | exact Kd.R_mono HO129.out (fun _ hk => by first | trivial | (simp_all;done) | grind)) (Kd.R_base ho0) hb);have n6_ := qq.mk (Kd.R_lower (Kd.R_new' ho0 (Kd.R_lt (by (with_reducible repeat (first | apply Kd.jq | apply Kd.zx | apply Kd.jz));first | exact HO129.out | exact Kd.R_mono HO129.out (fun _ hk => by first | trivial | (simp_all;done) | grind)))) (zw (by repeat (first | (with_reducible first | exact HB.out | apply qj | apply qz | apply qk | refine qx ?_ GE113.out | refine qx ?_ GE126.out) | exact HB.out))));have n7_ := qq.mk (wj (g := gb113) (o := .cells #[.slice Ao39 t102.length co39,.int .i64 t105,.slice Ao42 t106.length co42] 82 (0,0)) (by (with_reducible repeat (first | refine zz ?_ _ | refine zj ?_ | refine zq ?_ _));exact BK113.out) hb);have n8_ := qq.mk (wj (g := gb126) (o := .cells #[.int .i64 t115,.int .i64 t116,.slice Ao51 t117.length co51,.int .i64 t120] 53 (0,0)) (by (with_reducible repeat (first | refine zz ?_ _ | refine zj ?_ | refine zq ?_ _));exact BK126.out) hb);have n9_ := qq.mk (zv (by repeat (first | (with_reducible first | exact HB.out | apply qj | apply qz | apply qk | refine qx ?_ GE113.out | refine qx ?_ GE126.out) | exact HB.out)) hb);clear HO104;clear HO108;clear HO111;clear HO119;clear HO125;clear HO129;clear BK113;clear BK126;clear HB;have HO104 := n0_;have HO108 := n1_;have HO111 := n2_;have HO119 := n3_;have HO125 := n4_;have HO129 := n5_;have HO132 := n6_;have BK113 := n7_;have BK126 := n8_;have HB := n9_;clear n0_ n1_ n2_ n3_ n4_ n5_ n6_ n7_ n8_ n9_;(try clear hb);(try clear hb2);(try clear hk);(try clear hi);(try clear ho0);obtain ⟨Ao56,co56,eo56⟩ := Kd.R_slice HO129.out;subst eo56;obtain ⟨Ao57,co57,eo57⟩ := Kd.R_slice HO132.out;subst eo57) | ((with_reducible refine kj (f := 36) rfl ?_);refine goesL_ (some 62) rfl rfl Try.func36 (by kernel_rfl) rfl #[.slice Ao56 t127.length co56,.slice Ao57 t130.length co57] rfl (by (try simp only [List.map_toArray,List.map_cons,List.map_nil]);first | done | rfl | (simp only [List.length_drop,List.length_take];rfl)) ?_;(with_reducible refine (qzj.calls k _ _ t127 _ _ t130 true _ ?side1 ?side2 ?side3 ?side4 A13.out).mono ?_);(case side1 => repeat (first | exact (Kd.R_reads' HO129.out).2.2 | (with_reducible refine Kd.C_alloc ?_ _) | (with_reducible refine Kd.C_drewN ?_ _) | (with_reducible refine Kd.C_drew ?_)));(case side2 => exact (Kd.R_reads' HO129.out).2.1);(case side3 => repeat (first | exact (Kd.R_reads' HO132.out).2.2 | (with_reducible refine Kd.C_alloc ?_ _) | (with_reducible refine Kd.C_drewN ?_ _) | (with_reducible refine Kd.C_drew ?_)));(case side4 => exact (Kd.R_reads' HO132.out).2.1);rintro e w' ⟨rfl,⟨nd,rfl⟩⟩;refine ⟨_,rfl,?_⟩;(try (rw [drewN_self w55];generalize hq_ : World.drewN w55 _ = w55;have n0_ : qq (Kd.V (Kd.int .u8) 5 w55 w.heap.size (fun k_ => some k_ ≠ (.slice Ao42 t106.length co42 : Value).ownBlock ∧ some k_ ≠ (.slice Ao43 t109.length co43 : Value).ownBlock ∧ some k_ ≠ (.slice Ao51 t117.length co51 : Value).ownBlock ∧ some k_ ≠ (.slice Ao52 t123.length co52 : Value).ownBlock ∧ some k_ ≠ (.slice Ao56 t127.length co56 : Value).ownBlock ∧ some k_ ≠ (.slice Ao57 t130.length co57 : Value).ownBlock ∧ k_ ≠ gb113 ∧ k_ ≠ gb126) (.slice Ao39 t102.length co39) t102) := ⟨by rw [← hq_];exact (by (with_reducible repeat (first | apply Kd.wq | apply Kd.vx | apply Kd.wz));exact Kd.V_mono HO104.out (fun _ hk => by first | exact ⟨hk.1.1.1.1.1.1.1.2,⟨hk.1.1.1.1.1.1.2,⟨hk.1.1.1.1.2,⟨hk.1.1.1.2,⟨hk.1.2,⟨hk.2,⟨hk.1.1.1.1.1.2,hk.1.1.2⟩⟩⟩⟩⟩⟩⟩ | trivial | (simp_all;done) | grind))⟩;have n1_ : qq (Kd.R (Kd.int .u8) 5 w55 w.heap.size (fun k_ => some k_ ≠ (.slice Ao43 t109.length co43 : Value).ownBlock) (.slice Ao42 t106.length co42) t106) := ⟨by rw [← hq_];exact (by (with_reducible repeat (first | apply Kd.jq | apply Kd.zx | apply Kd.jz));exact Kd.R_mono HO108.out (fun _ hk => by first | exact hk.2 | trivial | (simp_all;done) | grind))⟩;have n2_ : qq (Kd.R (Kd.int .u8) 5 w55 w.heap.size (fun k_ => some k_ ≠ (.slice Ao42 t106.length co42 : Value).ownBlock) (.slice Ao43 t109.length co43) t109) := ⟨by rw [← hq_];exact (by (with_reducible repeat (first | apply Kd.jq | apply Kd.zx | apply Kd.jz));exact Kd.R_mono HO111.out (fun _ hk => by first | exact hk.2 | trivial | (simp_all;done) | grind))⟩;have n3_ : qq (Kd.R Kd.string 9 w55 w.heap.size (fun _ => True) (.slice Ao51 t117.length co51) t117) := ⟨by rw [← hq_];exact (by (with_reducible repeat (first | apply Kd.jq | apply Kd.zx | apply Kd.jz));first | exact HO119.out | exact Kd.R_mono HO119.out (fun _ hk => by first | trivial | (simp_all;done) | grind))⟩;have n4_ : qq (Kd.N k82 82 w55 w.heap.size (fun k_ => some k_ ≠ (.slice Ao42 t106.length co42 : Value).ownBlock ∧ some k_ ≠ (.slice Ao43 t109.length co43 : Value).ownBlock ∧ some k_ ≠ (.slice Ao51 t117.length co51 : Value).ownBlock ∧ some k_ ≠ (.slice Ao56 t127.length co56 : Value).ownBlock ∧ some k_ ≠ (.slice Ao57 t130.length co57 : Value).ownBlock ∧ k_ ≠ gb113 ∧ k_ ≠ gb126) (.slice Ao52 t123.length co52) t123) := ⟨by rw [← hq_];exact (by (with_reducible repeat (first | apply Kd.vq | apply Kd.kx | apply Kd.vz));exact Kd.N_mono HO125.out (fun _ hk => by first | exact ⟨hk.1.1.1.2.1,⟨hk.1.1.1.2.2.1,⟨hk.1.1.1.1,⟨hk.1.2,⟨hk.2,⟨hk.1.1.1.2.2.2,hk.1.1.2⟩⟩⟩⟩⟩⟩ | trivial | (simp_all;done) | grind))⟩;have n5_ : qq (Kd.R (Kd.int .i64) 3 w55 w.heap.size (fun k_ => some k_ ≠ (.slice Ao57 t130.length co57 : Value).ownBlock) (.slice Ao56 t127.length co56) t127) := ⟨by rw [← hq_];exact (by (with_reducible repeat (first | apply Kd.jq | apply Kd.zx | apply Kd.jz));exact Kd.R_mono HO129.out (fun _ hk => by first | exact hk.2 | trivial | (simp_all;done) | grind))⟩;have n6_ : qq (Kd.R (Kd.int .i64) 3 w55 w.heap.size (fun k_ => some k_ ≠ (.slice Ao56 t127.length co56 : Value).ownBlock) (.slice Ao57 t130.length co57) t130) := ⟨by rw [← hq_];exact (by (with_reducible repeat (first | apply Kd.jq | apply Kd.zx | apply Kd.jz));exact Kd.R_mono HO132.out (fun _ hk => by first | exact hk.2 | trivial | (simp_all;done) | grind))⟩;have n7_ : qq (w55.heap[gb113]? = some (.cells #[.slice Ao39 t102.length co39,.int .i64 t105,.slice Ao42 t106.length co42] 82 (0,0))) := ⟨by rw [← hq_];exact (by (with_reducible repeat (first | refine zz ?_ _ | refine zj ?_ | refine zq ?_ _));exact BK113.out)⟩;have n8_ : qq (w55.heap[gb126]? = some (.cells #[.int .i64 t115,.int .i64 t116,.slice Ao51 t117.length co51,.int .i64 t120] 53 (0,0))) := ⟨by rw [← hq_];exact (by (with_reducible repeat (first | refine zz ?_ _ | refine zj ?_ | refine zq ?_ _));exact BK126.out)⟩;have n9_ : qq (Below w.heap.size w w55) := ⟨by rw [← hq_];exact (by repeat (first | (with_reducible first | exact HB.out | apply qj | apply qz | apply qk | refine qx ?_ GE113.out | refine qx ?_ GE126.out) | exact HB.out))⟩;clear HO104 HO108 HO111 HO119 HO125 HO129 HO132 BK113 BK126 HB hq_;have HO104 := n0_;have HO108 := n1_;have HO111 := n2_;have HO119 := n3_;have HO125 := n4_;have HO129 := n5_;have HO132 := n6_;have BK113 := n7_;have BK126 := n8_;have HB := n9_;clear n0_ n1_ n2_ n3_ n4_ n5_ n6_ n7_ n8_ n9_));have hcz58_0 : w55.cell? ⟨gb126,0,none⟩ = some (.int .i64 t115) := (qw BK126.out 0).trans rfl;have hcz58_1 : w55.cell? ⟨gb126,1,none⟩ = some (.int .i64 t116) := (qw BK126.out 1).trans rfl;have hcz58_2 : w55.cell? ⟨gb126,2,none⟩ = some (.slice Ao51 t117.length co51) := (qw BK126.out 2).trans rfl;have hcz58_3 : w55.cell? ⟨gb126,3,none⟩ = some (.int .i64 t120) := (qw BK126.out 3).trans rfl;have hfz58_0 := qv BK126.out 0;have hfz58_1 := qv BK126.out 1;have hfz58_2 := qv BK126.out 2;have hfz58_3 := qv BK126.out 3) | ((with_reducible refine kk (t := 53) (p := 8) rfl ?_);refine kv (t := 53) (p := 8) (v := ?vo_w59) (w1 := ((((w55.setCell ⟨gb126,0,none⟩ (.int .i64 1)).setCell ⟨gb126,1,none⟩ (.int .i64 0)).setCell ⟨gb126,2,none⟩ (.slice none 0 0)).setCell ⟨gb126,3,none⟩ (.int .i64 1))) ?hg ?ho ?hn ?hr ?_;(case ho => rfl);(case hg => rfl);(case hn => rfl);(case hr => first | (go_simp;done) | (go_simp;rfl));intro w59 hw;have n0_ : qq (Kd.V (Kd.int .u8) 5 w59 w.heap.size (fun k_ => some k_ ≠ (.slice Ao42 t106.length co42 : Value).ownBlock ∧ some k_ ≠ (.slice Ao43 t109.length co43 : Value).ownBlock ∧ some k_ ≠ (.slice Ao51 t117.length co51 : Value).ownBlock ∧ some k_ ≠ (.slice Ao52 t123.length co52 : Value).ownBlock ∧ some k_ ≠ (.slice Ao56 t127.length co56 : Value).ownBlock ∧ some k_ ≠ (.slice Ao57 t130.length co57 : Value).ownBlock ∧ k_ ≠ gb113 ∧ k_ ≠ gb126) (.slice Ao39 t102.length co39) t102) := ⟨(by rw [hw];exact (by (with_reducible repeat (first | apply Kd.wq | apply Kd.vx | apply Kd.wz));exact Kd.V_mono (Kd.V_far (p := ⟨gb126,3,none⟩) (Kd.V_far (p := ⟨gb126,2,none⟩) (Kd.V_far (p := ⟨gb126,1,none⟩) (Kd.V_far (p := ⟨gb126,0,none⟩) (Kd.V_mono HO104.out (fun k_ hk => (⟨hk,by first | exact hk.1.1.2 | grind | (simp_all;done)⟩ : _ ∧ k_ ≠ gb126))) (fun _ hk => by first | exact hk.2 | trivial | (simp_all;done) | grind) (.int .i64 1)) (fun _ hk => by first | exact hk.2 | trivial | (simp_all;done) | grind) (.int .i64 0)) (fun _ hk => by first | exact hk.2 | trivial | (simp_all;done) | grind) (.slice none 0 0)) (fun _ hk => by first | exact hk.2 | trivial | (simp_all;done) | grind) (.int .i64 1)) (fun _ hk => by first | exact ⟨hk.1.1.1.1.1.1.1.1.2,⟨hk.1.1.1.1.1.1.1.2,⟨hk.1.1.1.1.1.2,⟨hk.1.1.1.1.2,⟨hk.1.1.2,⟨hk.1.2,⟨hk.1.1.1.1.1.1.2,hk.1.1.1.2⟩⟩⟩⟩⟩⟩⟩ | trivial | (simp_all;done) | grind)))⟩;have n1_ : qq (Kd.R (Kd.int .u8) 5 w59 w.heap.size (fun k_ => some k_ ≠ (.slice Ao43 t109.length co43 : Value).ownBlock) (.slice Ao42 t106.length co42) t106) := ⟨(by rw [hw];exact (by (with_reducible repeat (first | apply Kd.jq | apply Kd.zx | apply Kd.jz));exact Kd.R_mono (Kd.R_far (p := ⟨gb126,3,none⟩) (Kd.R_far (p := ⟨gb126,2,none⟩) (Kd.R_far (p := ⟨gb126,1,none⟩) (Kd.R_far (p := ⟨gb126,0,none⟩) (Kd.R_types HO108.out BK126.out (by decide)) (fun _ hk => by first | exact hk.2 | trivial | (simp_all;done) | grind) (.int .i64 1)) (fun _ hk => by first | exact hk.2 | trivial | (simp_all;done) | grind) (.int .i64 0)) (fun _ hk => by first | exact hk.2 | trivial | (simp_all;done) | grind) (.slice none 0 0)) (fun _ hk => by first | exact hk.2 | trivial | (simp_all;done) | grind) (.int .i64 1)) (fun _ hk => by first | exact hk.1.2 | trivial | (simp_all;done) | grind)))⟩;have n2_ : qq (Kd.R (Kd.int .u8) 5 w59 w.heap.size (fun k_ => some k_ ≠ (.slice Ao42 t106.length co42 : Value).ownBlock) (.slice Ao43 t109.length co43) t109) := ⟨(by rw [hw];exact (by (with_reducible repeat (first | apply Kd.jq | apply Kd.zx | apply Kd.jz));exact Kd.R_mono (Kd.R_far (p := ⟨gb126,3,none⟩) (Kd.R_far (p := ⟨gb126,2,none⟩) (Kd.R_far (p := ⟨gb126,1,none⟩) (Kd.R_far (p := ⟨gb126,0,none⟩) (Kd.R_types HO111.out BK126.out (by decide)) (fun _ hk => by first | exact hk.2 | trivial | (simp_all;done) | grind) (.int .i64 1)) (fun _ hk => by first | exact hk.2 | trivial | (simp_all;done) | grind) (.int .i64 0)) (fun _ hk => by first | exact hk.2 | trivial | (simp_all;done) | grind) (.slice none 0 0)) (fun _ hk => by first | exact hk.2 | trivial | (simp_all;done) | grind) (.int .i64 1)) (fun _ hk => by first | exact hk.1.2 | trivial | (simp_all;done) | grind)))⟩;have n3_ : qq (Kd.R Kd.string 9 w59 w.heap.size (fun _ => True) (.slice Ao51 t117.length co51) t117) := ⟨(by rw [hw];exact (by (with_reducible repeat (first | apply Kd.jq | apply Kd.zx | apply Kd.jz));exact Kd.R_mono (Kd.R_far (p := ⟨gb126,3,none⟩) (Kd.R_far (p := ⟨gb126,2,none⟩) (Kd.R_far (p := ⟨gb126,1,none⟩) (Kd.R_far (p := ⟨gb126,0,none⟩) (Kd.R_types HO119.out BK126.out (by decide)) (fun _ hk => by first | exact hk.2 | trivial | (simp_all;done) | grind) (.int .i64 1)) (fun _ hk => by first | exact hk.2 | trivial | (simp_all;done) | grind) (.int .i64 0)) (fun _ hk => by first | exact hk.2 | trivial | (simp_all;done) | grind) (.slice none 0 0)) (fun _ hk => by first | exact hk.2 | trivial | (simp_all;done) | grind) (.int .i64 1)) (fun _ hk => by first | exact trivial | trivial | (simp_all;done) | grind)))⟩;have n4_ : qq (Kd.N k82 82 w59 w.heap.size (fun k_ => some k_ ≠ (.slice Ao42 t106.length co42 : Value).ownBlock ∧ some k_ ≠ (.slice Ao43 t109.length co43 : Value).ownBlock ∧ some k_ ≠ (.slice Ao51 t117.length co51 : Value).ownBlock ∧ some k_ ≠ (.slice Ao56 t127.length co56 : Value).ownBlock ∧ some k_ ≠ (.slice Ao57 t130.length co57 : Value).ownBlock ∧ k_ ≠ gb113 ∧ k_ ≠ gb126) (.slice Ao52 t123.length co52) t123) := ⟨(by rw [hw];exact (by (with_reducible repeat (first | apply Kd.vq | apply Kd.kx | apply Kd.vz));exact Kd.N_mono (Kd.N_far (p := ⟨gb126,3,none⟩) (Kd.N_far (p := ⟨gb126,2,none⟩) (Kd.N_far (p := ⟨gb126,1,none⟩) (Kd.N_far (p := ⟨gb126,0,none⟩) (Kd.N_mono HO125.out (fun k_ hk => (⟨hk,by first | exact hk.1.1.2 | grind | (simp_all;done)⟩ : _ ∧ k_ ≠ gb126))) (fun _ hk => by first | exact hk.2 | trivial | (simp_all;done) | grind) (.int .i64 1)) (fun _ hk => by first | exact hk.2 | trivial | (simp_all;done) | grind) (.int .i64 0)) (fun _ hk => by first | exact hk.2 | trivial | (simp_all;done) | grind) (.slice none 0 0)) (fun _ hk => by first | exact hk.2 | trivial | (simp_all;done) | grind) (.int .i64 1)) (fun _ hk => by first | exact ⟨hk.1.1.1.1.2.1,⟨hk.1.1.1.1.2.2.1,⟨hk.1.1.1.1.1,⟨hk.1.1.2,⟨hk.1.2,⟨hk.1.1.1.1.2.2.2,hk.1.1.1.2⟩⟩⟩⟩⟩⟩ | trivial | (simp_all;done) | grind)))⟩;have n5_ : qq (Kd.R (Kd.int .i64) 3 w59 w.heap.size (fun k_ => some k_ ≠ (.slice Ao57 t130.length co57 : Value).ownBlock) (.slice Ao56 t127.length co56) t127) := ⟨(by rw [hw];exact (by (with_reducible repeat (first | apply Kd.jq | apply Kd.zx | apply Kd.jz));exact Kd.R_mono (Kd.R_far (p := ⟨gb126,3,none⟩) (Kd.R_far (p := ⟨gb126,2,none⟩) (Kd.R_far (p := ⟨gb126,1,none⟩) (Kd.R_far (p := ⟨gb126,0,none⟩) (Kd.R_types HO129.out BK126.out (by decide)) (fun _ hk => by first | exact hk.2 | trivial | (simp_all;done) | grind) (.int .i64 1)) (fun _ hk => by first | exact hk.2 | trivial | (simp_all;done) | grind) (.int .i64 0)) (fun _ hk => by first | exact hk.2 | trivial | (simp_all;done) | grind) (.slice none 0 0)) (fun _ hk => by first | exact hk.2 | trivial | (simp_all;done) | grind) (.int .i64 1)) (fun _ hk => by first | exact hk.1.2 | trivial | (simp_all;done) | grind)))⟩;have n6_ : qq (Kd.R (Kd.int .i64) 3 w59 w.heap.size (fun k_ => some k_ ≠ (.slice Ao56 t127.length co56 : Value).ownBlock) (.slice Ao57 t130.length co57) t130) := ⟨(by rw [hw];exact (by (with_reducible repeat (first | apply Kd.jq | apply Kd.zx | apply Kd.jz));exact Kd.R_mono (Kd.R_far (p := ⟨gb126,3,none⟩) (Kd.R_far (p := ⟨gb126,2,none⟩) (Kd.R_far (p := ⟨gb126,1,none⟩) (Kd.R_far (p := ⟨gb126,0,none⟩) (Kd.R_types HO132.out BK126.out (by decide)) (fun _ hk => by first | exact hk.2 | trivial | (simp_all;done) | grind) (.int .i64 1)) (fun _ hk => by first | exact hk.2 | trivial | (simp_all;done) | grind) (.int .i64 0)) (fun _ hk => by first | exact hk.2 | trivial | (simp_all;done) | grind) (.slice none 0 0)) (fun _ hk => by first | exact hk.2 | trivial | (simp_all;done) | grind) (.int .i64 1)) (fun _ hk => by first | exact hk.1.2 | trivial | (simp_all;done) | grind)))⟩;have n7_ : qq (w59.heap[gb113]? = some (.cells #[.slice Ao39 t102.length co39,.int .i64 t105,.slice Ao42 t106.length co42] 82 (0,0))) := ⟨(by rw [hw];exact (by (with_reducible repeat (first | refine zz ?_ _ | refine zj ?_ | refine zq ?_ _));refine blk_far ?_ NB113_126.out _;(with_reducible repeat (first | refine zz ?_ _ | refine zj ?_ | refine zq ?_ _));refine blk_far ?_ NB113_126.out _;(with_reducible repeat (first | refine zz ?_ _ | refine zj ?_ | refine zq ?_ _));refine blk_far ?_ NB113_126.out _;(with_reducible repeat (first | refine zz ?_ _ | refine zj ?_ | refine zq ?_ _));refine blk_far ?_ NB113_126.out _;(with_reducible repeat (first | refine zz ?_ _ | refine zj ?_ | refine zq ?_ _));exact BK113.out))⟩;have n8_ : qq (w59.heap[gb126]? = some (.cells #[.int .i64 1,.int .i64 0,.slice none 0 0,.int .i64 1] 53 (0,0))) := ⟨(by rw [hw];exact (by (with_reducible repeat (first | refine zz ?_ _ | refine zj ?_ | refine zq ?_ _));refine blk_put (cs := #[.int .i64 1,.int .i64 0,.slice none 0 0,.int .i64 t120]) ?_ 3 _ rfl;(with_reducible repeat (first | refine zz ?_ _ | refine zj ?_ | refine zq ?_ _));refine blk_put (cs := #[.int .i64 1,.int .i64 0,.slice Ao51 t117.length co51,.int .i64 t120]) ?_ 2 _ rfl;(with_reducible repeat (first | refine zz ?_ _ | refine zj ?_ | refine zq ?_ _));refine blk_put (cs := #[.int .i64 1,.int .i64 t116,.slice Ao51 t117.length co51,.int .i64 t120]) ?_ 1 _ rfl;(with_reducible repeat (first | refine zz ?_ _ | refine zj ?_ | refine zq ?_ _));refine blk_put (cs := #[.int .i64 t115,.int .i64 t116,.slice Ao51 t117.length co51,.int .i64 t120]) ?_ 0 _ rfl;(with_reducible repeat (first | refine zz ?_ _ | refine zj ?_ | refine zq ?_ _));exact BK126.out))⟩;have n9_ : qq (Below w.heap.size w w59) := ⟨(by rw [hw];exact (by repeat (first | (with_reducible first | exact HB.out | apply qj | apply qz | apply qk | refine qx ?_ GE113.out | refine qx ?_ GE126.out) | exact HB.out)))⟩;clear hw;clear HO104;clear HO108;clear HO111;clear HO119;clear HO125;clear HO129;clear HO132;clear BK113;clear BK126;clear HB;have HO104 := n0_;have HO108 := n1_;have HO111 := n2_;have HO119 := n3_;have HO125 := n4_;have HO129 := n5_;have HO132 := n6_;have BK113 := n7_;have BK126 := n8_;have HB := n9_;clear n0_ n1_ n2_ n3_ n4_ n5_ n6_ n7_ n8_ n9_;have hcz60_0 : w59.cell? ⟨gb126,0,none⟩ = some (.int .i64 1) := (qw BK126.out 0).trans rfl;have hcz60_1 : w59.cell? ⟨gb126,1,none⟩ = some (.int .i64 0) := (qw BK126.out 1).trans rfl;have hcz60_2 : w59.cell? ⟨gb126,2,none⟩ = some (.slice none 0 0) := (qw BK126.out 2).trans rfl;have hcz60_3 : w59.cell? ⟨gb126,3,none⟩ = some (.int .i64 1) := (qw BK126.out 3).trans rfl;have hfz60_0 := qv BK126.out 0;have hfz60_1 := qv BK126.out 1;have hfz60_2 := qv BK126.out 2;have hfz60_3 := qv BK126.out 3;have hcz61_0 : w59.cell? ⟨gb113,0,none⟩ = some (.slice Ao39 t102.length co39) := (qw BK113.out 0).trans rfl;have hcz61_1 : w59.cell? ⟨gb113,1,none⟩ = some (.int .i64 t105) := (qw BK113.out 1).trans rfl;have hcz61_2 : w59.cell? ⟨gb113,2,none⟩ = some (.slice Ao42 t106.length co42) := (qw BK113.out 2).trans rfl;have hfz61_0 := qv BK113.out 0;have hfz61_1 := qv BK113.out 1;have hfz61_2 := qv BK113.out 2) | ((with_reducible refine gate_dst (N := 71) rfl ?_);refine Kd.N_lit k82 _ 82 ?hg (N' := 71) ?hd (xs := ([(⟨t102,t105,t106⟩ : S82)] : List (S82))) (inner := [.slice Ao39 t102.length co39,.int .i64 t105,.slice Ao42 t106.length co42]) (ok := (fun k_ => some k_ ≠ (.slice Ao43 t109.length co43 : Value).ownBlock ∧ some k_ ≠ (.slice Ao51 t117.length co51 : Value).ownBlock ∧ some k_ ≠ (.slice Ao52 t123.length co52 : Value).ownBlock ∧ some k_ ≠ (.slice Ao56 t127.length co56 : Value).ownBlock ∧ some k_ ≠ (.slice Ao57 t130.length co57 : Value).ownBlock ∧ k_ ≠ gb113 ∧ k_ ≠ gb126)) (okp := (fun k_ => some k_ ≠ (.slice Ao43 t109.length co43 : Value).ownBlock ∧ some k_ ≠ (.slice Ao51 t117.length co51 : Value).ownBlock ∧ some k_ ≠ (.slice Ao52 t123.length co52 : Value).ownBlock ∧ some k_ ≠ (.slice Ao56 t127.length co56 : Value).ownBlock ∧ some k_ ≠ (.slice Ao57 t130.length co57 : Value).ownBlock ∧ k_ ≠ gb113 ∧ k_ ≠ gb126)) ?hr ?hp (fun _ hk => by first | exact hk | trivial | (simp_all;done) | grind) ((show ∀ k_,w59.heap.size ≤ k_ → (fun k_ => some k_ ≠ (.slice Ao43 t109.length co43 : Value).ownBlock ∧ some k_ ≠ (.slice Ao51 t117.length co51 : Value).ownBlock ∧ some k_ ≠ (.slice Ao52 t123.length co52 : Value).ownBlock ∧ some k_ ≠ (.slice Ao56 t127.length co56 : Value).ownBlock ∧ some k_ ≠ (.slice Ao57 t130.length co57 : Value).ownBlock ∧ k_ ≠ gb113 ∧ k_ ≠ gb126) k_ from fun k_ hk => ⟨Kd.fresh' (Kd.R_lt (by (with_reducible repeat (first | apply Kd.jq | apply Kd.zx | apply Kd.jz));first | exact HO111.out | exact Kd.R_mono HO111.out (fun _ hk => by first | trivial | (simp_all;done) | grind))) k_ hk,Kd.fresh' (Kd.R_lt (by (with_reducible repeat (first | apply Kd.jq | apply Kd.zx | apply Kd.jz));first | exact HO119.out | exact Kd.R_mono HO119.out (fun _ hk => by first | trivial | (simp_all;done) | grind))) k_ hk,Kd.fresh' (Kd.N_lt (by (with_reducible repeat (first | apply Kd.vq | apply Kd.kx | apply Kd.vz));first | exact HO125.out | exact Kd.N_mono HO125.out (fun _ hk => by first | trivial | (simp_all;done) | grind))) k_ hk,Kd.fresh' (Kd.R_lt (by (with_reducible repeat (first | apply Kd.jq | apply Kd.zx | apply Kd.jz));first | exact HO129.out | exact Kd.R_mono HO129.out (fun _ hk => by first | trivial | (simp_all;done) | grind))) k_ hk,Kd.fresh' (Kd.R_lt (by (with_reducible repeat (first | apply Kd.jq | apply Kd.zx | apply Kd.jz));first | exact HO132.out | exact Kd.R_mono HO132.out (fun _ hk => by first | trivial | (simp_all;done) | grind))) k_ hk,Kd.freshB (g := gb113) (o := .cells #[.slice Ao39 t102.length co39,.int .i64 t105,.slice Ao42 t106.length co42] 82 (0,0)) (by (with_reducible repeat (first | refine zz ?_ _ | refine zj ?_ | refine zq ?_ _));exact BK113.out) k_ hk,Kd.freshB (g := gb126) (o := .cells #[.int .i64 1,.int .i64 0,.slice none 0 0,.int .i64 1] 53 (0,0)) (by (with_reducible repeat (first | refine zz ?_ _ | refine zj ?_ | refine zq ?_ _));exact BK126.out) k_ hk⟩) _ (Nat.le_refl _)) (Below.refl _ _) (Nat.le_refl _) (by simp) ?_;(case hd => rfl);(case hg => rfl);(case hr => first | (go_simp;done) | (go_simp;rfl));(case hp => exact (Reps.c3 (show Kd.FK k82 _ _ (⟨t102,t105,t106⟩ : S82) [.slice Ao39 t102.length co39,.int .i64 t105,.slice Ao42 t106.length co42] from (k82_mkF _ _ (⟨t102,t105,t106⟩ : S82) (Kd.V_reads' (Kd.V_mono (ok' := (fun k_ => some k_ ≠ (.slice Ao43 t109.length co43 : Value).ownBlock ∧ some k_ ≠ (.slice Ao51 t117.length co51 : Value).ownBlock ∧ some k_ ≠ (.slice Ao52 t123.length co52 : Value).ownBlock ∧ some k_ ≠ (.slice Ao56 t127.length co56 : Value).ownBlock ∧ some k_ ≠ (.slice Ao57 t130.length co57 : Value).ownBlock ∧ k_ ≠ gb113 ∧ k_ ≠ gb126)) (HO104.out) (fun k_ hk => ⟨hk.2.1,⟨hk.2.2.1,⟨hk.2.2.2.1,⟨hk.2.2.2.2.1,⟨hk.2.2.2.2.2.1,⟨hk.2.2.2.2.2.2.1,hk.2.2.2.2.2.2.2⟩⟩⟩⟩⟩⟩))).2.1 (Kd.V_F (Kd.V_mono (ok' := (fun k_ => some k_ ≠ (.slice Ao43 t109.length co43 : Value).ownBlock ∧ some k_ ≠ (.slice Ao51 t117.length co51 : Value).ownBlock ∧ some k_ ≠ (.slice Ao52 t123.length co52 : Value).ownBlock ∧ some k_ ≠ (.slice Ao56 t127.length co56 : Value).ownBlock ∧ some k_ ≠ (.slice Ao57 t130.length co57 : Value).ownBlock ∧ k_ ≠ gb113 ∧ k_ ≠ gb126)) (HO104.out) (fun k_ hk => ⟨hk.2.1,⟨hk.2.2.1,⟨hk.2.2.2.1,⟨hk.2.2.2.2.1,⟨hk.2.2.2.2.2.1,⟨hk.2.2.2.2.2.2.1,hk.2.2.2.2.2.2.2⟩⟩⟩⟩⟩⟩))) (Kd.R_reads' (Kd.R_mono (ok' := (fun k_ => some k_ ≠ (.slice Ao43 t109.length co43 : Value).ownBlock ∧ some k_ ≠ (.slice Ao51 t117.length co51 : Value).ownBlock ∧ some k_ ≠ (.slice Ao52 t123.length co52 : Value).ownBlock ∧ some k_ ≠ (.slice Ao56 t127.length co56 : Value).ownBlock ∧ some k_ ≠ (.slice Ao57 t130.length co57 : Value).ownBlock ∧ k_ ≠ gb113 ∧ k_ ≠ gb126)) (Kd.R_types (Kd.R_types (Kd.R_apart' (Kd.R_apart' (Kd.R_apart' (Kd.R_apart' (HO108.out) (Kd.R_typed HO119.out) (by decide)) (Kd.N_typed HO125.out) (by decide)) (Kd.R_typed HO129.out) (by decide)) (Kd.R_typed HO132.out) (by decide)) BK113.out (by decide)) BK126.out (by decide)) (fun k_ hk => ⟨hk.1.1.1.1.1.1,⟨hk.1.1.1.1.1.2,⟨hk.1.1.1.1.2,⟨hk.1.1.1.2,⟨hk.1.1.2,⟨hk.1.2,hk.2⟩⟩⟩⟩⟩⟩))).2.1 (Kd.R_F (Kd.R_mono (ok' := (fun k_ => some k_ ≠ (.slice Ao43 t109.length co43 : Value).ownBlock ∧ some k_ ≠ (.slice Ao51 t117.length co51 : Value).ownBlock ∧ some k_ ≠ (.slice Ao52 t123.length co52 : Value).ownBlock ∧ some k_ ≠ (.slice Ao56 t127.length co56 : Value).ownBlock ∧ some k_ ≠ (.slice Ao57 t130.length co57 : Value).ownBlock ∧ k_ ≠ gb113 ∧ k_ ≠ gb126)) (Kd.R_types (Kd.R_types (Kd.R_apart' (Kd.R_apart' (Kd.R_apart' (Kd.R_apart' (HO108.out) (Kd.R_typed HO119.out) (by decide)) (Kd.N_typed HO125.out) (by decide)) (Kd.R_typed HO129.out) (by decide)) (Kd.R_typed HO132.out) (by decide)) BK113.out (by decide)) BK126.out (by decide)) (fun k_ hk => ⟨hk.1.1.1.1.1.1,⟨hk.1.1.1.1.1.2,⟨hk.1.1.1.1.2,⟨hk.1.1.1.2,⟨hk.1.1.2,⟨hk.1.2,hk.2⟩⟩⟩⟩⟩⟩))))) (Reps.none _ _)));intro v135 w62 ho63 hb hg_ hnew_;clear hg_ hnew_;(first | rw [← Ny134.out] at ho63 | (simp only [Int.reduceToNat] at ho63;rw [← Ny134.out] at ho63));have n0_ := qq.mk (Kd.V_elder' (by (with_reducible repeat (first | apply Kd.wq | apply Kd.vx | apply Kd.wz));first | exact HO104.out | exact Kd.V_mono HO104.out (fun _ hk => by first | trivial | (simp_all;done) | grind)) (Kd.N_base ho63) hb);have n1_ := qq.mk (Kd.R_below (by (with_reducible repeat (first | apply Kd.jq | apply Kd.zx | apply Kd.jz));first | exact HO111.out | exact Kd.R_mono HO111.out (fun _ hk => by first | trivial | (simp_all;done) | grind)) hb);have n2_ := qq.mk (Kd.R_below (by (with_reducible repeat (first | apply Kd.jq | apply Kd.zx | apply Kd.jz));first | exact HO119.out | exact Kd.R_mono HO119.out (fun _ hk => by first | trivial | (simp_all;done) | grind)) hb);have n3_ := qq.mk (Kd.N_elder' (by (with_reducible repeat (first | apply Kd.vq | apply Kd.kx | apply Kd.vz));first | exact HO125.out | exact Kd.N_mono HO125.out (fun _ hk => by first | trivial | (simp_all;done) | grind)) (Kd.N_base ho63) hb);have n4_ := qq.mk (Kd.R_below (by (with_reducible repeat (first | apply Kd.jq | apply Kd.zx | apply Kd.jz));first | exact HO129.out | exact Kd.R_mono HO129.out (fun _ hk => by first | trivial | (simp_all;done) | grind)) hb);have n5_ := qq.mk (Kd.R_below (by (with_reducible repeat (first | apply Kd.jq | apply Kd.zx | apply Kd.jz));first | exact HO132.out | exact Kd.R_mono HO132.out (fun _ hk => by first | trivial | (simp_all;done) | grind)) hb);have n6_ := qq.mk (Kd.N_lower ho63 (zw (by repeat (first | (with_reducible first | exact HB.out | apply qj | apply qz | apply qk | refine qx ?_ GE113.out | refine qx ?_ GE126.out) | exact HB.out))));have n7_ := qq.mk (wj (g := gb113) (o := .cells #[.slice Ao39 t102.length co39,.int .i64 t105,.slice Ao42 t106.length co42] 82 (0,0)) (by (with_reducible repeat (first | refine zz ?_ _ | refine zj ?_ | refine zq ?_ _));exact BK113.out) hb);have n8_ := qq.mk (wj (g := gb126) (o := .cells #[.int .i64 1,.int .i64 0,.slice none 0 0,.int .i64 1] 53 (0,0)) (by (with_reducible repeat (first | refine zz ?_ _ | refine zj ?_ | refine zq ?_ _));exact BK126.out) hb);have n9_ := qq.mk (zv (by repeat (first | (with_reducible first | exact HB.out | apply qj | apply qz | apply qk | refine qx ?_ GE113.out | refine qx ?_ GE126.out) | exact HB.out)) hb);clear HO104;clear HO111;clear HO119;clear HO125;clear HO129;clear HO132;clear BK113;clear BK126;clear HB;clear HO108;have HO104 := n0_;have HO111 := n1_;have HO119 := n2_;have HO125 := n3_;have HO129 := n4_;have HO132 := n5_;have HO136 := n6_;have BK113 := n7_;have BK126 := n8_;have HB := n9_;clear n0_ n1_ n2_ n3_ n4_ n5_ n6_ n7_ n8_ n9_;clear hb ho63;obtain ⟨Ao64,co64,eo64⟩ := Kd.N_slice HO136.out;subst eo64) | ((with_reducible refine kj (f := 26) rfl ?_);refine goesL_ (some 72) rfl rfl Try.func26 (by kernel_rfl) rfl #[.agg #[.int .i64 1,.int .i64 0,.slice none 0 0,.int .i64 1],.string (⟨#[]⟩ : ByteArray),.string t101,.slice Ao64 y134.length co64] rfl (by (try simp only [List.map_toArray,List.map_cons,List.map_nil]);first | done | rfl | (simp only [List.length_drop,List.length_take];rfl)) ?_;(refine (qqq.calls k 1 0 _ _ ([] : List ByteArray) 1 (⟨#[]⟩ : ByteArray) t101 _ _ y134 t137 _ ?tabw ?side1 ?side2 ?side3 ?side4 A36.out).mono ?_);(case tabw => repeat (first | exact HTAB.out | exact TabW_below HTAB.out HB.out | exact TabW_below HTAB.out (by repeat (first | (with_reducible first | exact HB.out | apply qj | apply qz | apply qk | refine qx ?_ GE113.out | refine qx ?_ GE126.out) | exact HB.out)) | (with_reducible refine TabW_drewN ?_ _) | (with_reducible refine TabW_drew ?_) | (with_reducible refine TabW_alloc ?_ _)));(case side1 => exact Kd.C_nil _ _);(case side2 => exact Nat.le_refl _);(case side3 => repeat (first | exact (Kd.N_reads' HO136.out).2.2 | (with_reducible refine Kd.C_alloc ?_ _) | (with_reducible refine Kd.C_drewN ?_ _) | (with_reducible refine Kd.C_drew ?_)));(case side4 => exact (Kd.N_reads' HO136.out).2.1);rintro e w65 ⟨v138,rfl,ho0,hb⟩;refine ⟨_,rfl,?_⟩;have n0_ := qq.mk (Kd.V_elder' (by (with_reducible repeat (first | apply Kd.wq | apply Kd.vx | apply Kd.wz));first | exact HO104.out | exact Kd.V_mono HO104.out (fun _ hk => by first | trivial | (simp_all;done) | grind)) (Kd.R_base ho0) hb);have n1_ := qq.mk (Kd.R_below (by (with_reducible repeat (first | apply Kd.jq | apply Kd.zx | apply Kd.jz));first | exact HO111.out | exact Kd.R_mono HO111.out (fun _ hk => by first | trivial | (simp_all;done) | grind)) hb);have n2_ := qq.mk (Kd.R_below (by (with_reducible repeat (first | apply Kd.jq | apply Kd.zx | apply Kd.jz));first | exact HO119.out | exact Kd.R_mono HO119.out (fun _ hk => by first | trivial | (simp_all;done) | grind)) hb);have n3_ := qq.mk (Kd.N_elder' (by (with_reducible repeat (first | apply Kd.vq | apply Kd.kx | apply Kd.vz));first | exact HO125.out | exact Kd.N_mono HO125.out (fun _ hk => by first | trivial | (simp_all;done) | grind)) (Kd.R_base ho0) hb);have n4_ := qq.mk (Kd.R_elder' (by (with_reducible repeat (first | apply Kd.jq | apply Kd.zx | apply Kd.jz));first | exact HO129.out | exact Kd.R_mono HO129.out (fun _ hk => by first | trivial | (simp_all;done) | grind)) (Kd.R_base ho0) hb);have n5_ := qq.mk (Kd.R_elder' (by (with_reducible repeat (first | apply Kd.jq | apply Kd.zx | apply Kd.jz));first | exact HO132.out | exact Kd.R_mono HO132.out (fun _ hk => by first | trivial | (simp_all;done) | grind)) (Kd.R_base ho0) hb);have n6_ := qq.mk (Kd.N_elder' (by (with_reducible repeat (first | apply Kd.vq | apply Kd.kx | apply Kd.vz));first | exact HO136.out | exact Kd.N_mono HO136.out (fun _ hk => by first | trivial | (simp_all;done) | grind)) (Kd.R_base ho0) hb);have n7_ := qq.mk (Kd.R_lower (Kd.R_new' (Kd.R_new' ho0 (Kd.R_lt (by (with_reducible repeat (first | apply Kd.jq | apply Kd.zx | apply Kd.jz));first | exact HO129.out | exact Kd.R_mono HO129.out (fun _ hk => by first | trivial | (simp_all;done) | grind)))) (Kd.R_lt (by (with_reducible repeat (first | apply Kd.jq | apply Kd.zx | apply Kd.jz));first | exact HO132.out | exact Kd.R_mono HO132.out (fun _ hk => by first | trivial | (simp_all;done) | grind)))) (zw (by repeat (first | (with_reducible first | exact HB.out | apply qj | apply qz | apply qk | refine qx ?_ GE113.out | refine qx ?_ GE126.out) | exact HB.out))));have n8_ := qq.mk (wj (g := gb113) (o := .cells #[.slice Ao39 t102.length co39,.int .i64 t105,.slice Ao42 t106.length co42] 82 (0,0)) (by (with_reducible repeat (first | refine zz ?_ _ | refine zj ?_ | refine zq ?_ _));exact BK113.out) hb);have n9_ := qq.mk (wj (g := gb126) (o := .cells #[.int .i64 1,.int .i64 0,.slice none 0 0,.int .i64 1] 53 (0,0)) (by (with_reducible repeat (first | refine zz ?_ _ | refine zj ?_ | refine zq ?_ _));exact BK126.out) hb);have n10_ := qq.mk (zv (by repeat (first | (with_reducible first | exact HB.out | apply qj | apply qz | apply qk | refine qx ?_ GE113.out | refine qx ?_ GE126.out) | exact HB.out)) hb);clear HO104;clear HO111;clear HO119;clear HO125;clear HO129;clear HO132;clear HO136;clear BK113;clear BK126;clear HB;have HO104 := n0_;have HO111 := n1_;have HO119 := n2_;have HO125 := n3_;have HO129 := n4_;have HO132 := n5_;have HO136 := n6_;have HO139 := n7_;have BK113 := n8_;have BK126 := n9_;have HB := n10_;clear n0_ n1_ n2_ n3_ n4_ n5_ n6_ n7_ n8_ n9_ n10_;(try clear hb);(try clear hb2);(try clear hk);(try clear hi);(try clear ho0);obtain ⟨Ao66,co66,eo66⟩ := Kd.R_slice HO139.out;subst eo66) | ((with_reducible refine kj (f := 49) rfl ?_);refine goesL_ (some 73) rfl rfl Try.func49 (by kernel_rfl) rfl #[.slice Ao66 t137.length co66,.int .i64 7] rfl (by (try simp only [List.map_toArray,List.map_cons,List.map_nil]);first | done | rfl | (simp only [List.length_drop,List.length_take];rfl)) ?_;(with_reducible refine (qzw.calls k _ _ t137 7 t140 _ ?side1 ?side2 A37.out).mono ?_);(case side1 => repeat (first | exact (Kd.R_reads' HO139.out).2.2 | (with_reducible refine Kd.C_alloc ?_ _) | (with_reducible refine Kd.C_drewN ?_ _) | (with_reducible refine Kd.C_drew ?_)));(case side2 => exact (Kd.R_reads' HO139.out).2.1);rintro e w' ⟨rfl,⟨nd,rfl⟩⟩;refine ⟨_,rfl,?_⟩))
      go_ret
      exact ⟨by first | rfl | (simp [*,kz,jx] <;> rfl),by repeat (first | (with_reducible first | exact HB.out | apply qj | apply qz | apply qk | refine qx ?_ GE113.out | refine qx ?_ GE126.out) | exact HB.out)⟩
    ·replace c14 := Bool.eq_false_iff.mpr c14
     subst c14
     have H1 : (none) = some r := by rw [if_neg (show ¬ (false = true) by decide)] at H;exact H
     clear H
     have H := H1
     clear H1
     exact absurd H (by simp)
  ·replace c7 := Bool.eq_false_iff.mpr c7
   subst c7
   have H1 : (none) = some r := by rw [if_neg (show ¬ (false = true) by decide)] at H;exact H
   clear H
   have H := H1
   clear H1
   exact absurd H (by simp)
open Go.RowKit Go.Proofs.Ytgolcojhnklfdaa.Read Go.Proofs.YtgolcojhnklfdaaW.PrintWords
def qzq.Pure : Prop := ∀ (l0 : (List Int)),(okL okB) l0 → ∃ k,qzq.f k l0 = some true
theorem w64 {n : Int} (h0 : -9223372036854775808 ≤ n) (h1 : n ≤ 9223372036854775807) : wrap64 n = n := by unfold wrap64;omega
theorem rd_nat {l : List Int} {i : Nat} (h : i < l.length) : rd l (i : Int) = l[i] := by
 simp [rd,List.getD_eq_getElem?_getD,List.getElem?_eq_getElem h]
def inP (a : List Int) : Prop := a.length = 4 ∧ ∀ j,j < 4 → 0 ≤ a.getD j 0 ∧ a.getD j 0 < 2147483579
theorem inP_start : inP [11,22,33,44] := ⟨rfl,by decide⟩
theorem inP_mix {a : List Int} (h : inP a) (x : Int) (hx : 0 ≤ x) : inP (dgMix a x) := ⟨by rw [dgMix,mix_len,h.1],mix_bd a x hx h.1 h.2 4 (by omega)⟩
theorem dgAll_cons (a : List Int) (x : Int) (l : List Int) : dgAll a (x :: l) = dgAll (dgMix a x) l := rfl
theorem mt_at (i : Nat) (h : i < 4) : rd [1103515245,69069,1664525,22695477] (i : Int) = mulT.getD i 0 := by
 match i,h with
 | 0,_ => rfl
 | 1,_ => rfl
 | 2,_ => rfl
 | 3,_ => rfl
theorem rd_getD (l : List Int) (i : Nat) : rd l (i : Int) = l.getD i 0 := by simp [rd]
theorem specMix_step (l : List Int) (h : inP l) (x : Int) (hx : 0 ≤ x ∧ x ≤ 255) (i : Nat) (hi : i < 4) (k : Nat) :
  qwq.l0 (k + 1) (mixN l x i) x [1103515245,69069,1664525,22695477] i = qwq.l0 k (mixN l x (i + 1)) x [1103515245,69069,1664525,22695477] ((i + 1 : Nat) : Int) := by
 have hlen : (mixN l x i).length = 4 := by rw [mix_len,h.1]
 have b1 := mix_bd l x hx.1 h.1 h.2 i (by omega) i hi
 have b2 := mix_bd l x hx.1 h.1 h.2 i (by omega) ((i + 1) % 4) (by omega)
 have b3 := mulOk i hi
 simp only [qwq.l0]
 rw [w64 (n := (i : Int) + 1) (by omega) (by omega)]
 have e6 : Int.tmod ((i : Int) + 1) 4 = ((i + 1) % 4 : Nat) := by rw [Int.tmod_eq_emod_of_nonneg (by omega)];omega
 rw [e6,mt_at i hi,rd_getD,rd_getD]
 obtain ⟨p1,e1⟩ : ∃ p,p = (mixN l x i).getD i 0 := ⟨_,rfl⟩
 obtain ⟨p2,e2⟩ : ∃ p,p = (mixN l x i).getD ((i + 1) % 4) 0 := ⟨_,rfl⟩
 obtain ⟨p3,e3⟩ : ∃ p,p = mulT.getD i 0 := ⟨_,rfl⟩
 have e5 : mixN l x (i + 1) = (mixN l x i).set i ((p1 * p3 + x + 1 + p2) % 2147483579) := by rw [e1,e2,e3];rfl
 rw [e5,← e1,← e2,← e3]
 rw [← e1] at b1;rw [← e2] at b2;rw [← e3] at b3
 have b4 := prod_bd b1.1 b1.2 b3.1 b3.2
 rw [if_pos (by omega),if_pos (by omega),if_pos (by omega),if_pos (by simp;omega),if_pos (by omega),if_pos (by omega),w64 (n := p1 * p3) (by omega) (by omega),w64 (n := p1 * p3 + x) (by omega) (by omega),w64 (n := p1 * p3 + x + 1) (by omega) (by omega),w64 (by omega) (by omega),Int.tmod_eq_emod_of_nonneg (by omega),Int.toNat_natCast]
 rfl
theorem specMix_eq (l : List Int) (h : inP l) (x : Int) (hx : 0 ≤ x ∧ x ≤ 255) (k : Nat) (hk : 5 ≤ k) : qwq.f k l x = some (dgMix l x) := by
 obtain ⟨k,rfl⟩ : ∃ m,k = m + 5 := ⟨k - 5,by omega⟩
 unfold qwq.f
 have e0 := specMix_step l h x hx 0 (by omega) (k + 4)
 have e1 := specMix_step l h x hx 1 (by omega) (k + 3)
 have e2 := specMix_step l h x hx 2 (by omega) (k + 2)
 have e3 := specMix_step l h x hx 3 (by omega) (k + 1)
 have e4 : qwq.l0 (k + 1) (mixN l x 4) x [1103515245,69069,1664525,22695477] ((3 + 1 : Nat) : Int) = some (mixN l x 4) := by
  simp only [qwq.l0];rw [if_neg (by omega)]
 exact e0.trans (e1.trans (e2.trans (e3.trans e4)))
theorem tm256 (n : Int) (h : 0 ≤ n) : Int.tmod n 256 % 256 = n % 256 := by rw [Int.tmod_eq_emod_of_nonneg h];omega
theorem td256 (n : Int) (h : 0 ≤ n) (h2 : n ≤ 9223372036854775807) : wrap64 (Int.tdiv n 256) = n / 256 := by
 rw [Int.tdiv_eq_ediv_of_nonneg h,w64 (by omega) (by omega)]
theorem specBytes_eq (n : Int) (h : 0 ≤ n) (h2 : n ≤ 9223372036854775807) (k : Nat) (hk : 5 ≤ k) : qvv.f k n = some (yb n) := by
 obtain ⟨k,rfl⟩ : ∃ m,k = m + 5 := ⟨k - 5,by omega⟩
 unfold qvv.f
 rw [if_pos (by omega)]
 simp only [Option.bind_some,List.length_replicate]
 simp only [qvv.l0]
 have a1 := td256 n h h2
 have a2 := td256 (n / 256) (by omega) (by omega)
 have a3 := td256 (n / 256 / 256) (by omega) (by omega)
 have w1 : wrap64 ((0 : Int) + 1) = 1 := by unfold wrap64;omega
 have w2 : wrap64 ((1 : Int) + 1) = 2 := by unfold wrap64;omega
 have w3 : wrap64 ((2 : Int) + 1) = 3 := by unfold wrap64;omega
 have w4 : wrap64 ((3 : Int) + 1) = 4 := by unfold wrap64;omega
 rw [w1,w2,w3,w4,a1,a2,a3,tm256 n h,tm256 _ (by omega),tm256 _ (by omega),tm256 _ (by omega)]
 simp [yb,List.replicate]
 omega
theorem specDig_l3 (a : List Int) (h : inP a) : ∀ (k : Nat),10 ≤ k → qvw.l3 k [] a (a.length : Int) 0 = some (a.flatMap yb) := by
 intro k hk
 obtain ⟨k,rfl⟩ : ∃ m,k = m + 10 := ⟨k - 10,by omega⟩
 obtain ⟨hl,hb⟩ := h
 match a,hl with
 | [b0,b1,b2,b3],_ =>
  have h0 := hb 0 (by omega)
  have h1 := hb 1 (by omega)
  have h2 := hb 2 (by omega)
  have h3 := hb 3 (by omega)
  simp only [List.getD_cons_zero,List.getD_cons_succ] at h0 h1 h2 h3
  have w1 : wrap64 ((0 : Int) + 1) = 1 := by unfold wrap64;omega
  have w2 : wrap64 ((1 : Int) + 1) = 2 := by unfold wrap64;omega
  have w3 : wrap64 ((2 : Int) + 1) = 3 := by unfold wrap64;omega
  have w4 : wrap64 ((3 : Int) + 1) = 4 := by unfold wrap64;omega
  have r0 : rd [b0,b1,b2,b3] 0 = b0 := rfl
  have r1 : rd [b0,b1,b2,b3] 1 = b1 := rfl
  have r2 : rd [b0,b1,b2,b3] 2 = b2 := rfl
  have r3 : rd [b0,b1,b2,b3] 3 = b3 := rfl
  simp only [qvw.l3,w1,w2,w3,w4,r0,r1,r2,r3]
  rw [specBytes_eq b0 (by omega) (by omega) _ (by omega),specBytes_eq b1 (by omega) (by omega) _ (by omega),specBytes_eq b2 (by omega) (by omega) _ (by omega),specBytes_eq b3 (by omega) (by omega) _ (by omega)]
  simp [yb]
theorem specDig_l2 (d : Nat) : ∀ (a : List Int) (k i : Nat),inP a → i + d = 8 → d + 12 ≤ k → qvw.l2 k a i = some ((dgAll a (List.replicate d 0)).flatMap yb) := by
 induction d with
 | zero =>
  intro a k i h hi hk
  obtain ⟨k,rfl⟩ : ∃ m,k = m + 1 := ⟨k - 1,by omega⟩
  simp only [qvw.l2]
  rw [if_neg (by omega),specDig_l3 a h k (by omega)];rfl
 | succ d ih =>
  intro a k i h hi hk
  obtain ⟨k,rfl⟩ : ∃ m,k = m + 1 := ⟨k - 1,by omega⟩
  simp only [qvw.l2]
  rw [if_pos (by omega),specMix_eq a h 0 (by omega) k (by omega)]
  simp only [Option.bind_some]
  rw [w64 (by omega) (by omega),show ((i : Int) + 1) = ((i + 1 : Nat) : Int) from rfl,ih (dgMix a 0) k (i + 1) (inP_mix h 0 (by omega)) (by omega) (by omega)]
  rfl
theorem wbyte {x : Int} (h : 0 ≤ x ∧ x ≤ 255) : wrap64 x = x := w64 (by omega) (by omega)
theorem drop_rd {l : List Int} {i : Nat} (h : i < l.length) : l.drop i = rd l i :: l.drop (i + 1) := by rw [List.drop_eq_getElem_cons h,rd_nat h]
theorem specDig_l1 (xs : List Int) (hx : isBytes xs) (hl : xs.length ≤ 1000000000) (d : Nat) : ∀ (a : List Int) (k i : Nat),inP a → i + d = xs.length → d + 24 ≤ k →
  qvw.l1 k a xs (xs.length : Int) i = some ((dgAll (dgAll a (xs.drop i)) (List.replicate 8 0)).flatMap yb) := by
 induction d with
 | zero =>
  intro a k i h hi hk
  obtain ⟨k,rfl⟩ : ∃ m,k = m + 1 := ⟨k - 1,by omega⟩
  simp only [qvw.l1]
  rw [if_neg (by omega),List.drop_of_length_le (by omega)]
  exact specDig_l2 8 a k 0 h (by omega) (by omega)
 | succ d ih =>
  intro a k i h hi hk
  obtain ⟨k,rfl⟩ : ∃ m,k = m + 1 := ⟨k - 1,by omega⟩
  have hlt : i < xs.length := by omega
  have hb := hx (rd xs i) (rd_mem hlt)
  simp only [qvw.l1]
  rw [if_pos (by omega),if_pos (by omega),if_pos (by omega),wbyte hb,specMix_eq a h _ hb k (by omega)]
  simp only [Option.bind_some]
  rw [w64 (by omega) (by omega),show ((i : Int) + 1) = ((i + 1 : Nat) : Int) from rfl,ih _ k (i + 1) (inP_mix h _ hb.1) (by omega) (by omega),drop_rd hlt,dgAll_cons]
theorem specDig_l0 (xs ys : List Int) (hx : isBytes xs) (hl : xs.length ≤ 1000000000) (hly : ys.length ≤ 1000000000) (d : Nat) : ∀ (a : List Int) (k i : Nat),inP a → i + d = xs.length → d + 40 ≤ k →
  qvw.l0 k ys a xs (xs.length : Int) i = some ((dgAll (dgAll (dgAll a (xs.drop i)) (yb ys.length)) (List.replicate 8 0)).flatMap yb) := by
 induction d with
 | zero =>
  intro a k i h hi hk
  obtain ⟨k,rfl⟩ : ∃ m,k = m + 1 := ⟨k - 1,by omega⟩
  simp only [qvw.l0]
  rw [if_neg (by omega),List.drop_of_length_le (by omega),specBytes_eq _ (by omega) (by omega) k (by omega)]
  exact specDig_l1 (yb ys.length) (yb_bytes _) (by rw [yb_len];omega) 4 a k 0 h (by rw [yb_len]) (by omega)
 | succ d ih =>
  intro a k i h hi hk
  obtain ⟨k,rfl⟩ : ∃ m,k = m + 1 := ⟨k - 1,by omega⟩
  have hlt : i < xs.length := by omega
  have hb := hx (rd xs i) (rd_mem hlt)
  simp only [qvw.l0]
  rw [if_pos (by omega),if_pos (by omega),if_pos (by omega),wbyte hb,specMix_eq a h _ hb k (by omega)]
  simp only [Option.bind_some]
  rw [w64 (by omega) (by omega),show ((i : Int) + 1) = ((i + 1 : Nat) : Int) from rfl,ih _ k (i + 1) (inP_mix h _ hb.1) (by omega) (by omega),drop_rd hlt,dgAll_cons]
theorem specDigest_eq (l : List Int) (h : isBytes l) (hl : l.length ≤ 1000000000) (k : Nat) (hk : l.length + 40 ≤ k) : qvw.f k l = some (dg l) := by
 have := specDig_l0 l l h hl hl l.length [11,22,33,44] k 0 inP_start (by omega) hk
 simpa [qvw.f,dg,dgS] using this
theorem specDigest_ev (l : List Int) (h : isBytes l) (hl : l.length ≤ 1000000000) : Ev (fun k => qvw.f k l) (dg l) := ⟨_,fun k hk => specDigest_eq l h hl k hk⟩
theorem isBytes_flatMap_yb (a : List Int) : isBytes (a.flatMap yb) := by
 intro x hx
 obtain ⟨n,_,hn⟩ := List.mem_flatMap.1 hx
 exact yb_bytes n x hn
theorem dg_bytes (l : List Int) : isBytes (dg l) := isBytes_flatMap_yb _
theorem dgAll_len : ∀ (l a : List Int),(dgAll a l).length = a.length
 | [],_ => rfl
 | x :: l,a => by rw [dgAll_cons,dgAll_len l,dgMix,mix_len]
theorem dg_len (l : List Int) : (dg l).length = 16 := by
 have h : (dgS l).length = 4 := by simp [dgS,dgAll_len]
 unfold dg
 match dgS l,h with
 | [b0,b1,b2,b3],_ => rfl
theorem isBytes_append {a b : List Int} (h : isBytes a) (h2 : isBytes b) : isBytes (a ++ b) := fun x hx => (List.mem_append.1 hx).elim (h x) (h2 x)
theorem implDigest_eq (l : List Int) (h : isBytes l) (hl : l.length ≤ 20000) : xv.f l = some (dg l) := by
 unfold xv.f;rw [if_pos h,if_neg (by omega)]
theorem bytesOf_isBytes (s : ByteArray) : isBytes (bytesOf s) := by
 intro x hx
 simp only [bytesOf,List.mem_map] at hx
 obtain ⟨b,_,rfl⟩ := hx
 have := b.toNat_lt
 omega
def macL (key data : List Int) : List Int := dg (dg key ++ dg data)
theorem Ev.up2 {α : Type} {g : Nat → Option α} {r : α} (h : Ev (fun k => g (k + 1)) r) : Ev g r := by
 obtain ⟨n,hn⟩ := h
 refine ⟨n + 1,fun k hk => ?_⟩
 obtain ⟨k,rfl⟩ : ∃ m,k = m + 1 := ⟨k - 1,by omega⟩
 exact hn k (by omega)
theorem macTwo_ev (a b : List Int) (ha : isBytes a) (hb : isBytes b) (la : a.length ≤ 100000000) (lb : b.length ≤ 100000000) : Ev (fun k => qwz.f k a b) (dg (a ++ b)) := by
 have hab := specDigest_ev (a ++ b) (isBytes_append ha hb) (by rw [List.length_append];omega)
 simp only [qwz.f,List.length_nil,if_pos (show 0 + a.length < 140737488355328 by omega),List.nil_append,Option.bind_some,if_pos (show a.length + b.length < 140737488355328 by omega)]
 exact Ev.bind hab (Ev.now _)
theorem macS_ev (a b : List Int) (ha : isBytes a) (hb : isBytes b) (la : a.length ≤ 100000000) (lb : b.length ≤ 100000000) : Ev (fun k => qvx.f k a b) (macL a b) := by
 simp only [qvx.f]
 refine Ev.bind (specDigest_ev a ha (by omega)) ?_
 refine Ev.bind (specDigest_ev b hb (by omega)) ?_
 exact Ev.bind (macTwo_ev _ _ (dg_bytes a) (dg_bytes b) (by rw [dg_len];omega) (by rw [dg_len];omega)) (Ev.now _)
theorem macI_ev (a b : List Int) (ha : isBytes a) (hb : isBytes b) (la : a.length ≤ 20000) (lb : b.length ≤ 20000) : Ev (fun k => xw.f k a b) (macL a b) := by
 refine Ev.up2 ?_
 simp only [xw.f,if_neg (show ¬ ((a.length : Int) > 20000) by omega),decide_eq_false (show ¬ ((b.length : Int) > 20000) by omega),xw.j0,Bool.false_eq_true,if_false,implDigest_eq a ha la,implDigest_eq b hb lb,Option.bind_some,if_pos (show (dg a).length + (dg b).length < 140737488355328 by rw [dg_len,dg_len];omega),implDigest_eq _ (isBytes_append (dg_bytes a) (dg_bytes b)) (show (dg a ++ dg b).length ≤ 20000 by rw [List.length_append,dg_len,dg_len];omega)]
 exact Ev.now _
theorem mac_bytes (a b : List Int) : isBytes (macL a b) := dg_bytes _
theorem mac_len (a b : List Int) : (macL a b).length = 16 := dg_len _
theorem bytesS_eq (s : ByteArray) (h : s.size ≤ 9223372036854775807) : bytesOfS.f s = some (bytesOf s) := by unfold bytesOfS.f;rw [if_pos h]
theorem Ev.upH {α : Type} {g : Nat → Option α} {r : α} (h : Ev (fun k => g (k + 1)) r) : Ev g r := by
 obtain ⟨n,hn⟩ := h
 exact ⟨n + 1,fun k hk => by
  obtain ⟨m,rfl⟩ : ∃ m,k = m + 1 := ⟨k - 1,by omega⟩
  exact hn m (by omega)⟩
def hashR (p : ByteArray) : Nat → List Int → List Int
 | 0,h => h
 | n + 1,h => hashR p n (macL (bytesOf p) h)
def hashL (p : ByteArray) (salt : List Int) (n : Int) : List Int := if 64 < p.size ∨ 64 < salt.length ∨ n < 1 ∨ 1000 < n then [] else hashR p (n.toNat - 1) (macL (bytesOf p) salt)
theorem l16Hash_l0 (p : ByteArray) (hp : p.size ≤ 64) (n : Nat) (hn : n ≤ 1000) (d : Nat) : ∀ (i : Nat) (h : List Int),isBytes h → h.length = 16 → i + d = n → Ev (fun k => qjv.l0 k (n : Int) (bytesOf p) h (i : Int)) (hashR p d h) := by
 induction d with
 | zero =>
  intro i h hb hl hi
  refine Ev.upH ?_
  simp only [qjv.l0,if_neg (show ¬ (i : Int) < (n : Int) by omega)]
  exact Ev.now _
 | succ d ih =>
  intro i h hb hl hi
  refine Ev.upH ?_
  simp only [qjv.l0,if_pos (show (i : Int) < (n : Int) by omega)]
  refine Ev.bind (macS_ev (bytesOf p) h (bytesOf_isBytes p) hb (by rw [bytesOf_length];omega) (by omega)) ?_
  rw [w64 (show -9223372036854775808 ≤ (i : Int) + 1 by omega) (by omega),show (i : Int) + 1 = ((i + 1 : Nat) : Int) from rfl]
  exact ih (i + 1) _ (mac_bytes _ _) (mac_len _ _) (by omega)
theorem passHash_l0 (p : ByteArray) (hp : p.size ≤ 64) (n : Nat) (hn : n ≤ 1000) (d : Nat) : ∀ (i : Nat) (h : List Int),isBytes h → h.length = 16 → i + d = n → Ev (fun k => qqz.l0 k p h (n : Int) (i : Int)) (hashR p d h) := by
 induction d with
 | zero =>
  intro i h hb hl hi
  refine Ev.upH ?_
  simp only [qqz.l0,if_neg (show ¬ (i : Int) < (n : Int) by omega)]
  exact Ev.now _
 | succ d ih =>
  intro i h hb hl hi
  refine Ev.upH ?_
  simp only [qqz.l0,if_pos (show (i : Int) < (n : Int) by omega),bytesS_eq p (by omega),Option.bind_some]
  refine Ev.bind (macI_ev (bytesOf p) h (bytesOf_isBytes p) hb (by rw [bytesOf_length];omega) (by omega)) ?_
  rw [w64 (show -9223372036854775808 ≤ (i : Int) + 1 by omega) (by omega),show (i : Int) + 1 = ((i + 1 : Nat) : Int) from rfl]
  exact ih (i + 1) _ (mac_bytes _ _) (mac_len _ _) (by omega)
theorem specHash_ev (p : ByteArray) (salt : List Int) (n : Int) (hs : isBytes salt) : Ev (fun k => qjz.f k p salt n) (hashL p salt n) := by
 unfold hashL
 by_cases h1 : 64 < p.size
 ·simp only [qjz.f,if_pos (show (p.size : Int) > 64 by omega),if_pos (Or.inl h1)];exact Ev.now _
 by_cases h2 : 64 < salt.length
 ·simp only [qjz.f,if_neg (show ¬ (p.size : Int) > 64 by omega),if_pos (show (salt.length : Int) > 64 by omega),if_pos (Or.inr (Or.inl h2))];exact Ev.now _
 by_cases h3 : n < 1
 ·simp only [qjz.f,if_neg (show ¬ (p.size : Int) > 64 by omega),if_neg (show ¬ (salt.length : Int) > 64 by omega),if_pos h3,if_pos (Or.inr (Or.inr (Or.inl h3)))];exact Ev.now _
 by_cases h4 : 1000 < n
 ·simp only [qjz.f,if_neg (show ¬ (p.size : Int) > 64 by omega),if_neg (show ¬ (salt.length : Int) > 64 by omega),if_neg h3,if_pos (show n > 1000 from h4),if_pos (Or.inr (Or.inr (Or.inr h4)))];exact Ev.now _
 rw [if_neg (fun h => by rcases h with h | h | h | h <;> contradiction)]
 obtain ⟨m,rfl⟩ : ∃ m : Nat,n = (m : Int) := ⟨n.toNat,by omega⟩
 simp only [qjz.f,if_neg (show ¬ (p.size : Int) > 64 by omega),if_neg (show ¬ (salt.length : Int) > 64 by omega),if_neg h3,if_neg (show ¬ (m : Int) > 1000 from h4),qjv.f,bytesS_eq p (by omega),Option.bind_some]
 refine Ev.bind (Ev.bind (macS_ev (bytesOf p) salt (bytesOf_isBytes p) hs (by rw [bytesOf_length];omega) (by omega)) ?_) (Ev.now _)
 rw [Int.toNat_natCast]
 exact l16Hash_l0 p (by omega) m (by omega) (m - 1) 1 _ (mac_bytes _ _) (mac_len _ _) (by omega)
theorem implHash_ev (p : ByteArray) (salt : List Int) (n : Int) (hs : isBytes salt) : Ev (fun k => qqz.f k p salt n) (hashL p salt n) := by
 unfold hashL
 refine Ev.upH ?_
 by_cases h1 : 64 < p.size
 ·simp only [qqz.f,qqz.j0,if_pos (show (p.size : Int) > 64 by omega),if_pos (Or.inl h1),if_true];exact Ev.now _
 by_cases h2 : 64 < salt.length
 ·simp only [qqz.f,qqz.j0,if_neg (show ¬ (p.size : Int) > 64 by omega),if_pos (show (salt.length : Int) > 64 by omega),if_pos (Or.inr (Or.inl h2)),if_true];exact Ev.now _
 by_cases h3 : n < 1
 ·simp only [qqz.f,qqz.j0,if_neg (show ¬ (p.size : Int) > 64 by omega),if_neg (show ¬ (salt.length : Int) > 64 by omega),if_pos h3,if_pos (Or.inr (Or.inr (Or.inl h3))),if_true];exact Ev.now _
 by_cases h4 : 1000 < n
 ·simp only [qqz.f,qqz.j0,if_neg (show ¬ (p.size : Int) > 64 by omega),if_neg (show ¬ (salt.length : Int) > 64 by omega),if_neg h3,decide_eq_true (show n > 1000 from h4),if_pos (Or.inr (Or.inr (Or.inr h4))),if_true];exact Ev.now _
 rw [if_neg (fun h => by rcases h with h | h | h | h <;> contradiction)]
 obtain ⟨m,rfl⟩ : ∃ m : Nat,n = (m : Int) := ⟨n.toNat,by omega⟩
 simp only [qqz.f,qqz.j0,if_neg (show ¬ (p.size : Int) > 64 by omega),if_neg (show ¬ (salt.length : Int) > 64 by omega),if_neg h3,decide_eq_false (show ¬ (m : Int) > 1000 from h4),Bool.false_eq_true,if_false,bytesS_eq p (by omega),Option.bind_some]
 refine Ev.bind (macI_ev (bytesOf p) salt (bytesOf_isBytes p) hs (by rw [bytesOf_length];omega) (by omega)) ?_
 rw [Int.toNat_natCast,w64 (show -9223372036854775808 ≤ (m : Int) - 1 by omega) (by omega),show (m : Int) - 1 = ((m - 1 : Nat) : Int) by omega]
 exact passHash_l0 p (by omega) (m - 1) (by omega) (m - 1) 0 _ (mac_bytes _ _) (mac_len _ _) (by omega)
def pcL (p : ByteArray) (f0 : List Int) (f1 : Int) (f2 : List Int) : Bool := if (hashL p f0 f1).length = 0 then false else (strOfNums (hashL p f0 f1)).toList == (strOfNums f2).toList
theorem specCheck_ev (p : ByteArray) (f0 : List Int) (f1 : Int) (f2 : List Int) (hs : isBytes f0) : Ev (fun k => qzx.f k f0 f1 f2 p) (pcL p f0 f1 f2) := by
 unfold qzx.f
 refine Ev.bind (specHash_ev p f0 f1 hs) ?_
 unfold pcL
 by_cases h : (hashL p f0 f1).length = 0
 ·simp only [if_pos h,if_neg (show ¬ ((hashL p f0 f1).length : Int) > 0 by omega)];exact Ev.now _
 ·simp only [if_neg h,if_pos (show ((hashL p f0 f1).length : Int) > 0 by omega)];exact Ev.now _
theorem implCheck_ev (p : ByteArray) (f0 : List Int) (f1 : Int) (f2 : List Int) (hs : isBytes f0) : Ev (fun k => xx.f k f0 f1 f2 p) (pcL p f0 f1 f2) := by
 unfold xx.f
 refine Ev.bind (implHash_ev p f0 f1 hs) ?_
 unfold pcL
 by_cases h : (hashL p f0 f1).length = 0
 ·simp only [if_pos h];exact Ev.now _
 ·simp only [if_neg h];exact Ev.now _
theorem contains_nil (s : List UInt8) : Lib.contains s [] = true := by
 unfold Lib.contains
 cases s with
 | nil => rfl
 | cons b l => rfl
theorem contains_cons (b : UInt8) (l sub : List UInt8) : Lib.contains (b :: l) sub = (sub.isPrefixOf (b :: l) || Lib.contains l sub) := by
 unfold Lib.contains
 rw [Lib.index]
 by_cases h : sub.isPrefixOf (b :: l) = true
 ·rw [if_pos h,h];rfl
 ·rw [if_neg h,Bool.eq_false_iff.2 h,Bool.false_or]
  have := Lib.index_ge l sub
  by_cases h2 : Lib.index l sub = -1
  ·rw [if_pos (by rw [h2];rfl),h2]
  ·rw [if_neg (by simpa using h2)]
   exact decide_eq_decide.mpr (by omega)
theorem contains_short : ∀ (s sub : List UInt8),s.length < sub.length → Lib.contains s sub = false
 | [],sub,h => by
  cases sub with
  | nil => cases h
  | cons b l => rfl
 | b :: l,sub,h => by
  rw [contains_cons,contains_short l sub (by simp only [List.length_cons] at h;omega),Bool.or_false]
  rw [Bool.eq_false_iff]
  intro hp
  have := (List.isPrefixOf_iff_prefix.1 hp).length_le
  omega
theorem ext_listC (s : ByteArray) (i j : Nat) : (s.extract i j).data.toList = (s.data.toList.drop i).take (j - i) := by
 rw [ByteArray.data_extract,Array.toList_extract,List.extract_eq_take_drop]
theorem prefix_take (sub l : List UInt8) : sub.isPrefixOf l = true ↔ l.take sub.length = sub := by
 rw [List.isPrefixOf_iff_prefix,List.prefix_iff_eq_take]
 exact ⟨fun h => h.symm,fun h => h.symm⟩
theorem l16In_l0 (what inn : ByteArray) (hw : what.size ≤ 1000000) (hi : inn.size ≤ 1000000) (d : Nat) : ∀ (k i : Nat),i + d = inn.size → d + 1 < k → qjw.l0 k what inn (i : Int) = some (Lib.contains (inn.data.toList.drop i) what.data.toList) := by
 induction d with
 | zero =>
  intro k i h hk
  obtain ⟨k,rfl⟩ : ∃ m,k = m + 1 := ⟨k - 1,by omega⟩
  have hd : inn.data.toList.drop i = [] := List.drop_eq_nil_of_le (by rw [data_length];omega)
  simp only [qjw.l0]
  rw [hd,w64 (by omega) (by omega)]
  by_cases hz : what.size = 0
  ·have hwn : what.data.toList = [] := List.eq_nil_of_length_eq_zero (by rw [data_length];exact hz)
   rw [if_pos (by omega),if_pos (by omega),if_pos (by omega),if_pos (by rw [ByteArray.toList_eq,ByteArray.toList_eq,ext_listC,hwn,show ((i : Int)).toNat = i from Int.toNat_natCast i,hd,List.take_nil]),hwn,contains_nil]
  ·rw [if_neg (by omega),contains_short [] _ (by rw [data_length,List.length_nil];omega)]
 | succ d ih =>
  intro k i h hk
  obtain ⟨k,rfl⟩ : ∃ m,k = m + 1 := ⟨k - 1,by omega⟩
  have hli : i < inn.data.toList.length := by rw [data_length];omega
  simp only [qjw.l0]
  rw [w64 (show -9223372036854775808 ≤ (i : Int) + (what.size : Int) by omega) (by omega)]
  by_cases hf : i + what.size ≤ inn.size
  ·rw [if_pos (by omega),if_pos (by omega),if_pos (by omega),show ((i : Int) + (what.size : Int)).toNat = i + what.size by omega,show ((i : Int)).toNat = i from Int.toNat_natCast i,ByteArray.toList_eq,ByteArray.toList_eq,ext_listC,Nat.add_sub_cancel_left]
   rw [List.drop_eq_getElem_cons hli,contains_cons,← List.drop_eq_getElem_cons hli]
   by_cases hp : what.data.toList.isPrefixOf (inn.data.toList.drop i) = true
   ·rw [if_pos (by have := (prefix_take _ _).1 hp;rw [data_length] at this;exact this),hp,Bool.true_or]
   ·rw [if_neg (fun e => hp ((prefix_take _ _).2 (by rw [data_length];exact e))),Bool.eq_false_iff.2 hp,Bool.false_or,w64 (show -9223372036854775808 ≤ (i : Int) + 1 by omega) (by omega),show (i : Int) + 1 = ((i + 1 : Nat) : Int) from rfl]
    exact ih k (i + 1) (by omega) (by omega)
  ·rw [if_neg (by omega),contains_short _ _ (by rw [List.length_drop,data_length,data_length];omega)]
theorem l16In_ev (what inn : ByteArray) (hw : what.size ≤ 1000000) (hi : inn.size ≤ 1000000) : Ev (fun k => qjw.f k what inn) (Lib.contains inn.data.toList what.data.toList) :=
 ⟨inn.size + 2,fun k hk => by
  have h := l16In_l0 what inn hw hi inn.size k 0 (by omega) (by omega)
  rw [List.drop_zero] at h
  exact h⟩
def prtN (s : ByteArray) : Nat → Bool
 | 0 => true
 | d + 1 => if bt s ((s.size - (d + 1) : Nat) : Int) < 32 then false else if bt s ((s.size - (d + 1) : Nat) : Int) > 126 then false else prtN s d
def prt (s : ByteArray) : Bool := prtN s s.size
theorem l1Printed_l0 (s : ByteArray) (hs : s.size ≤ 9223372036854775807) (d : Nat) : ∀ (k i : Nat),s.size - i = d → i ≤ s.size → d < k → qvk.l0 k s i = some (prtN s d) := by
 induction d with
 | zero =>
  intro k i hd hi hk
  obtain ⟨k,rfl⟩ : ∃ m,k = m + 1 := ⟨k - 1,by omega⟩
  simp only [qvk.l0]
  rw [if_neg (by omega)];rfl
 | succ d ih =>
  intro k i hd hi hk
  obtain ⟨k,rfl⟩ : ∃ m,k = m + 1 := ⟨k - 1,by omega⟩
  have e0 : s.size - (d + 1) = i := by omega
  simp only [qvk.l0,prtN,e0]
  rw [if_pos (by omega),if_pos (by omega),w64 (by omega) (by omega),show ((i : Int) + 1) = ((i + 1 : Nat) : Int) from rfl,ih k (i + 1) (by omega) (by omega) (by omega)]
  split
  ·rfl
  ·split <;> rfl
theorem l1Printed_eq (s : ByteArray) (hs : s.size ≤ 9223372036854775807) (k : Nat) (hk : s.size < k) : qvk.f k s = some (prt s) :=
 l1Printed_l0 s hs s.size k 0 (by omega) (by omega) hk
theorem yprinted_l0 (s : ByteArray) (hs : s.size ≤ 9223372036854775807) (d : Nat) : ∀ (k i : Nat),s.size - i = d → i ≤ s.size → d < k → qqw.l0 k s (s.size : Int) i = some (prtN s d) := by
 induction d with
 | zero =>
  intro k i hd hi hk
  obtain ⟨k,rfl⟩ : ∃ m,k = m + 1 := ⟨k - 1,by omega⟩
  simp only [qqw.l0]
  rw [if_neg (by omega)];rfl
 | succ d ih =>
  intro k i hd hi hk
  obtain ⟨k,rfl⟩ : ∃ m,k = m + 1 := ⟨k - 1,by omega⟩
  have e0 : s.size - (d + 1) = i := by omega
  simp only [qqw.l0,prtN,e0]
  rw [if_pos (by omega),if_pos (by omega),if_pos (by omega),w64 (by omega) (by omega),show ((i : Int) + 1) = ((i + 1 : Nat) : Int) from rfl,ih k (i + 1) (by omega) (by omega) (by omega)]
  split
  ·rfl
  ·split <;> rfl
theorem yprinted_eq (s : ByteArray) (lo hi : Int) (hs : s.size ≤ 9223372036854775807) (k : Nat) (hk : s.size + 1 < k) : qqw.f k s lo hi = some (decide (lo ≤ s.size) && decide ((s.size : Int) ≤ hi) && prt s) := by
 obtain ⟨k,rfl⟩ : ∃ m,k = m + 1 := ⟨k - 1,by omega⟩
 unfold qqw.f
 have e := yprinted_l0 s hs s.size k 0 (by omega) (by omega) (by omega)
 by_cases h1 : (s.size : Int) < lo
 ·rw [if_pos h1]
  simp only [qqw.j0,if_true]
  simp;omega
 ·rw [if_neg h1]
  have h1' : decide (lo ≤ (s.size : Int)) = true := decide_eq_true (by omega)
  by_cases h2 : (s.size : Int) ≤ hi
  ·have h2' : decide ((s.size : Int) > hi) = false := decide_eq_false (by omega)
   have h2'' : decide ((s.size : Int) ≤ hi) = true := decide_eq_true h2
   rw [h1',h2',h2'']
   simp only [qqw.j0,Bool.false_eq_true,if_false,Bool.true_and]
   exact e
  ·have h2' : decide ((s.size : Int) > hi) = true := decide_eq_true (by omega)
   have h2'' : decide ((s.size : Int) ≤ hi) = false := decide_eq_false h2
   rw [h1',h2',h2'']
   simp [qqw.j0]
theorem anyO_evF {α : Type} (p : Nat → α → Option Bool) (q : α → Bool) : ∀ l : List α,(∀ x ∈ l,Ev (fun k => p k x) (q x)) → Ev (fun k => anyO (p k) l) (l.any q)
 | [],_ => Ev.now _
 | x :: xs,h => by
  simp only [anyO,List.any_cons]
  refine Ev.bind (h x List.mem_cons_self) ?_
  by_cases hq : q x = true
  ·simp only [hq,if_true,Bool.true_or];exact Ev.now _
  ·simp only [if_neg hq,Bool.eq_false_iff.2 hq,Bool.false_or]
   exact anyO_evF p q xs (fun y hy => h y (List.mem_cons_of_mem _ hy))
def pcT (p : ByteArray) (x : StT) : Bool := pcL p x.f0 x.f1 x.f2
def pfL (a0_0 a0_1 : Int) (l0_2 : List ByteArray) (a0_3 : Int) (a1 a2 : ByteArray) (l3 : List StT) : List Int :=
 if pfBad a0_0 a0_1 l0_2 a0_3 a1 a2 l3 then [] else if l0_2.any badB = true then [] else fl 0 (pfList a0_0 a0_1 l0_2 a1 a2 (prt a2) ((l3.take a0_3.toNat).any (pcT a2)))
theorem implFaults_ev (a0_0 a0_1 : Int) (l0_2 : List ByteArray) (a0_3 : Int) (a1 a2 : ByteArray) (l3 : List StT) (hok : ∀ x ∈ l3,isBytes x.f0) : Ev (fun k => qqq.f k a0_0 a0_1 l0_2 a0_3 a1 a2 l3) (pfL a0_0 a0_1 l0_2 a0_3 a1 a2 l3) := by
 unfold qqq.f pfL
 by_cases h1 : pfBad a0_0 a0_1 l0_2 a0_3 a1 a2 l3
 ·simp only [if_pos h1];exact Ev.now _
 simp only [if_neg h1]
 by_cases h2 : l0_2.any badB = true
 ·simp only [if_pos h2];exact Ev.now _
 simp only [if_neg h2]
 have hz : a2.size ≤ 1000 := by unfold pfBad at h1;omega
 refine Ev.bind (anyO_evF (fun k x => heldBy k a2 x) (pcT a2) _ (fun x hx => implCheck_ev a2 x.f0 x.f1 x.f2 (hok x (List.mem_of_mem_take hx)))) ?_
 refine Ev.bind (a := prt a2) ⟨a2.size + 2,fun k hk => ?_⟩ (Ev.now _)
 show qqw.f k a2 0 1000 = some (prt a2)
 rw [yprinted_eq a2 0 1000 (by omega) k (by omega),decide_eq_true (by omega),decide_eq_true (by omega)]
 rfl
theorem l2_fl (y : List Bool) (hy : y.length ≤ 100) (d : Nat) : ∀ (i : Nat) (acc : List Int),i + d = y.length → acc.length ≤ i → Ev (fun k => qjq.l2 k acc y (y.length : Int) (i : Int)) (acc ++ fl i (y.drop i)) := by
 induction d with
 | zero =>
  intro i acc h ha
  refine Ev.upH ?_
  simp only [qjq.l2,if_neg (show ¬ (i : Int) < (y.length : Int) by omega)]
  rw [List.drop_eq_nil_of_le (by omega),fl,List.append_nil]
  exact Ev.now _
 | succ d ih =>
  intro i acc h ha
  have hlt : i < y.length := by omega
  refine Ev.upH ?_
  have ex : rdOf false y (i : Int) = y[i] := by simp [rdOf,List.getD_eq_getElem?_getD,List.getElem?_eq_getElem hlt]
  simp only [qjq.l2,if_pos (show (i : Int) < (y.length : Int) by omega),if_pos (show 0 ≤ (i : Int) by omega),ex]
  rw [fl_step i y hlt,w64 (show -9223372036854775808 ≤ (i : Int) + 1 by omega) (by omega),w64 (show -9223372036854775808 ≤ 1 + (i : Int) by omega) (by omega),show (i : Int) + 1 = ((i + 1 : Nat) : Int) from rfl]
  by_cases hb : y[i] = true
  ·simp only [if_pos hb,if_pos (show acc.length < 17592186044416 by omega)]
   rw [← List.append_assoc]
   have := ih (i + 1) (acc ++ [1 + (i : Int)]) (by omega) (by rw [List.length_append,List.length_singleton];omega)
   rw [show ((1 + i : Nat) : Int) = 1 + (i : Int) by omega]
   exact this
  ·simp only [if_neg hb]
   rw [List.nil_append]
   exact ih (i + 1) acc (by omega) (by omega)
def pfEnd (a0_0 a0_1 : Int) (a1 a2 : ByteArray) (banned used : Bool) : List Int := fl 0 [decide ((a2.size : Int) < a0_0),decide (64 < a2.size),!prt a2,decide ((kindsN a2 : Int) < a0_1),decide (3 ≤ a1.size) && banF a2 a1,banned,used]
theorem qjk (a0_0 a0_1 : Int) (l0_2 : List ByteArray) (a0_3 : Int) (a1 a2 : ByteArray) (l3 : List StT) (hok : ∀ x ∈ l3,isBytes x.f0) (hz : a2.size ≤ 1000) (h1 : a1.size ≤ 1000) (h3 : l3.length ≤ 1000) (h0 : 0 ≤ a0_3) (banned : Bool) (d : Nat) : ∀ (i : Nat) (used : Bool),i + d = l3.length →
  Ev (fun k => qjq.l1 k a1 a2 banned used l3 (l3.length : Int) (i : Int) a0_0 a0_1 l0_2 a0_3) (pfEnd a0_0 a0_1 a1 a2 banned (used || ((l3.drop i).take (a0_3.toNat - i)).any (pcT a2))) := by
 induction d with
 | zero =>
  intro i used h
  refine Ev.upH ?_
  simp only [qjq.l1,if_neg (show ¬ (i : Int) < (l3.length : Int) by omega)]
  rw [List.drop_eq_nil_of_le (by omega),List.take_nil,List.any_nil,Bool.or_false]
  refine Ev.bind ⟨a2.size + 1,fun k hk => l1Printed_eq a2 (by omega) k (by omega)⟩ ?_
  simp only [qjx.f,if_pos (show a2.size ≤ 1000000 by omega),Option.bind_some,qwj.f,if_pos (show a1.size ≤ 1000000 by omega)]
  have hd : ∀ y : List Bool,y.length = 7 → Ev (fun k => qjq.j4 k ([] : List Int) y (y.length : Int) 0) (fl 0 y) := fun y hy => by
   refine Ev.upH ?_
   simp only [qjq.j4]
   have := l2_fl y (by omega) y.length 0 [] (by omega) (by simp)
   rw [List.drop_zero,List.nil_append] at this
   exact this
  unfold pfEnd
  rw [show decide (64 < a2.size) = decide ((a2.size : Int) > 64) from decide_eq_decide.mpr (by omega)]
  by_cases hu : 3 ≤ a1.size
  ·simp only [if_pos (show (a1.size : Int) ≥ 3 by omega)]
   refine Ev.bind (l16In_ev (upperB a1) (upperB a2) (by rw [upperB_size];omega) (by rw [upperB_size];omega)) ?_
   rw [decide_eq_true hu,Bool.true_and]
   exact hd _ rfl
  ·simp only [if_neg (show ¬ (a1.size : Int) ≥ 3 by omega)]
   rw [decide_eq_false hu,Bool.false_and]
   exact hd _ rfl
 | succ d ih =>
  intro i used h
  have hlt : i < l3.length := by omega
  have ex : wx l3 (i : Int) = l3[i] := by simp [wx,List.getD_eq_getElem?_getD,List.getElem?_eq_getElem hlt]
  refine Ev.upH ?_
  simp only [qjq.l1,if_pos (show (i : Int) < (l3.length : Int) by omega),if_pos (show 0 ≤ (i : Int) by omega),ex]
  rw [w64 (show -9223372036854775808 ≤ (i : Int) + 1 by omega) (by omega),show (i : Int) + 1 = ((i + 1 : Nat) : Int) from rfl]
  have hdc := List.drop_eq_getElem_cons hlt
  cases used with
  | true =>
   simp only [if_true]
   rw [Bool.true_or]
   have := ih (i + 1) true (by omega)
   rw [Bool.true_or] at this
   exact this
  | false =>
   simp only [Bool.false_eq_true,if_false]
   rw [Bool.false_or]
   by_cases hk : (i : Int) < a0_3
   ·simp only [if_pos hk]
    rw [hdc,show a0_3.toNat - i = (a0_3.toNat - (i + 1)) + 1 by omega,List.take_succ_cons,List.any_cons]
    exact Ev.bind (specCheck_ev a2 l3[i].f0 l3[i].f1 l3[i].f2 (hok _ (List.getElem_mem hlt))) (ih (i + 1) (pcT a2 l3[i]) (by omega))
   ·simp only [if_neg hk]
    have := ih (i + 1) false (by omega)
    rw [show a0_3.toNat - (i + 1) = 0 by omega,List.take_zero,List.any_nil,Bool.or_false] at this
    rw [show a0_3.toNat - i = 0 by omega,List.take_zero,List.any_nil]
    exact this
theorem qjj (a0_0 a0_1 : Int) (B : List ByteArray) (a0_3 : Int) (a1 a2 : ByteArray) (l3 : List StT) (hok : ∀ x ∈ l3,isBytes x.f0) (hz : a2.size ≤ 1000) (h1 : a1.size ≤ 1000) (h3 : l3.length ≤ 1000) (h0 : 0 ≤ a0_3) (hB : B.length ≤ 1000) (d : Nat) : ∀ (i : Nat) (banned : Bool),i + d = B.length →
  Ev (fun k => qjq.l0 k a1 a2 l3 banned B (B.length : Int) (i : Int) a0_0 a0_1 B a0_3) (if (B.drop i).any badB = true then [] else pfEnd a0_0 a0_1 a1 a2 (banned || (B.drop i).any (banF a2)) ((l3.take a0_3.toNat).any (pcT a2))) := by
 induction d with
 | zero =>
  intro i banned h
  refine Ev.upH ?_
  simp only [qjq.l0,if_neg (show ¬ (i : Int) < (B.length : Int) by omega)]
  rw [List.drop_eq_nil_of_le (by omega),List.any_nil,List.any_nil,if_neg (by simp),Bool.or_false]
  have := qjk a0_0 a0_1 B a0_3 a1 a2 l3 hok hz h1 h3 h0 banned l3.length 0 false (by omega)
  rw [List.drop_zero,Nat.sub_zero,Bool.false_or] at this
  exact this
 | succ d ih =>
  intro i banned h
  have hlt : i < B.length := by omega
  have ex : rdOf ByteArray.empty B (i : Int) = B[i] := by simp [rdOf,List.getD_eq_getElem?_getD,List.getElem?_eq_getElem hlt]
  refine Ev.upH (Ev.upH ?_)
  simp only [qjq.l0,qjq.j2,if_pos (show (i : Int) < (B.length : Int) by omega),if_pos (show 0 ≤ (i : Int) by omega),ex]
  rw [List.drop_eq_getElem_cons hlt,List.any_cons,List.any_cons,w64 (show -9223372036854775808 ≤ (i : Int) + 1 by omega) (by omega),show (i : Int) + 1 = ((i + 1 : Nat) : Int) from rfl]
  generalize B[i] = b
  by_cases c1 : b.size < 1
  ·simp only [if_pos (show (b.size : Int) < 1 by omega),if_true]
   rw [if_pos (by unfold badB;rw [decide_eq_true c1];rfl)]
   exact Ev.now _
  simp only [if_neg (show ¬ (b.size : Int) < 1 by omega)]
  by_cases c2 : 64 < b.size
  ·simp only [decide_eq_true (show (b.size : Int) > 64 by omega),if_true]
   rw [if_pos (by unfold badB;rw [decide_eq_true c2,Bool.or_true];rfl)]
   exact Ev.now _
  simp only [decide_eq_false (show ¬ (b.size : Int) > 64 by omega),Bool.false_eq_true,if_false]
  rw [show badB b = false by unfold badB;rw [decide_eq_false c1,decide_eq_false c2];rfl,Bool.false_or]
  cases banned with
  | true =>
   simp only [if_true]
   have := ih (i + 1) true (by omega)
   rw [Bool.true_or] at this ⊢
   exact this
  | false =>
   simp only [Bool.false_eq_true,if_false,qwj.f,if_pos (show a2.size ≤ 1000000 by omega),if_pos (show b.size ≤ 1000000 by omega),Option.bind_some]
   refine Ev.bind (l16In_ev (upperB b) (upperB a2) (by rw [upperB_size];omega) (by rw [upperB_size];omega)) ?_
   rw [Bool.false_or]
   exact ih (i + 1) (banF a2 b) (by omega)
theorem specFaults_ev (a0_0 a0_1 : Int) (l0_2 : List ByteArray) (a0_3 : Int) (a1 a2 : ByteArray) (l3 : List StT) (hok : ∀ x ∈ l3,isBytes x.f0) : Ev (fun k => qjq.f k a0_0 a0_1 l0_2 a0_3 a1 a2 l3) (pfL a0_0 a0_1 l0_2 a0_3 a1 a2 l3) := by
 refine Ev.upH ?_
 have hbad : pfBad a0_0 a0_1 l0_2 a0_3 a1 a2 l3 → pfL a0_0 a0_1 l0_2 a0_3 a1 a2 l3 = [] := fun h => if_pos h
 simp only [qjq.f,qjq.j0]
 by_cases c0 : a0_0 < 1
 ·simp only [if_pos c0,if_true];rw [hbad (by unfold pfBad;omega)];exact Ev.now _
 by_cases c1 : a0_0 > 64
 ·simp only [if_neg c0,if_pos c1,if_true];rw [hbad (by unfold pfBad;omega)];exact Ev.now _
 by_cases c2 : a0_1 < 0
 ·simp only [if_neg c0,if_neg c1,if_pos c2,if_true];rw [hbad (by unfold pfBad;omega)];exact Ev.now _
 by_cases c3 : a0_1 > 4
 ·simp only [if_neg c0,if_neg c1,if_neg c2,if_pos c3,if_true];rw [hbad (by unfold pfBad;omega)];exact Ev.now _
 by_cases c4 : (l0_2.length : Int) > 20
 ·simp only [if_neg c0,if_neg c1,if_neg c2,if_neg c3,if_pos c4,if_true];rw [hbad (by unfold pfBad;omega)];exact Ev.now _
 by_cases c5 : a0_3 < 0
 ·simp only [if_neg c0,if_neg c1,if_neg c2,if_neg c3,if_neg c4,if_pos c5,if_true];rw [hbad (by unfold pfBad;omega)];exact Ev.now _
 by_cases c6 : a0_3 > 10
 ·simp only [if_neg c0,if_neg c1,if_neg c2,if_neg c3,if_neg c4,if_neg c5,if_pos c6,if_true];rw [hbad (by unfold pfBad;omega)];exact Ev.now _
 by_cases c7 : (a1.size : Int) > 64
 ·simp only [if_neg c0,if_neg c1,if_neg c2,if_neg c3,if_neg c4,if_neg c5,if_neg c6,if_pos c7,if_true];rw [hbad (by unfold pfBad;omega)];exact Ev.now _
 by_cases c8 : (a2.size : Int) > 1000
 ·simp only [if_neg c0,if_neg c1,if_neg c2,if_neg c3,if_neg c4,if_neg c5,if_neg c6,if_neg c7,if_pos c8,if_true];rw [hbad (by unfold pfBad;omega)];exact Ev.now _
 by_cases c9 : (l3.length : Int) > 20
 ·simp only [if_neg c0,if_neg c1,if_neg c2,if_neg c3,if_neg c4,if_neg c5,if_neg c6,if_neg c7,if_neg c8,decide_eq_true c9,if_true];rw [hbad (by unfold pfBad;omega)];exact Ev.now _
 simp only [if_neg c0,if_neg c1,if_neg c2,if_neg c3,if_neg c4,if_neg c5,if_neg c6,if_neg c7,if_neg c8,decide_eq_false c9,Bool.false_eq_true,if_false]
 have hg : ¬ pfBad a0_0 a0_1 l0_2 a0_3 a1 a2 l3 := by unfold pfBad;omega
 unfold pfL
 rw [if_neg hg]
 have := qjj a0_0 a0_1 l0_2 a0_3 a1 a2 l3 hok (by omega) (by omega) (by omega) (by omega) (by omega) l0_2.length 0 false (by omega)
 rw [List.drop_zero,Bool.false_or] at this
 exact this
theorem and255 (X : Int) : 0 ≤ Go.bits .and .u64 X 255 ∧ Go.bits .and .u64 X 255 ≤ 255 := by
 have h : ((BitVec.ofInt 64 X) &&& (BitVec.ofInt 64 255)).toNat ≤ 255 := by
  rw [BitVec.toNat_and]
  exact Nat.le_trans Nat.and_le_right (by decide)
 have e : Go.bits .and .u64 X 255 = IntKind.u64.wrap ((((BitVec.ofInt 64 X) &&& (BitVec.ofInt 64 255)).toNat : Nat) : Int) := rfl
 rw [e,IntKind.wrap_u64]
 omega
theorem cur_next (s : List Int) (hs : okL okB s) (p h : Int) (h0 : 0 ≤ p) (h1 : p ≤ 1000000000000) : ∃ v h',qkj.f s p h = some (v,p + 1,h') ∧ 0 ≤ v ∧ v ≤ 255 := by
 have e : wrap64 (p + 1) = p + 1 := w64 (by omega) (by omega)
 unfold qkj.f
 simp only [e]
 by_cases hp : p < (s.length : Int)
 ·rw [if_pos hp,if_pos h0,if_pos (by omega)]
  have hm : rd s p ∈ s := by
   have : p.toNat < s.length := by omega
   simp [rd,List.getD_eq_getElem?_getD,List.getElem?_eq_getElem this]
  have hb : 0 ≤ rd s p ∧ rd s p ≤ 255 := hs.2 _ hm
  exact ⟨_,_,rfl,by rw [w64 (by omega) (by omega)];exact hb.1,by rw [w64 (by omega) (by omega)];exact hb.2⟩
 ·rw [if_neg hp,if_neg (by omega)]
  have hb := and255 ((IntKind.u64.wrap ((IntKind.u64.wrap (IntKind.u64.wrap (h * 6364136223846793005))) + 1442695040888963407)) / 1099511627776)
  exact ⟨_,_,rfl,by rw [w64 (by omega) (by omega)];exact hb.1,by rw [w64 (by omega) (by omega)];exact hb.2⟩
theorem cur_pick (s : List Int) (hs : okL okB s) (p h n : Int) (h0 : 0 ≤ p) (h1 : p ≤ 999999999999) : ∃ v p' h',qkx.f s p h n = some (v,p',h') ∧ 0 ≤ v ∧ (v < n ∨ v = 0) ∧ p ≤ p' ∧ p' ≤ p + 2 := by
 unfold qkx.f
 by_cases hn : n ≤ 1
 ·rw [if_pos hn]
  exact ⟨_,_,_,rfl,by omega,.inr rfl,by omega,by omega⟩
 ·rw [if_neg hn]
  obtain ⟨v,h',e,v0,v1⟩ := cur_next s hs p h h0 (by omega)
  simp only [e,Option.bind_some]
  by_cases h2 : n > 200
  ·rw [if_pos h2]
   obtain ⟨v2,h2',e2,v20,v21⟩ := cur_next s hs (p + 1) h' (by omega) (by omega)
   simp only [e2,Option.bind_some,if_neg (show ¬ n = 0 by omega),w64 (show -9223372036854775808 ≤ v * 256 by omega) (show v * 256 ≤ 9223372036854775807 by omega),w64 (show -9223372036854775808 ≤ v * 256 + v2 by omega) (show v * 256 + v2 ≤ 9223372036854775807 by omega)]
   refine ⟨_,_,_,rfl,?_,.inl ?_,by omega,by omega⟩
   ·rw [Int.tmod_eq_emod_of_nonneg (by omega)];exact Int.emod_nonneg _ (by omega)
   ·rw [Int.tmod_eq_emod_of_nonneg (by omega)];exact Int.emod_lt_of_pos _ (by omega)
  ·rw [if_neg h2,if_neg (show ¬ n = 0 by omega)]
   refine ⟨_,_,_,rfl,?_,.inl ?_,by omega,by omega⟩
   ·rw [Int.tmod_eq_emod_of_nonneg (by omega)];exact Int.emod_nonneg _ (by omega)
   ·rw [Int.tmod_eq_emod_of_nonneg (by omega)];exact Int.emod_lt_of_pos _ (by omega)
theorem cur_one (s : List Int) (hs : okL okB s) (p h n : Int) (h0 : 0 ≤ p) (h1 : p ≤ 999999999999) : ∃ b p' h',qkv.f s p h n = some (b,p',h') ∧ p ≤ p' ∧ p' ≤ p + 2 := by
 obtain ⟨v,p',h',e,_,_,g1,g2⟩ := cur_pick s hs p h n h0 h1
 unfold qkv.f
 simp only [e,Option.bind_some]
 exact ⟨_,_,_,rfl,g1,g2⟩
theorem xj (s : List Int) (hs : okL okB s) (d : Nat) : ∀ (x5 : List Int) (p h : Int),0 ≤ p → p + d ≤ 900000000000 → x5.length + d ≤ 1000000 → ∃ (L : List Int) (p' h' : Int),(∀ k,d < k → qkq.l0 k x5 d s p h = some (x5 ++ L,p',h')) ∧ isBytes L ∧ L.length = d ∧ p ≤ p' ∧ p' ≤ p + d := by
 induction d with
 | zero =>
  intro x5 p h h0 h1 hl
  refine ⟨[],p,h,fun k hk => ?_,(by simp [isBytes]),rfl,by omega,by omega⟩
  obtain ⟨k,rfl⟩ : ∃ m,k = m + 1 := ⟨k - 1,by omega⟩
  simp only [qkq.l0,if_neg (show ¬ (((0 : Nat) : Int) > 0) by omega),List.append_nil]
 | succ d ih =>
  intro x5 p h h0 h1 hl
  obtain ⟨v,h',e,v0,v1⟩ := cur_next s hs p h h0 (by omega)
  obtain ⟨L,p2,h2,hL,hb,hlen,g1,g2⟩ := ih (x5 ++ [v % 256]) (p + 1) h' (by omega) (by omega) (by rw [List.length_append,List.length_singleton];omega)
  refine ⟨v % 256 :: L,p2,h2,fun k hk => ?_,?_,by rw [List.length_cons,hlen],by omega,by omega⟩
  ·obtain ⟨k,rfl⟩ : ∃ m,k = m + 1 := ⟨k - 1,by omega⟩
   have ed : wrap64 (((d + 1 : Nat) : Int) - 1) = (d : Int) := by rw [w64 (by omega) (by omega)];omega
   simp only [qkq.l0,if_pos (show (((d + 1 : Nat) : Int) > 0) by omega),e,Option.bind_some,if_pos (show x5.length < 140737488355328 by omega),ed]
   rw [hL k (by omega),List.append_assoc]
   rfl
  ·intro x hx
   rcases List.mem_cons.1 hx with rfl | hx
   ·omega
   ·exact hb x hx
theorem cur_bytes (s : List Int) (hs : okL okB s) (p h : Int) (n : Nat) (hn : n ≤ 1000) (h0 : 0 ≤ p) (h1 : p ≤ 800000000000) : ∃ (L : List Int) (p' h' : Int),(∀ k,n < k → qkq.f k s p h n = some (L,p',h')) ∧ isBytes L ∧ L.length ≤ n ∧ p ≤ p' ∧ p' ≤ p + 2 + n := by
 obtain ⟨v,p1,h1',e,v0,v1,g1,g2⟩ := cur_pick s hs p h n h0 (by omega)
 obtain ⟨m,rfl⟩ : ∃ m : Nat,v = m := ⟨v.toNat,by omega⟩
 obtain ⟨L,p2,h2,hL,hb,hlen,g3,g4⟩ := xj s hs m [] p1 h1' (by omega) (by omega) (by simp;omega)
 refine ⟨L,p2,h2,fun k hk => ?_,hb,by omega,by omega,by omega⟩
 unfold qkq.f
 simp only [e,Option.bind_some]
 rw [hL k (by omega)]
 rfl
theorem cur_of (s : List Int) (hs : okL okB s) (p h : Int) (l : List ByteArray) (hl : 1 ≤ l.length) (hl2 : l.length ≤ 1000000) (h0 : 0 ≤ p) (h1 : p ≤ 999999999999) : ∃ (t : ByteArray) (p' h' : Int),qkk.f s p h l = some (t,p',h') ∧ p ≤ p' ∧ p' ≤ p + 2 := by
 obtain ⟨v,p1,h1',e,v0,v1,g1,g2⟩ := cur_pick s hs p h l.length h0 h1
 unfold qkk.f
 simp only [e,Option.bind_some,if_pos v0,if_pos (show v < (l.length : Int) by omega)]
 exact ⟨_,_,_,rfl,g1,g2⟩
theorem cur_rare (s : List Int) (hs : okL okB s) (p h n : Int) (hn : 2 ≤ n) (hn2 : n ≤ 1000000) (h0 : 0 ≤ p) (h1 : p ≤ 999999999000) : ∃ (v p' h' : Int),qvq.f s p h n = some (v,p',h') ∧ 0 ≤ v ∧ v < n ∧ p ≤ p' ∧ p' ≤ p + 4 := by
 obtain ⟨b,p1,h1',e,g1,g2⟩ := cur_one s hs p h 8 h0 (by omega)
 unfold qvq.f
 simp only [e,Option.bind_some]
 cases b with
 | true =>
  obtain ⟨v,p2,h2',e2,v0,v1,g3,g4⟩ := cur_pick s hs p1 h1' (n - 1) (by omega) (by omega)
  rw [w64 (n := n - 1) (by omega) (by omega)]
  simp only [if_true,e2,Option.bind_some]
  refine ⟨_,_,_,rfl,?_,?_,by omega,by omega⟩
  ·rw [w64 (by omega) (by omega)];omega
  ·rw [w64 (by omega) (by omega)];omega
 | false =>
  simp only [Bool.false_eq_true,if_false]
  exact ⟨_,_,_,rfl,by omega,by omega,by omega,by omega⟩
theorem cur_ofB (s : List Int) (hs : okL okB s) (p h : Int) (l : List ByteArray) (hl : 1 ≤ l.length) (hl2 : l.length ≤ 1000000) (h0 : 0 ≤ p) (h1 : p ≤ 999999999999) : ∃ (t : ByteArray) (p' h' : Int),qkk.f s p h l = some (t,p',h') ∧ t ∈ l ∧ p ≤ p' ∧ p' ≤ p + 2 := by
 obtain ⟨v,p1,h1',e,v0,v1,g1,g2⟩ := cur_pick s hs p h l.length h0 h1
 unfold qkk.f
 simp only [e,Option.bind_some,if_pos v0,if_pos (show v < (l.length : Int) by omega)]
 refine ⟨_,_,_,rfl,?_,g1,g2⟩
 obtain ⟨n,rfl⟩ := Int.eq_ofNat_of_zero_le v0
 rw [show rdOf ByteArray.empty l (n : Int) = l[n]'(by omega) by simp [rdOf,List.getD_eq_getElem?_getD,List.getElem?_eq_getElem (show n < l.length by omega)]]
 exact List.getElem_mem _
theorem cur_pass (s : List Int) (hs : okL okB s) (p h : Int) (h0 : 0 ≤ p) (h1 : p ≤ 999999999999) : ∃ (t : ByteArray) (p' h' : Int),qkw.f s p h = some (t,p',h') ∧ t.size ≤ 64 ∧ p ≤ p' ∧ p' ≤ p + 2 := by
 unfold qkw.f
 obtain ⟨t,p',h',e,hm,g1,g2⟩ := cur_ofB s hs p h (([(⟨#[]⟩ : ByteArray),(⟨#[97,110,110,49]⟩ : ByteArray),(⟨#[83,101,99,114,101,116,45,55]⟩ : ByteArray),(⟨#[99,111,114,114,101,99,116,32,104,111,114,115,101]⟩ : ByteArray),(⟨#[65,78,78,65,39,115,32,112,97,115,115]⟩ : ByteArray),(⟨#[97,9,98]⟩ : ByteArray),(⟨#[112,97,115,115,119,48,114,100,33]⟩ : ByteArray),(⟨#[120,121]⟩ : ByteArray)] : List ByteArray)) (by decide) (by decide) h0 h1
 rw [e,Option.bind_some]
 refine ⟨t,p',h',rfl,?_,g1,g2⟩
 simp only [List.mem_cons,List.not_mem_nil,or_false] at hm
 rcases hm with rfl | rfl | rfl | rfl | rfl | rfl | rfl | rfl <;> decide
theorem longT_size (xs : List Int) : (strOfNums xs).size = xs.length := by
 show (List.toArray _).size = _
 rw [List.size_toArray,List.length_map]
theorem longT_l0 (s : List Int) (d : Nat) : ∀ (x : List Int) (p h : Int) (i : Nat),i + d = x.length → x.length ≤ 1000 → ∃ t : ByteArray,(∀ k,d < k → qkz.l0 k x (x.length : Int) (i : Int) s p h = some (t,p,h)) ∧ t.size = x.length := by
 induction d with
 | zero =>
  intro x p h i hi hl
  refine ⟨strOfNums x,fun k hk => ?_,longT_size x⟩
  obtain ⟨k,rfl⟩ : ∃ m,k = m + 1 := ⟨k - 1,by omega⟩
  rw [qkz.l0,if_neg (by omega)]
 | succ d ih =>
  intro x p h i hi hl
  obtain ⟨t,e,ht⟩ := ih (x.set i 112) p h (i + 1) (by rw [List.length_set];omega) (by rw [List.length_set];omega)
  rw [List.length_set] at e ht
  refine ⟨t,fun k hk => ?_,ht⟩
  obtain ⟨k,rfl⟩ : ∃ m,k = m + 1 := ⟨k - 1,by omega⟩
  have ew : wrap64 ((i : Int) + 1) = ((i + 1 : Nat) : Int) := by rw [w64 (by omega) (by omega)];rfl
  rw [qkz.l0,if_pos (by omega),if_pos (by omega),if_pos (by omega),ew,Int.toNat_natCast]
  exact e k (by omega)
theorem cur_longT (s : List Int) (hs : okL okB s) (p h : Int) (h0 : 0 ≤ p) (h1 : p ≤ 800000000000) : ∃ (t : ByteArray) (p' h' : Int),(∀ k,100 < k → qkz.f k s p h 64 = some (t,p',h')) ∧ t.size ≤ 66 ∧ p ≤ p' ∧ p' ≤ p + 2 := by
 obtain ⟨v,p1,h1',e1,v0,v1,a1,b1⟩ := cur_pick s hs p h 3 h0 (by omega)
 have ew : wrap64 ((wrap64 (64 - 1)) + v) = 63 + v := by rw [w64 (n := 64 - 1) (by omega) (by omega),w64 (by omega) (by omega)];omega
 obtain ⟨t,e,ht⟩ := longT_l0 s (List.replicate (63 + v).toNat (0 : Int)).length (List.replicate (63 + v).toNat 0) p1 h1' 0 (by omega) (by rw [List.length_replicate];omega)
 refine ⟨t,p1,h1',fun k hk => ?_,by rw [ht,List.length_replicate];omega,a1,b1⟩
 simp only [qkz.f,e1,Option.bind_some,ew,if_pos (show 0 ≤ 63 + v by omega),if_pos (show (63 + v).toNat ≤ 281474976710656 by omega)]
 exact e k (by rw [List.length_replicate];omega)
theorem pHash_j0 (s : List Int) (hs : okL okB s) (x : ByteArray) (p h : Int) (h0 : 0 ≤ p) (h1 : p ≤ 1000) : ∃ (salt : List Int) (n : Int),isBytes salt ∧ Ev (fun k => qzv.j0 k x s p h) (x,salt,n) := by
 obtain ⟨L,p1,h1',e1,hb,hl,g1,g1'⟩ := cur_bytes s hs p h 8 (by omega) h0 (by omega)
 obtain ⟨b,p2,h2,e2,g2,g2'⟩ := cur_one s hs p1 h1' 20 (by omega) (by omega)
 have e1' : Ev (fun k => qkq.f k s p h 8) (L,p1,h1') := ⟨9,fun k hk => e1 k (by omega)⟩
 cases b with
 | true =>
  obtain ⟨t,p3,h3,e3,ht,g3,g3'⟩ := cur_longT s hs p2 h2 (by omega) (by omega)
  obtain ⟨v,p4,h4,e4,v0,v1,g4,g4'⟩ := cur_pick s hs p3 h3 5 (by omega) (by omega)
  obtain ⟨u,p5,h5,e5,u0,u1,g5,g5'⟩ := cur_rare s hs p4 h4 5 (by omega) (by omega) (by omega) (by omega)
  refine ⟨bytesOf t,rd [wrap64 (1 + v),0,1,1000,1001] u,bytesOf_isBytes t,Ev.upH ?_⟩
  simp only [qzv.j0]
  refine Ev.bind e1' ?_
  simp only [e2,Option.bind_some,if_true]
  refine Ev.bind (a := (t,p3,h3)) ⟨101,fun k hk => e3 k (by omega)⟩ ?_
  simp only [bytesS_eq t (by omega),e4,e5,Option.bind_some,if_pos u0,List.length_cons,List.length_nil]
  rw [if_pos (by omega)]
  exact Ev.now _
 | false =>
  obtain ⟨v,p4,h4,e4,v0,v1,g4,g4'⟩ := cur_pick s hs p2 h2 5 (by omega) (by omega)
  obtain ⟨u,p5,h5,e5,u0,u1,g5,g5'⟩ := cur_rare s hs p4 h4 5 (by omega) (by omega) (by omega) (by omega)
  refine ⟨L,rd [wrap64 (1 + v),0,1,1000,1001] u,hb,Ev.upH ?_⟩
  simp only [qzv.j0]
  refine Ev.bind e1' ?_
  simp only [e2,Option.bind_some,Bool.false_eq_true,if_false,e4,e5,if_pos u0,List.length_cons,List.length_nil]
  rw [if_pos (by omega)]
  exact Ev.now _
theorem drawPassHash_ev (s : List Int) (hs : okL okB s) : ∃ (p : ByteArray) (salt : List Int) (n : Int),isBytes salt ∧ Ev (fun k => qzv.f k s) (p,salt,n) := by
 obtain ⟨x,p1,h1,e1,_,g1,g1'⟩ := cur_pass s hs 0 0 (by omega) (by omega)
 obtain ⟨b,p2,h2,e2,g2,g2'⟩ := cur_one s hs p1 h1 20 (by omega) (by omega)
 cases b with
 | true =>
  obtain ⟨t,p3,h3,e3,ht,g3,g3'⟩ := cur_longT s hs p2 h2 (by omega) (by omega)
  obtain ⟨salt,n,hb,e⟩ := pHash_j0 s hs t p3 h3 (by omega) (by omega)
  refine ⟨t,salt,n,hb,?_⟩
  simp only [qzv.f,newCur.f,Option.bind_some,e1,e2,if_true]
  exact Ev.bind (a := (t,p3,h3)) ⟨101,fun k hk => e3 k (by omega)⟩ e
 | false =>
  obtain ⟨salt,n,hb,e⟩ := pHash_j0 s hs x p2 h2 (by omega) (by omega)
  refine ⟨x,salt,n,hb,?_⟩
  simp only [qzv.f,newCur.f,Option.bind_some,e1,e2,Bool.false_eq_true,if_false]
  exact e
abbrev SdT := S82
def okSd (l : List SdT) : Prop := l.length ≤ 100 ∧ ∀ x ∈ l,isBytes x.f0
abbrev PfD := Int × Int × List ByteArray × Int × ByteArray × ByteArray × List SdT
def pfOk (r : PfD) : Prop := okSd r.2.2.2.2.2.2
theorem cur_stored (s : List Int) (hs : okL okB s) (p h : Int) (h0 : 0 ≤ p) (h1 : p ≤ 100000) : ∃ (x : SdT) (p' h' : Int),Ev (fun k => qvz.f k s p h) (x.f0,x.f1,x.f2,p',h') ∧ isBytes x.f0 ∧ p ≤ p' ∧ p' ≤ p + 20 := by
 obtain ⟨L,p1,h1',e1,hb,hl,g1,g1'⟩ := cur_bytes s hs p h 5 (by omega) h0 (by omega)
 obtain ⟨v,p2,h2,e2,v0,v1,g2,g2'⟩ := cur_pick s hs p1 h1' 3 (by omega) (by omega)
 obtain ⟨t,p3,h3,e3,ht,g3,g3'⟩ := cur_pass s hs p2 h2 (by omega) (by omega)
 obtain ⟨n,rfl⟩ := Int.eq_ofNat_of_zero_le v0
 have ew : wrap64 (1 + (n : Int)) = ((1 + n : Nat) : Int) := by rw [w64 (by omega) (by omega)];omega
 refine ⟨⟨L,((1 + n : Nat) : Int),hashR t (1 + n - 1) (macL (bytesOf t) L)⟩,p3,h3,?_,hb,by omega,by omega⟩
 simp only [qvz.f]
 refine Ev.bind (a := (L,p1,h1')) ⟨6,fun k hk => e1 k (by omega)⟩ ?_
 simp only [e2,e3,Option.bind_some,ew,qjv.f,bytesS_eq t (by omega)]
 refine Ev.bind (Ev.bind (macS_ev (bytesOf t) L (bytesOf_isBytes t) hb (by rw [bytesOf_length];omega) (by omega)) ?_) (Ev.now _)
 exact l16Hash_l0 t (by omega) (1 + n) (by omega) (1 + n - 1) 1 _ (mac_bytes _ _) (mac_len _ _) (by omega)
theorem pf_j2 (s : List Int) (hs : okL okB s) (old : List SdT) (ho : okSd old) (a b : Int) (B : List ByteArray) (c : Int) (p h : Int) (h0 : 0 ≤ p) (h1 : p ≤ 10000) : ∃ r : PfD,pfOk r ∧ Ev (fun k => qzk.j2 k old s p h a b B c) r := by
 obtain ⟨x,p1,h1',e1,_,g1,g1'⟩ := cur_pass s hs p h h0 (by omega)
 obtain ⟨y,p2,h2,e2,g2,g2'⟩ := cur_one s hs p1 h1' 16 (by omega) (by omega)
 cases y with
 | true =>
  obtain ⟨t,p3,h3,e3,ht,g3,g3'⟩ := cur_longT s hs p2 h2 (by omega) (by omega)
  obtain ⟨u,p4,h4,e4,g4,g4'⟩ := cur_of s hs p3 h3 (([(⟨#[97,110,110]⟩ : ByteArray),(⟨#[97,110]⟩ : ByteArray),(⟨#[98,111,98]⟩ : ByteArray)] : List ByteArray)) (by decide) (by decide) (by omega) (by omega)
  refine ⟨(a,b,B,c,u,t,old),ho,Ev.upH ?_⟩
  simp only [qzk.j2,e1,e2,Option.bind_some,if_true]
  refine Ev.bind (a := (t,p3,h3)) ⟨101,fun k hk => e3 k (by omega)⟩ ?_
  simp only [e4,Option.bind_some]
  exact Ev.now _
 | false =>
  obtain ⟨u,p4,h4,e4,g4,g4'⟩ := cur_of s hs p2 h2 (([(⟨#[97,110,110]⟩ : ByteArray),(⟨#[97,110]⟩ : ByteArray),(⟨#[98,111,98]⟩ : ByteArray)] : List ByteArray)) (by decide) (by decide) (by omega) (by omega)
  refine ⟨(a,b,B,c,u,x,old),ho,Ev.upH ?_⟩
  simp only [qzk.j2,e1,e2,Option.bind_some,Bool.false_eq_true,if_false,e4]
  exact Ev.now _
theorem pf_l1 (s : List Int) (hs : okL okB s) (d : Nat) : ∀ (old : List SdT) (a b : Int) (B : List ByteArray) (c : Int) (p h : Int),okSd old → old.length + d ≤ 90 → 0 ≤ p → p + 30 * d ≤ 9000 → ∃ r : PfD,pfOk r ∧ Ev (fun k => qzk.l1 k old (d : Int) s p h a b B c) r := by
 induction d with
 | zero =>
  intro old a b B c p h ho hl h0 h1
  obtain ⟨v,p1,h1',e1,v0,v1,g1,g1'⟩ := cur_pick s hs p h 20 h0 (by omega)
  by_cases c0 : v = 0
  ·obtain ⟨u,p2,h2,e2,u0,u1,g2,g2'⟩ := cur_pick s hs p1 h1' 3 (by omega) (by omega)
   obtain ⟨r,hr,e⟩ := pf_j2 s hs old ho (rd [0,64,65] u) b B c p2 h2 (by omega) (by omega)
   refine ⟨r,hr,Ev.upH ?_⟩
   simp only [qzk.l1,if_neg (show ¬ ((0 : Nat) : Int) > 0 by omega),e1,Option.bind_some,if_pos c0,e2,if_pos u0,List.length_cons,List.length_nil,if_pos (show u < ((0 + 1 + 1 + 1 : Nat) : Int) by omega)]
   exact e
  by_cases c1 : v = 1
  ·obtain ⟨r,hr,e⟩ := pf_j2 s hs old ho a 5 B c p1 h1' (by omega) (by omega)
   refine ⟨r,hr,Ev.upH ?_⟩
   simp only [qzk.l1,if_neg (show ¬ ((0 : Nat) : Int) > 0 by omega),e1,Option.bind_some,if_neg c0,if_pos c1]
   exact e
  by_cases c2 : v = 2
  ·obtain ⟨r,hr,e⟩ := pf_j2 s hs old ho a b ([(⟨#[]⟩ : ByteArray)]) c p1 h1' (by omega) (by omega)
   refine ⟨r,hr,Ev.upH ?_⟩
   simp only [qzk.l1,if_neg (show ¬ ((0 : Nat) : Int) > 0 by omega),e1,Option.bind_some,if_neg c0,if_neg c1,if_pos c2]
   exact e
  ·obtain ⟨r,hr,e⟩ := pf_j2 s hs old ho a b B c p1 h1' (by omega) (by omega)
   refine ⟨r,hr,Ev.upH ?_⟩
   simp only [qzk.l1,if_neg (show ¬ ((0 : Nat) : Int) > 0 by omega),e1,Option.bind_some,if_neg c0,if_neg c1,if_neg c2]
   exact e
 | succ d ih =>
  intro old a b B c p h ho hl h0 h1
  obtain ⟨x,p1,h1',e1,hx,g1,g1'⟩ := cur_stored s hs p h h0 (by omega)
  obtain ⟨r,hr,e⟩ := ih (old ++ [(⟨x.f0,x.f1,x.f2⟩ : SdT)]) a b B c p1 h1' ⟨by rw [List.length_append,List.length_singleton];omega,fun y hy => by
   rcases List.mem_append.1 hy with hy | hy
   ·exact ho.2 y hy
   ·rw [List.mem_singleton] at hy;subst hy;exact hx⟩ (by rw [List.length_append,List.length_singleton];omega) (by omega) (by omega)
  refine ⟨r,hr,Ev.upH ?_⟩
  simp only [qzk.l1,if_pos (show ((d + 1 : Nat) : Int) > 0 by omega)]
  refine Ev.bind e1 ?_
  simp only [if_pos (show old.length < 2513169434916 by omega)]
  rw [w64 (show -9223372036854775808 ≤ ((d + 1 : Nat) : Int) - 1 by omega) (by omega),show ((d + 1 : Nat) : Int) - 1 = (d : Int) by omega]
  exact e
theorem pf_l0 (s : List Int) (hs : okL okB s) (d : Nat) : ∀ (a b : Int) (B : List ByteArray) (c : Int) (p h : Int),B.length + d ≤ 90 → 0 ≤ p → p + 3 * d ≤ 1000 → ∃ r : PfD,pfOk r ∧ Ev (fun k => qzk.l0 k (d : Int) s p h a b B c) r := by
 induction d with
 | zero =>
  intro a b B c p h hl h0 h1
  obtain ⟨v,p1,h1',e1,v0,v1,g1,g1'⟩ := cur_pick s hs p h 4 h0 (by omega)
  obtain ⟨n,rfl⟩ := Int.eq_ofNat_of_zero_le v0
  obtain ⟨r,hr,e⟩ := pf_l1 s hs n [] a b B c p1 h1' ⟨by simp,fun y hy => by cases hy⟩ (by simp;omega) (by omega) (by omega)
  refine ⟨r,hr,Ev.upH ?_⟩
  simp only [qzk.l0,if_neg (show ¬ ((0 : Nat) : Int) > 0 by omega),e1,Option.bind_some]
  exact e
 | succ d ih =>
  intro a b B c p h hl h0 h1
  obtain ⟨t,p1,h1',e1,g1,g1'⟩ := cur_of s hs p h (([(⟨#[112,97,115,115]⟩ : ByteArray),(⟨#[83,69,67,82,69,84]⟩ : ByteArray),(⟨#[104,111,114,115,101]⟩ : ByteArray)] : List ByteArray)) (by decide) (by decide) h0 (by omega)
  obtain ⟨r,hr,e⟩ := ih a b (B ++ [t]) c p1 h1' (by rw [List.length_append,List.length_singleton];omega) (by omega) (by omega)
  refine ⟨r,hr,Ev.upH ?_⟩
  simp only [qzk.l0,if_pos (show ((d + 1 : Nat) : Int) > 0 by omega),e1,Option.bind_some,if_pos (show B.length < 8796093022208 by omega)]
  rw [w64 (show -9223372036854775808 ≤ ((d + 1 : Nat) : Int) - 1 by omega) (by omega),show ((d + 1 : Nat) : Int) - 1 = (d : Int) by omega]
  exact e
theorem drawPassFaults_ev (s : List Int) (hs : okL okB s) : ∃ r : PfD,pfOk r ∧ Ev (fun k => qzk.f k s) r := by
 obtain ⟨v1,p1,h1,e1,_,_,g1,g1'⟩ := cur_pick s hs 0 0 9 (by omega) (by omega)
 obtain ⟨v2,p2,h2,e2,_,_,g2,g2'⟩ := cur_pick s hs p1 h1 5 (by omega) (by omega)
 obtain ⟨v3,p3,h3,e3,_,_,g3,g3'⟩ := cur_pick s hs p2 h2 3 (by omega) (by omega)
 obtain ⟨v4,p4,h4,e4,v40,v41,g4,g4'⟩ := cur_pick s hs p3 h3 3 (by omega) (by omega)
 obtain ⟨n,rfl⟩ := Int.eq_ofNat_of_zero_le v40
 obtain ⟨r,hr,e⟩ := pf_l0 s hs n (wrap64 (1 + v1)) v2 [] v3 p4 h4 (by simp;omega) (by omega) (by omega)
 refine ⟨r,hr,?_⟩
 simp only [qzk.f,newCur.f,Option.bind_some,e1,e2,e3,e4]
 exact e
end Go.Proofs.Ytgolcojhnklfdaa.Pr
namespace Go.Proofs.Ytgolcojhnklfdaa.Pure
open Go.RowKit Go.Proofs.Ytgolcojhnklfdaa.Read Go.Proofs.YtgolcojhnklfdaaW.PrintWords Go.Proofs.Ytgolcojhnklfdaa.Pr
set_option linter.unusedVariables false
theorem zIn_l0 (a : List Int) (ha : a.length ≤ 1000000) (d : Nat) : ∀ (k i : Nat),i + d = a.length → d < k → qzj.l0 k a a (a.length : Int) i = some true := by
 induction d with
 | zero =>
  intro k i hi hk
  obtain ⟨k,rfl⟩ : ∃ m,k = m + 1 := ⟨k - 1,by omega⟩
  simp only [qzj.l0,if_neg (show ¬ ((i : Int) < a.length) by omega)]
 | succ d ih =>
  intro k i hi hk
  obtain ⟨k,rfl⟩ : ∃ m,k = m + 1 := ⟨k - 1,by omega⟩
  have e2 : wrap64 ((i : Int) + 1) = ((i + 1 : Nat) : Int) := by rw [w64 (by omega) (by omega)];rfl
  simp only [qzj.l0,if_pos (show ((i : Int) < a.length) by omega),if_pos (show (0 : Int) ≤ i by omega),if_true,e2]
  exact ih k (i + 1) (by omega) (by omega)
theorem zIn_ev (a : List Int) (ha : a.length ≤ 1000000) : Ev (fun k => qzj.f k a a) true :=
 ⟨a.length + 1,fun k hk => by
  show qzj.f k a a = _
  unfold qzj.f
  rw [if_pos rfl]
  exact zIn_l0 a ha a.length k 0 (by omega) (by omega)⟩
theorem fl_lenW : ∀ (i : Nat) (y : List Bool),(fl i y).length ≤ y.length
 | _,[] => Nat.le_refl _
 | i,b :: bs => by
  unfold fl
  have := fl_lenW (i + 1) bs
  split <;> simp only [List.length_cons] <;> omega
theorem pfL_lenW (a0_0 a0_1 : Int) (l0_2 : List ByteArray) (a0_3 : Int) (a1 a2 : ByteArray) (l3 : List StT) : (pfL a0_0 a0_1 l0_2 a0_3 a1 a2 l3).length ≤ 1000 := by
 unfold pfL
 split
 ·exact Nat.zero_le _
 ·split
  ·exact Nat.zero_le _
  ·exact Nat.le_trans (fl_lenW 0 _) (by unfold pfList;simp)
theorem fl_mem : ∀ (j : Nat) (y : List Bool) (i : Nat),y[j]? = some true → ((1 + i + j : Nat) : Int) ∈ fl i y
 | _,[],i,h => by simp at h
 | 0,b :: bs,i,h => by
  simp only [List.getElem?_cons_zero,Option.some.injEq] at h
  unfold fl
  rw [if_pos h]
  exact List.mem_cons_self
 | j + 1,b :: bs,i,h => by
  rw [List.getElem?_cons_succ] at h
  have := fl_mem j bs (i + 1) h
  rw [show 1 + (i + 1) + j = 1 + i + (j + 1) by omega] at this
  unfold fl
  split
  ·exact List.mem_cons_of_mem _ this
  ·exact this
theorem hasInt_l0 (l : List Int) (hl : l.length ≤ 1000000) (x : Int) (d : Nat) : ∀ (k i : Nat),i + d = l.length → d < k → x ∈ l.drop i → qzw.l0 k x l (l.length : Int) (i : Int) = some true := by
 induction d with
 | zero =>
  intro k i hi hk hm
  rw [List.drop_eq_nil_of_le (by omega)] at hm
  cases hm
 | succ d ih =>
  intro k i hi hk hm
  obtain ⟨k,rfl⟩ : ∃ m,k = m + 1 := ⟨k - 1,by omega⟩
  have hlt : i < l.length := by omega
  rw [List.drop_eq_getElem_cons hlt] at hm
  simp only [qzw.l0,if_pos (show (i : Int) < (l.length : Int) by omega),if_pos (show 0 ≤ (i : Int) by omega),rd_nat hlt]
  by_cases hx : l[i] = x
  ·rw [if_pos hx]
  ·rw [if_neg hx,w64 (show -9223372036854775808 ≤ (i : Int) + 1 by omega) (by omega),show (i : Int) + 1 = ((i + 1 : Nat) : Int) from rfl]
   refine ih k (i + 1) (by omega) (by omega) ?_
   rcases List.mem_cons.1 hm with h | h
   ·exact absurd h.symm hx
   ·exact h
theorem FnPasswords : qzq.Pure := by
 intro s hs
 apply Ev.rounds
 simp only [qzq.f]
 by_cases z1 : (s.length : Int) > 1048576
 ·simp only [if_pos z1];exact Ev.now _
 simp only [if_neg z1]
 obtain ⟨p,salt,n,hb,ed⟩ := drawPassHash_ev s hs
 refine Ev.bind ed ?_
 refine Ev.bind (implHash_ev p salt n hb) ?_
 refine Ev.bind (specHash_ev p salt n hb) ?_
 simp only [qzz.f,beq_self_eq_true,Option.bind_some,if_true]
 refine Ev.bind (implCheck_ev p salt n (hashL p salt n) hb) ?_
 have hpc : pcL p salt n (hashL p salt n) = decide (((hashL p salt n).length : Int) > 0) := by
  unfold pcL
  by_cases h : (hashL p salt n).length = 0
  ·rw [if_pos h,h];rfl
  ·rw [if_neg h,beq_self_eq_true,decide_eq_true (by omega)]
 simp only [hpc,bne_self_eq_false,Bool.false_eq_true,if_false]
 obtain ⟨⟨a,b,B,c,u,t,old⟩,ho,eq⟩ := drawPassFaults_ev s hs
 refine Ev.bind eq ?_
 refine Ev.bind (implFaults_ev a b B c u t old ho.2) ?_
 refine Ev.bind (specFaults_ev a b B c u t old ho.2) ?_
 refine Ev.bind (zIn_ev _ (Nat.le_trans (pfL_lenW _ _ _ _ _ _ _) (by omega))) ?_
 simp only [if_true]
 by_cases hz : ((hashL p salt n).length : Int) = 0
 ·simp only [if_pos hz];exact Ev.now _
 simp only [if_neg hz]
 refine Ev.bind (implFaults_ev 1 0 [] 1 (⟨#[]⟩ : ByteArray) p [(⟨salt,n,hashL p salt n⟩ : StT)] (fun x hx => by rw [List.mem_singleton] at hx;subst hx;exact hb)) ?_
 have hsz : p.size ≤ 64 := by
  have h2 : ¬ 64 < p.size := fun h => hz (by unfold hashL;rw [if_pos (Or.inl h)];rfl)
  omega
 have hmem : (7 : Int) ∈ pfL 1 0 [] 1 (⟨#[]⟩ : ByteArray) p [(⟨salt,n,hashL p salt n⟩ : StT)] := by
  unfold pfL
  rw [if_neg (by unfold pfBad;simp only [List.length_nil,List.length_singleton];have : (⟨#[]⟩ : ByteArray).size = 0 := rfl;omega),if_neg (by simp)]
  have hc : pcT p (⟨salt,n,hashL p salt n⟩ : StT) = true := by
   show pcL p salt n (hashL p salt n) = true
   rw [hpc,decide_eq_true (by omega)]
  have := fl_mem 6 (pfList 1 0 [] (⟨#[]⟩ : ByteArray) p (prt p) (([(⟨salt,n,hashL p salt n⟩ : StT)].take (1 : Int).toNat).any (pcT p))) 0 (by
   show some (([(⟨salt,n,hashL p salt n⟩ : StT)].take 1).any (pcT p)) = some true
   rw [List.take_succ_cons,List.take_nil,List.any_cons,hc,Bool.true_or])
  exact this
 have hlen := pfL_lenW 1 0 [] 1 (⟨#[]⟩ : ByteArray) p [(⟨salt,n,hashL p salt n⟩ : StT)]
 generalize pfL 1 0 [] 1 (⟨#[]⟩ : ByteArray) p [(⟨salt,n,hashL p salt n⟩ : StT)] = R at *
 have hi : Ev (fun k => qzw.f k R 7) true := ⟨R.length + 1,fun k hk => hasInt_l0 R (by omega) 7 R.length k 0 (by omega) (by omega) (by rw [List.drop_zero];exact hmem)⟩
 exact Ev.bind hi (Ev.now _)
end Go.Proofs.Ytgolcojhnklfdaa.Pure
namespace Go.Proofs.Ytgolcojhnklfdaa.fnPasswords
open Go.ChangeShapes Go.WideShapes Go.ChangeAt Go.RowKit Go.Proofs.Ytgolcojhnklfdaa.Read Go.Proofs.YtgolcojhnklfdaaW.PrintWords Go.Proofs.Ytgolcojhnklfdaa.Pr
open Go.ChangeMaps (open_string shut_string)
set_option linter.unusedVariables false
theorem own : ownKnob Try.prog.godebug = none := by kernel_rfl
theorem laidOut : laidOutB Try.prog = true := by kernel_rfl
set_option maxRecDepth 100000 in
theorem lifted (os : Os) (started : os.Started) (H : Type) (enc : TypeId × Value → H) :
  ReturnsInHanded {} Try.checked os 8 .any (Rows.fnPasswordsSpec.pre6 enc Try.prog Try.f8 Rows.fnPasswordsRow.domain false) (Rows.fnPasswordsSpec.post enc Try.prog Try.f8 false true false false) := by
 refine returnsInHanded_of_change_shaped (C := Try.checked) own started (by kernel_rfl) Try.func8
  (ChangeSpec.witness6 (enc := enc) (C := Try.checked) false ⟨#[],#[.slice none 0 0],[]⟩ 8 (by kernel_rfl) (by kernel_rfl) (by kernel_rfl) (by kernel_rfl)) ?_
 intro W base args ds gs before hval0 hW hcnd _ hsh _
 have htab : TabW W := cell_of_shapedOpen_int (zero := #[.int .i64 0]) hsh (of_decide_eq_true (by kernel_rfl)) (by kernel_rfl) rfl (by kernel_rfl) (by kernel_rfl) Try.underlying3
 clear hsh
 have hval : ∀ (j : Nat) t v,Try.f8.params[j]? = some t → args[j]? = some v → Value.okWide Try.prog W .any base t v := hval0
 have hW' := hW
 obtain ⟨p,q,hA0,hV,rfl,hfz,hnd⟩ := hW
 have hA : DataW.TrodAll enc Try.prog W 0 (fun _ => true) true Try.f8.params.toList args.toList ds p := hA0
 rw [Try.params8] at hA hval
 obtain ⟨v0,vs0,d0,ds0,p0,q0,hargs,rfl,rfl,h0,r0⟩ := trodAll_cons hA
 obtain ⟨rfl,rfl,rfl⟩ := trodAll_nil r0
 obtain rfl : args = #[v0] := by cases args;simp_all
 obtain ⟨rfl,rfl⟩ := trodVars_none hV
 have lt0 : ∀ x ∈ p0,x.block < W.heap.size := by obtain ⟨m,hm⟩ := h0;exact DataW.trod_lt m _ _ _ hm
 have bk0 := fun {W' : World} (bel : Below W.heap.size W W') => Below.trod laidOut (by kernel_rfl) (of_decide_eq_true (by kernel_rfl)) h0 bel lt0
 obtain ⟨A0,c0,l0,rfl,hl0,hC0,o0⟩ := arg_slice Try.underlying26 (tellsL Try.underlying26 (by kernel_rfl) (tellsB Try.underlying5 (by kernel_rfl))) (hval 0 26 v0 rfl rfl) h0
 obtain ⟨k,hk⟩ := Pure.FnPasswords l0 o0
 refine (qzq.calls k _ _ l0 true W htab hC0 hl0 hk).mono fun e W' hpost => ?_
 obtain ⟨he,hb⟩ := hpost
 have bel : Below W.heap.size W W' := hb
 subst he
 exact ⟨_,rfl,_,_,_,[],_,[],hW',trodAll_mk1 (shut_bool Try.underlying4 _),(trodAll_cons_mk (bk0 bel) trodAll_mk0),rfl,bel.frame _,fun h => by cases h⟩
theorem over : Rows.fnPasswordsRow.holds Try.pinned (OpenSpec.ofChange Rows.fnPasswordsSpec) :=
 OpenClaim.holds_of_wide 8 Try.f8 rfl rfl rfl rfl rfl rfl rfl ⟨rfl,rfl,rfl,rfl,rfl⟩ rfl rfl rfl rfl rfl (by kernel_rfl) Try.func8 (by kernel_rfl)
  (of_decide_eq_true (by kernel_rfl)) (by unfold Func.isWrapper;first | (rw [if_pos (by decide +kernel)];kernel_rfl) | (rw [if_neg (by decide +kernel)];exact ⟨rfl,rfl⟩))
  (fun os started H enc _ => lifted os started H enc)
theorem proved : Rows.FnPasswordsSaid := over
#print axioms proved
end Go.Proofs.Ytgolcojhnklfdaa.fnPasswords
namespace Go.Proofs.Ytgolcojhnklfdaa
theorem fnPasswords_holds : Rows.FnPasswordsSaid := fnPasswords.proved
end Go.Proofs.Ytgolcojhnklfdaa
