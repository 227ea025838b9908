-- Written by mkprint.py (a program of this repo, which drives the print.py of the kit): Lean checks it.
import Derived.Test.YtgolcojhnklfdaaPr0x
namespace Go.Proofs.Ytgolcojhnklfdaa.Pr
open Go.RowKit Go.Proofs.YtgolcojhnklfdaaW.PrintWords Go.Proofs.YtgolcojhnklfdaaW.PrintLast Go.Proofs.YtgolcojhnklfdaaW.PrintMore
attribute [local go_sem] max2_int min2_int max_two min_two max_three min_three max_four min_four   -- for this text's walks alone
set_option linter.unusedVariables false
set_option linter.unusedSimpArgs false

/-! ### impl_ychallengeFits: function 65 -/
def impl_ychallengeFits.f (a0 : ByteArray) (l1 : List Int) (a2 : Int) : Option (Bool) := if (a0.size : Int) ≥ 1 then (if (a0.size : Int) ≤ 100 then (if (l1.length : Int) ≤ 100 then (if a2 ≥ 0 then (some (decide (a2 ≤ 1000000000))) else (some false)) else (some false)) else (some false)) else (some false)
set_option maxHeartbeats 8000000 in
set_option maxRecDepth 100000 in
theorem impl_ychallengeFits.calls (a0 : ByteArray) (A1 : Option Addr) (c1 : Nat) (l1 : List Int) (a2 : Int) (r : Bool) (w : World) (hr1 : Kd.C (Kd.int .u8) w A1 l1.length l1) (hc1 : l1.length ≤ c1) (h : impl_ychallengeFits.f a0 l1 a2 = some r) :
    Calls Try.prog 65 #[.string a0, .slice A1 l1.length c1, .int .i64 a2] w fun e w' => e = .returned (.bool r) ∧ Drawn0 w w' := by
  have HR1 := Aside0.mk hr1
  have HC1 := Aside0.mk hc1
  clear hr1 hc1
  have H : (if (a0.size : Int) ≥ 1 then (if (a0.size : Int) ≤ 100 then (if (l1.length : Int) ≤ 100 then (if a2 ≥ 0 then (some (decide (a2 ≤ 1000000000))) else (some false)) else (some false)) else (some false)) else (some false)) = some r := h
  clear h
  by_cases c4 : (a0.size : Int) ≥ 1
  · rw [if_pos c4] at H
    have c4b0 : decide (1 ≤ (a0.size : Int)) = true := decide_eq_true c4
    have c4b1 : decide (1 ≤ a0.size) = true := decide_eq_true (by omega)
    clear c4
    by_cases c5 : (a0.size : Int) ≤ 100
    · rw [if_pos c5] at H
      have c5b0 : decide ((a0.size : Int) ≤ 100) = true := decide_eq_true c5
      have c5b1 : decide (a0.size ≤ 100) = true := decide_eq_true (by omega)
      clear c5
      by_cases c6 : (l1.length : Int) ≤ 100
      · rw [if_pos c6] at H
        have c6b0 : decide ((l1.length : Int) ≤ 100) = true := decide_eq_true c6
        have c6b1 : decide (l1.length ≤ 100) = true := decide_eq_true (by omega)
        clear c6
        by_cases c7 : a2 ≥ 0
        · rw [if_pos c7] at H
          have c7b0 : decide (0 ≤ a2) = true := decide_eq_true c7
          clear c7
          obtain rfl := Option.some.inj H
          go_enter Try.func65, Try.ntmps65
          go_wp2
          go_ret
          exact ⟨by first | rfl | (simp; done) | (simp [*]; done), by repeat (first | exact Drawn0.refl _ | apply Drawn0.step)⟩
        · rw [if_neg c7] at H
          have c7b0 : decide (0 ≤ a2) = false := decide_eq_false c7
          clear c7
          obtain rfl := Option.some.inj H
          go_enter Try.func65, Try.ntmps65
          go_wp2
          go_ret
          exact ⟨by first | rfl | (simp; done) | (simp [*]; done), by repeat (first | exact Drawn0.refl _ | apply Drawn0.step)⟩
      · rw [if_neg c6] at H
        have c6b0 : decide ((l1.length : Int) ≤ 100) = false := decide_eq_false c6
        have c6b1 : decide (l1.length ≤ 100) = false := decide_eq_false (by omega)
        clear c6
        obtain rfl := Option.some.inj H
        go_enter Try.func65, Try.ntmps65
        go_wp2
        go_ret
        exact ⟨by first | rfl | (simp; done) | (simp [*]; done), by repeat (first | exact Drawn0.refl _ | apply Drawn0.step)⟩
    · rw [if_neg c5] at H
      have c5b0 : decide ((a0.size : Int) ≤ 100) = false := decide_eq_false c5
      have c5b1 : decide (a0.size ≤ 100) = false := decide_eq_false (by omega)
      clear c5
      obtain rfl := Option.some.inj H
      go_enter Try.func65, Try.ntmps65
      go_wp2
      go_ret
      exact ⟨by first | rfl | (simp; done) | (simp [*]; done), by repeat (first | exact Drawn0.refl _ | apply Drawn0.step)⟩
  · rw [if_neg c4] at H
    have c4b0 : decide (1 ≤ (a0.size : Int)) = false := decide_eq_false c4
    have c4b1 : decide (1 ≤ a0.size) = false := decide_eq_false (by omega)
    clear c4
    obtain rfl := Option.some.inj H
    go_enter Try.func65, Try.ntmps65
    go_wp2
    go_ret
    exact ⟨by first | rfl | (simp; done) | (simp [*]; done), by repeat (first | exact Drawn0.refl _ | apply Drawn0.step)⟩

end Go.Proofs.Ytgolcojhnklfdaa.Pr
