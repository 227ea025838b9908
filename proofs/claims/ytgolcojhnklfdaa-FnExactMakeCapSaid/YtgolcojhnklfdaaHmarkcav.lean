/- The walk of laws.markCavTermS at no terms. -/
import Derived.Test.YtgolcojhnklfdaaPr0x
namespace Go.Proofs.Ytgolcojhnklfdaa.Pr
open Go.RowKit Go.Proofs.YtgolcojhnklfdaaW.PrintWords Go.Proofs.YtgolcojhnklfdaaW.PrintLast Go.Proofs.YtgolcojhnklfdaaW.PrintMore
set_option linter.unusedVariables false
def laws_markCavTermS.f (l0 : List S152) (a1 : Int) : Option Int := if l0.length = 0 then some a1 else none
set_option maxHeartbeats 1000000 in
set_option maxRecDepth 100000 in
theorem laws_markCavTermS.calls (A0 : Option Addr) (c0 : Nat) (l0 : List S152) (a1 : Int) (r : Int) (w : World) (hr0 : Kd.C k152 w A0 l0.length l0) (hc0 : l0.length ≤ c0) (h : laws_markCavTermS.f l0 a1 = some r) :
    Calls Try.prog 111 #[.slice A0 l0.length c0, .int .i64 a1] w fun e w' => e = .returned (.int .i64 r) ∧ Drawn0 w w' := by
  unfold laws_markCavTermS.f at h
  by_cases hl : l0.length = 0
  case neg => rw [if_neg hl] at h; cases h
  rw [if_pos hl] at h
  obtain rfl := Option.some.inj h
  rw [hl]
  clear hr0 hc0 h hl
  go_enter Try.func111, Try.ntmps111
  go_wp2
  go_loopw [1, 5] (fun v1 v5 W => v1 = .int .i64 a1 ∧ v5 = .int .i64 0 ∧ Aside0 (Drawn0 w W)) (fun _ _ _ => 0)
  case atStart => exact ⟨rfl, rfl, ⟨by repeat (first | exact Drawn0.refl _ | apply Drawn0.step)⟩⟩
  case round =>
    obtain ⟨rfl, rfl, HW⟩ := hrel
    go_wp2
    go_ret
    exact ⟨rfl, by repeat (first | exact HW.out | apply Drawn0.step)⟩
end Go.Proofs.Ytgolcojhnklfdaa.Pr
