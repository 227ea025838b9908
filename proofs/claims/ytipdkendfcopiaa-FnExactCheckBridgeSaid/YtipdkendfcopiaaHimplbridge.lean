/- The walk of impl.CheckBridge. -/
import Derived.Test.YtipdkendfcopiaaPcross
import Derived.Test.YtipdkendfcopiaaHimplpath
import Derived.Test.YtipdkendfcopiaaHspecbridge
import Derived.Test.YtipdkendfcopiaaPr94
import Derived.WalkSpells
namespace Go.Proofs.Ytipdkendfcopiaa.Pr
open Go.RowKit Go.Proofs.Ytipdkendfcopiaa.Read Go.Proofs.YtipdkendfcopiaaW.PrintWords Go.Proofs.YtipdkendfcopiaaW.PrintLast Go.Proofs.YtipdkendfcopiaaW.PrintMore
set_option linter.unusedVariables false
theorem impl_ysixteen_pair {A2 A3 : Option Addr} {c2 c3 : Nat} {l2 l3 : List Int} {w : World} {b : Bool} (h2 : Kd.C (Kd.int .u8) w A2 l2.length l2) (hc2 : l2.length ≤ c2) (h3 : Kd.C (Kd.int .u8) w A3 l3.length l3) (hc3 : l3.length ≤ c3) (hs : impl_ysixteen.f [l2, l3] = some b) :
    Calls Try.prog 92 #[.slice (some ⟨w.heap.size, 0, none⟩) 2 2] (w.alloc (.cells #[.slice A2 l2.length c2, .slice A3 l3.length c3] 22)) fun e w' => e = .returned (.bool b) ∧ ∃ nd, w' = (w.alloc (.cells #[.slice A2 l2.length c2, .slice A3 l3.length c3] 22)).drewN nd := by
  have hcell0 : (w.alloc (.cells #[.slice A2 l2.length c2, .slice A3 l3.length c3] 22)).cell? ⟨w.heap.size, 0, none⟩ = some (.slice A2 l2.length c2) := (blk_cell (blk_new w _) 0).trans rfl
  have hcell1 : (w.alloc (.cells #[.slice A2 l2.length c2, .slice A3 l3.length c3] 22)).cell? ⟨w.heap.size, 1, none⟩ = some (.slice A3 l3.length c3) := (blk_cell (blk_new w _) 1).trans rfl
  exact (impl_ysixteen.calls (some ⟨w.heap.size, 0, none⟩) 2 [l2, l3] b _ (two_C (Kd.C_alloc h2 _) hc2 (Kd.C_alloc h3 _) hc3 hcell0 hcell1) (by simp) hs).mono fun e w' hp => ⟨hp.1, hp.2.1⟩
theorem impl_ysixteen_rest {A2 A3 : Option Addr} {c2 c3 n2 n3 : Nat} {A4 : Option Addr} {c4 : Nat} {l4 : List (List Int)} {w : World} {b : Bool} {nd : Nat} (h : Kd.C (Kd.slice 5 (Kd.int .u8)) w A4 l4.length l4) (hc : l4.length ≤ c4) (hs : impl_ysixteen.f l4 = some b) :
    Calls Try.prog 92 #[.slice A4 l4.length c4] ((w.alloc (.cells #[.slice A2 n2 c2, .slice A3 n3 c3] 22)).drewN nd) fun e w' => e = .returned (.bool b) ∧ ∃ nd2, w' = ((w.alloc (.cells #[.slice A2 n2 c2, .slice A3 n3 c3] 22)).drewN nd).drewN nd2 :=
  (impl_ysixteen.calls A4 c4 l4 b _ (Kd.C_drewN (Kd.C_alloc h _) _) hc hs).mono fun e w' hp => ⟨hp.1, hp.2.1⟩
def impl_CheckBridge.f (a0 : Int) (a1 : Int) (l2 : List Int) (l3 : List Int) (l4 : List (List Int)) : Option (Bool) := if bridgeBytes l2 l4 then some (bridgeL a0 a1 l2 l3 l4) else none
set_option maxHeartbeats 2000000 in
set_option maxRecDepth 100000 in
theorem impl_CheckBridge.calls_e0 (a0 : Int) (a1 : Int) (A2 : Option Addr) (c2 : Nat) (l2 : List Int) (A3 : Option Addr) (c3 : Nat) (l3 : List Int) (A4 : Option Addr) (c4 : Nat) (l4 : List (List Int)) (w : World) (hr2 : Kd.C (Kd.int .u8) w A2 l2.length l2) (hc2 : l2.length ≤ c2) (hr3 : Kd.C (Kd.int .u8) w A3 l3.length l3) (hc3 : l3.length ≤ c3) (hr4 : Kd.C (Kd.slice 5 (Kd.int .u8)) w A4 l4.length l4) (hc4 : l4.length ≤ c4)  (g0 : a0 < 1) :
    Calls Try.prog 52 #[.int .i64 a0, .int .i64 a1, .slice A2 l2.length c2, .slice A3 l3.length c3, .slice A4 l4.length c4] w fun e w' => e = .returned (.bool false) ∧ Below w.heap.size w w' := by
  have HR2 := Aside0.mk hr2
  have HC2 := Aside0.mk hc2
  have HR3 := Aside0.mk hr3
  have HC3 := Aside0.mk hc3
  have HR4 := Aside0.mk hr4
  have HC4 := Aside0.mk hc4
  have HS4 : Aside0 (impl_ysixteen.f l4 = some (!bad16 l4)) := ⟨rfl⟩
  have HS2 : Aside0 (impl_ysixteen.f [l2, l3] = some (!bad16 [l2, l3])) := ⟨rfl⟩
  clear hr2 hc2 hr3 hc3 hr4 hc4
  have q0 : decide (a0 < 1) = true := decide_eq_true (by omega)
  clear HS2 HS4 g0
  go_enter Try.func52, Try.ntmps52
  go_wp2_with (first | (go_at_call 92; with_reducible refine (impl_ysixteen_pair HR2.out HC2.out HR3.out HC3.out HS2.out).mono ?_; rintro e w' ⟨rfl, nd, rfl⟩))
  go_ret
  exact ⟨rfl, by repeat (first | exact Below.refl _ _ | apply pw_below_drewN | apply below_drew | apply below_alloc)⟩
set_option maxHeartbeats 2000000 in
set_option maxRecDepth 100000 in
theorem impl_CheckBridge.calls_e1 (a0 : Int) (a1 : Int) (A2 : Option Addr) (c2 : Nat) (l2 : List Int) (A3 : Option Addr) (c3 : Nat) (l3 : List Int) (A4 : Option Addr) (c4 : Nat) (l4 : List (List Int)) (w : World) (hr2 : Kd.C (Kd.int .u8) w A2 l2.length l2) (hc2 : l2.length ≤ c2) (hr3 : Kd.C (Kd.int .u8) w A3 l3.length l3) (hc3 : l3.length ≤ c3) (hr4 : Kd.C (Kd.slice 5 (Kd.int .u8)) w A4 l4.length l4) (hc4 : l4.length ≤ c4) (g0 : ¬ a0 < 1) (g1 : a1 < a0) :
    Calls Try.prog 52 #[.int .i64 a0, .int .i64 a1, .slice A2 l2.length c2, .slice A3 l3.length c3, .slice A4 l4.length c4] w fun e w' => e = .returned (.bool false) ∧ Below w.heap.size w w' := by
  have HR2 := Aside0.mk hr2
  have HC2 := Aside0.mk hc2
  have HR3 := Aside0.mk hr3
  have HC3 := Aside0.mk hc3
  have HR4 := Aside0.mk hr4
  have HC4 := Aside0.mk hc4
  have HS4 : Aside0 (impl_ysixteen.f l4 = some (!bad16 l4)) := ⟨rfl⟩
  have HS2 : Aside0 (impl_ysixteen.f [l2, l3] = some (!bad16 [l2, l3])) := ⟨rfl⟩
  clear hr2 hc2 hr3 hc3 hr4 hc4
  have q0 : decide (a0 < 1) = false := decide_eq_false (by omega)
  have q1 : decide (a1 < a0) = true := decide_eq_true (by omega)
  clear HS2 HS4 g0 g1
  go_enter Try.func52, Try.ntmps52
  go_wp2_with (first | (go_at_call 92; with_reducible refine (impl_ysixteen_pair HR2.out HC2.out HR3.out HC3.out HS2.out).mono ?_; rintro e w' ⟨rfl, nd, rfl⟩))
  go_ret
  exact ⟨rfl, by repeat (first | exact Below.refl _ _ | apply pw_below_drewN | apply below_drew | apply below_alloc)⟩
set_option maxHeartbeats 2000000 in
set_option maxRecDepth 100000 in
theorem impl_CheckBridge.calls_e2 (a0 : Int) (a1 : Int) (A2 : Option Addr) (c2 : Nat) (l2 : List Int) (A3 : Option Addr) (c3 : Nat) (l3 : List Int) (A4 : Option Addr) (c4 : Nat) (l4 : List (List Int)) (w : World) (hr2 : Kd.C (Kd.int .u8) w A2 l2.length l2) (hc2 : l2.length ≤ c2) (hr3 : Kd.C (Kd.int .u8) w A3 l3.length l3) (hc3 : l3.length ≤ c3) (hr4 : Kd.C (Kd.slice 5 (Kd.int .u8)) w A4 l4.length l4) (hc4 : l4.length ≤ c4) (g0 : ¬ a0 < 1) (g1 : ¬ a1 < a0) (g2 : 200 < a1) :
    Calls Try.prog 52 #[.int .i64 a0, .int .i64 a1, .slice A2 l2.length c2, .slice A3 l3.length c3, .slice A4 l4.length c4] w fun e w' => e = .returned (.bool false) ∧ Below w.heap.size w w' := by
  have HR2 := Aside0.mk hr2
  have HC2 := Aside0.mk hc2
  have HR3 := Aside0.mk hr3
  have HC3 := Aside0.mk hc3
  have HR4 := Aside0.mk hr4
  have HC4 := Aside0.mk hc4
  have HS4 : Aside0 (impl_ysixteen.f l4 = some (!bad16 l4)) := ⟨rfl⟩
  have HS2 : Aside0 (impl_ysixteen.f [l2, l3] = some (!bad16 [l2, l3])) := ⟨rfl⟩
  clear hr2 hc2 hr3 hc3 hr4 hc4
  have q0 : decide (a0 < 1) = false := decide_eq_false (by omega)
  have q1 : decide (a1 < a0) = false := decide_eq_false (by omega)
  have q2 : decide (200 < a1) = true := decide_eq_true (by omega)
  clear HS2 HS4 g0 g1 g2
  go_enter Try.func52, Try.ntmps52
  go_wp2_with (first | (go_at_call 92; with_reducible refine (impl_ysixteen_pair HR2.out HC2.out HR3.out HC3.out HS2.out).mono ?_; rintro e w' ⟨rfl, nd, rfl⟩))
  go_ret
  exact ⟨rfl, by repeat (first | exact Below.refl _ _ | apply pw_below_drewN | apply below_drew | apply below_alloc)⟩
set_option maxHeartbeats 2000000 in
set_option maxRecDepth 100000 in
theorem impl_CheckBridge.calls_ends (a0 : Int) (a1 : Int) (A2 : Option Addr) (c2 : Nat) (l2 : List Int) (A3 : Option Addr) (c3 : Nat) (l3 : List Int) (A4 : Option Addr) (c4 : Nat) (l4 : List (List Int)) (w : World) (hr2 : Kd.C (Kd.int .u8) w A2 l2.length l2) (hc2 : l2.length ≤ c2) (hr3 : Kd.C (Kd.int .u8) w A3 l3.length l3) (hc3 : l3.length ≤ c3) (hr4 : Kd.C (Kd.slice 5 (Kd.int .u8)) w A4 l4.length l4) (hc4 : l4.length ≤ c4) (g0 : ¬ a0 < 1) (g1 : ¬ a1 < a0) (g2 : ¬ 200 < a1) (g5 : bad16 [l2, l3] = true) :
    Calls Try.prog 52 #[.int .i64 a0, .int .i64 a1, .slice A2 l2.length c2, .slice A3 l3.length c3, .slice A4 l4.length c4] w fun e w' => e = .returned (.bool false) ∧ Below w.heap.size w w' := by
  have HR2 := Aside0.mk hr2
  have HC2 := Aside0.mk hc2
  have HR3 := Aside0.mk hr3
  have HC3 := Aside0.mk hc3
  have HR4 := Aside0.mk hr4
  have HC4 := Aside0.mk hc4
  have HS4 : Aside0 (impl_ysixteen.f l4 = some (!bad16 l4)) := ⟨rfl⟩
  have HS2 : Aside0 (impl_ysixteen.f [l2, l3] = some (!bad16 [l2, l3])) := ⟨rfl⟩
  clear hr2 hc2 hr3 hc3 hr4 hc4
  have q0 : decide (a0 < 1) = false := decide_eq_false (by omega)
  have q1 : decide (a1 < a0) = false := decide_eq_false (by omega)
  have q2 : decide (200 < a1) = false := decide_eq_false (by omega)
  replace HS2 : Aside0 (impl_ysixteen.f [l2, l3] = some false) := ⟨by rw [HS2.out, g5]; rfl⟩
  clear g0 g1 g2 g5
  go_enter Try.func52, Try.ntmps52
  go_wp2_with (first | (go_at_call 92; with_reducible refine (impl_ysixteen_pair HR2.out HC2.out HR3.out HC3.out HS2.out).mono ?_; rintro e w' ⟨rfl, nd, rfl⟩))
  go_ret
  exact ⟨rfl, by repeat (first | exact Below.refl _ _ | apply pw_below_drewN | apply below_drew | apply below_alloc)⟩
set_option maxHeartbeats 2000000 in
set_option maxRecDepth 100000 in
theorem impl_CheckBridge.calls_bad (a0 : Int) (a1 : Int) (A2 : Option Addr) (c2 : Nat) (l2 : List Int) (A3 : Option Addr) (c3 : Nat) (l3 : List Int) (A4 : Option Addr) (c4 : Nat) (l4 : List (List Int)) (w : World) (hr2 : Kd.C (Kd.int .u8) w A2 l2.length l2) (hc2 : l2.length ≤ c2) (hr3 : Kd.C (Kd.int .u8) w A3 l3.length l3) (hc3 : l3.length ≤ c3) (hr4 : Kd.C (Kd.slice 5 (Kd.int .u8)) w A4 l4.length l4) (hc4 : l4.length ≤ c4) (g0 : ¬ a0 < 1) (g1 : ¬ a1 < a0) (g2 : ¬ 200 < a1) (g5 : bad16 [l2, l3] = false) (g6 : bad16 l4 = true) :
    Calls Try.prog 52 #[.int .i64 a0, .int .i64 a1, .slice A2 l2.length c2, .slice A3 l3.length c3, .slice A4 l4.length c4] w fun e w' => e = .returned (.bool false) ∧ Below w.heap.size w w' := by
  have HR2 := Aside0.mk hr2
  have HC2 := Aside0.mk hc2
  have HR3 := Aside0.mk hr3
  have HC3 := Aside0.mk hc3
  have HR4 := Aside0.mk hr4
  have HC4 := Aside0.mk hc4
  have HS4 : Aside0 (impl_ysixteen.f l4 = some (!bad16 l4)) := ⟨rfl⟩
  have HS2 : Aside0 (impl_ysixteen.f [l2, l3] = some (!bad16 [l2, l3])) := ⟨rfl⟩
  clear hr2 hc2 hr3 hc3 hr4 hc4
  have q0 : decide (a0 < 1) = false := decide_eq_false (by omega)
  have q1 : decide (a1 < a0) = false := decide_eq_false (by omega)
  have q2 : decide (200 < a1) = false := decide_eq_false (by omega)
  replace HS2 : Aside0 (impl_ysixteen.f [l2, l3] = some true) := ⟨by rw [HS2.out, g5]; rfl⟩
  replace HS4 : Aside0 (impl_ysixteen.f l4 = some false) := ⟨by rw [HS4.out, g6]; rfl⟩
  clear g0 g1 g2 g5 g6
  go_enter Try.func52, Try.ntmps52
  go_wp2_with (first | (go_at_call 92; with_reducible refine (impl_ysixteen_pair HR2.out HC2.out HR3.out HC3.out HS2.out).mono ?_; rintro e w' ⟨rfl, nd, rfl⟩) | (go_at_call 92; with_reducible refine (impl_ysixteen_rest HR4.out HC4.out HS4.out).mono ?_; rintro e w' ⟨rfl, nd2, rfl⟩))
  go_ret
  exact ⟨rfl, by repeat (first | exact Below.refl _ _ | apply pw_below_drewN | apply below_drew | apply below_alloc)⟩
set_option maxHeartbeats 2000000 in
set_option maxRecDepth 100000 in
theorem impl_CheckBridge.calls_good (a0 : Int) (a1 : Int) (A2 : Option Addr) (c2 : Nat) (l2 : List Int) (A3 : Option Addr) (c3 : Nat) (l3 : List Int) (A4 : Option Addr) (c4 : Nat) (l4 : List (List Int)) (w : World) (hr2 : Kd.C (Kd.int .u8) w A2 l2.length l2) (hc2 : l2.length ≤ c2) (hr3 : Kd.C (Kd.int .u8) w A3 l3.length l3) (hc3 : l3.length ≤ c3) (hr4 : Kd.C (Kd.slice 5 (Kd.int .u8)) w A4 l4.length l4) (hc4 : l4.length ≤ c4) (hb : bridgeBytes l2 l4) (hok : bridgeOk a0 a1 l2 l3 l4) :
    Calls Try.prog 52 #[.int .i64 a0, .int .i64 a1, .slice A2 l2.length c2, .slice A3 l3.length c3, .slice A4 l4.length c4] w fun e w' => e = .returned (.bool (bridgeL a0 a1 l2 l3 l4)) ∧ Below w.heap.size w w' := by
  have HR2 := Aside0.mk hr2
  have HC2 := Aside0.mk hc2
  have HR3 := Aside0.mk hr3
  have HC3 := Aside0.mk hc3
  have HR4 := Aside0.mk hr4
  have HC4 := Aside0.mk hc4
  have HS4 : Aside0 (impl_ysixteen.f l4 = some (!bad16 l4)) := ⟨rfl⟩
  have HS2 : Aside0 (impl_ysixteen.f [l2, l3] = some (!bad16 [l2, l3])) := ⟨rfl⟩
  clear hr2 hc2 hr3 hc3 hr4 hc4
  have hsx := bridge_six hb hok
  obtain ⟨g1, g2, g3, g4, g5⟩ := hok
  rw [show bridgeL a0 a1 l2 l3 l4 = (((bothL l2 l4 l4.length a0 a1 true).2.2 && sameS (bothL l2 l4 l4.length a0 a1 true).1 l2) && sameS (bothL l2 l4 l4.length a0 a1 true).2.1 l3) from if_pos ⟨g1, g2, g3, g4, g5⟩]
  have HU := Aside0.mk (cross_calls l2 l4 hsx.1 hsx.2 l4.length a0 a1 true)
  generalize bothL l2 l4 l4.length a0 a1 true = res at HU ⊢
  obtain ⟨r1, r2, r3⟩ := res
  dsimp only at HU ⊢
  have q0 : decide (a0 < 1) = false := decide_eq_false (by omega)
  have q1 : decide (a1 < a0) = false := decide_eq_false (by omega)
  have q2 : decide (200 < a1) = false := decide_eq_false (by omega)
  replace HS2 : Aside0 (impl_ysixteen.f [l2, l3] = some true) := ⟨by rw [HS2.out, g4]; rfl⟩
  replace HS4 : Aside0 (impl_ysixteen.f l4 = some true) := ⟨by rw [HS4.out, g5]; rfl⟩
  have G := Aside0.mk (And.intro g1 (And.intro g2 g3))
  clear hb hsx g1 g2 g3 g4 g5
  cases r3 with
  | false =>
    go_enter Try.func52, Try.ntmps52
    go_wp2_with (first | (go_at_call 92; with_reducible refine (impl_ysixteen_pair HR2.out HC2.out HR3.out HC3.out HS2.out).mono ?_; rintro e w' ⟨rfl, nd, rfl⟩) | (go_at_call 92; with_reducible refine (impl_ysixteen_rest HR4.out HC4.out HS4.out).mono ?_; rintro e w' ⟨rfl, nd2, rfl⟩) | (go_at_call 96; refine (HU.out _ A2 c2 A4 c4 (Nat.le_refl _) G.out.1 G.out.2.1 G.out.2.2 (by repeat (first | exact HR2.out | apply Kd.C_alloc | apply Kd.C_drewN | apply Kd.C_drew)) HC2.out (by rw [List.take_length]; exact (by repeat (first | exact HR4.out | apply Kd.C_alloc | apply Kd.C_drewN | apply Kd.C_drew))) HC4.out).mono ?_; rintro e w1 ⟨AR, cR, AS, cS, rfl, hR, hS, hCR, hCS, hBR⟩; replace hR := Aside0.mk hR; replace hS := Aside0.mk hS; replace hCR := Aside0.mk hCR; replace hCS := Aside0.mk hCS; have hB1 : Aside0 (Below w.heap.size w w1) := ⟨(below_step (by repeat (first | exact Below.refl _ _ | apply pw_below_drewN | apply below_drew | apply below_alloc)) hBR)⟩; clear hBR))
    go_ret
    exact ⟨by first | rfl | (simp [sameS]; done), by repeat (first | exact hB1.out | apply pw_below_drewN | apply below_drew)⟩
  | true =>
    cases he : sameS r1 l2 with
    | false =>
      have HE1 : Aside0 (bytes_Equal.f r1 l2 = some false) := ⟨congrArg some he⟩
      clear he
      go_enter Try.func52, Try.ntmps52
      go_wp2_with (first | (go_at_call 92; with_reducible refine (impl_ysixteen_pair HR2.out HC2.out HR3.out HC3.out HS2.out).mono ?_; rintro e w' ⟨rfl, nd, rfl⟩) | (go_at_call 92; with_reducible refine (impl_ysixteen_rest HR4.out HC4.out HS4.out).mono ?_; rintro e w' ⟨rfl, nd2, rfl⟩) | (go_at_call 96; refine (HU.out _ A2 c2 A4 c4 (Nat.le_refl _) G.out.1 G.out.2.1 G.out.2.2 (by repeat (first | exact HR2.out | apply Kd.C_alloc | apply Kd.C_drewN | apply Kd.C_drew)) HC2.out (by rw [List.take_length]; exact (by repeat (first | exact HR4.out | apply Kd.C_alloc | apply Kd.C_drewN | apply Kd.C_drew))) HC4.out).mono ?_; rintro e w1 ⟨AR, cR, AS, cS, rfl, hR, hS, hCR, hCS, hBR⟩; replace hR := Aside0.mk hR; replace hS := Aside0.mk hS; replace hCR := Aside0.mk hCR; replace hCS := Aside0.mk hCS; have hB1 : Aside0 (Below w.heap.size w w1) := ⟨(below_step (by repeat (first | exact Below.refl _ _ | apply pw_below_drewN | apply below_drew | apply below_alloc)) hBR)⟩; clear hBR) | (go_at_call 94; with_reducible refine (bytes_Equal.calls AR cR r1 A2 c2 l2 _ _ (by repeat (first | exact hCR.out | apply Kd.C_drewN | apply Kd.C_drew)) hR.out (by repeat (first | exact Kd.C_below HR2.out hB1.out | apply Kd.C_drewN | apply Kd.C_drew)) HC2.out HE1.out).mono ?_; rintro e w' ⟨rfl, ⟨⟨nd3, rfl⟩⟩⟩))
      go_ret
      exact ⟨by first | rfl | (simp [sameS]; done), by repeat (first | exact hB1.out | apply pw_below_drewN | apply below_drew)⟩
    | true =>
      have HE1 : Aside0 (bytes_Equal.f r1 l2 = some true) := ⟨congrArg some he⟩
      clear he
      go_enter Try.func52, Try.ntmps52
      go_wp2_with (first | (go_at_call 92; with_reducible refine (impl_ysixteen_pair HR2.out HC2.out HR3.out HC3.out HS2.out).mono ?_; rintro e w' ⟨rfl, nd, rfl⟩) | (go_at_call 92; with_reducible refine (impl_ysixteen_rest HR4.out HC4.out HS4.out).mono ?_; rintro e w' ⟨rfl, nd2, rfl⟩) | (go_at_call 96; refine (HU.out _ A2 c2 A4 c4 (Nat.le_refl _) G.out.1 G.out.2.1 G.out.2.2 (by repeat (first | exact HR2.out | apply Kd.C_alloc | apply Kd.C_drewN | apply Kd.C_drew)) HC2.out (by rw [List.take_length]; exact (by repeat (first | exact HR4.out | apply Kd.C_alloc | apply Kd.C_drewN | apply Kd.C_drew))) HC4.out).mono ?_; rintro e w1 ⟨AR, cR, AS, cS, rfl, hR, hS, hCR, hCS, hBR⟩; replace hR := Aside0.mk hR; replace hS := Aside0.mk hS; replace hCR := Aside0.mk hCR; replace hCS := Aside0.mk hCS; have hB1 : Aside0 (Below w.heap.size w w1) := ⟨(below_step (by repeat (first | exact Below.refl _ _ | apply pw_below_drewN | apply below_drew | apply below_alloc)) hBR)⟩; clear hBR) | (go_at_call 94; with_reducible refine (bytes_Equal.calls AR cR r1 A2 c2 l2 _ _ (by repeat (first | exact hCR.out | apply Kd.C_drewN | apply Kd.C_drew)) hR.out (by repeat (first | exact Kd.C_below HR2.out hB1.out | apply Kd.C_drewN | apply Kd.C_drew)) HC2.out HE1.out).mono ?_; rintro e w' ⟨rfl, ⟨⟨nd3, rfl⟩⟩⟩) | (go_at_call 94; with_reducible refine (bytes_Equal.calls AS cS r2 A3 c3 l3 _ _ (by repeat (first | exact hCS.out | apply Kd.C_drewN | apply Kd.C_drew)) hS.out (by repeat (first | exact Kd.C_below HR3.out hB1.out | apply Kd.C_drewN | apply Kd.C_drew)) HC3.out rfl).mono ?_; rintro e w' ⟨rfl, ⟨⟨nd3, rfl⟩⟩⟩))
      go_ret
      exact ⟨by first | rfl | (simp [sameS]; done), by repeat (first | exact hB1.out | apply pw_below_drewN | apply below_drew)⟩
set_option maxHeartbeats 2000000 in
set_option maxRecDepth 100000 in
theorem impl_CheckBridge.calls (a0 : Int) (a1 : Int) (A2 : Option Addr) (c2 : Nat) (l2 : List Int) (A3 : Option Addr) (c3 : Nat) (l3 : List Int) (A4 : Option Addr) (c4 : Nat) (l4 : List (List Int)) (r : Bool) (w : World) (hr2 : Kd.C (Kd.int .u8) w A2 l2.length l2) (hc2 : l2.length ≤ c2) (hr3 : Kd.C (Kd.int .u8) w A3 l3.length l3) (hc3 : l3.length ≤ c3) (hr4 : Kd.C (Kd.slice 5 (Kd.int .u8)) w A4 l4.length l4) (hc4 : l4.length ≤ c4) (h : impl_CheckBridge.f a0 a1 l2 l3 l4 = some r) :
    Calls Try.prog 52 #[.int .i64 a0, .int .i64 a1, .slice A2 l2.length c2, .slice A3 l3.length c3, .slice A4 l4.length c4] w fun e w' => e = .returned (.bool r) ∧ Below w.heap.size w w' := by
  unfold impl_CheckBridge.f at h
  by_cases hb : bridgeBytes l2 l4
  case neg => rw [if_neg hb] at h; cases h
  rw [if_pos hb] at h
  obtain rfl := Option.some.inj h
  by_cases hok : bridgeOk a0 a1 l2 l3 l4
  · exact impl_CheckBridge.calls_good a0 a1 A2 c2 l2 A3 c3 l3 A4 c4 l4 w hr2 hc2 hr3 hc3 hr4 hc4 hb hok
  rw [show bridgeL a0 a1 l2 l3 l4 = false from if_neg hok]
  by_cases g0 : a0 < 1
  · exact impl_CheckBridge.calls_e0 a0 a1 A2 c2 l2 A3 c3 l3 A4 c4 l4 w hr2 hc2 hr3 hc3 hr4 hc4 g0
  by_cases g1 : a1 < a0
  · exact impl_CheckBridge.calls_e1 a0 a1 A2 c2 l2 A3 c3 l3 A4 c4 l4 w hr2 hc2 hr3 hc3 hr4 hc4 g0 g1
  by_cases g2 : 200 < a1
  · exact impl_CheckBridge.calls_e2 a0 a1 A2 c2 l2 A3 c3 l3 A4 c4 l4 w hr2 hc2 hr3 hc3 hr4 hc4 g0 g1 g2
  cases g5 : bad16 [l2, l3] with
  | true => exact impl_CheckBridge.calls_ends a0 a1 A2 c2 l2 A3 c3 l3 A4 c4 l4 w hr2 hc2 hr3 hc3 hr4 hc4 g0 g1 g2 g5
  | false =>
    cases g6 : bad16 l4 with
    | true => exact impl_CheckBridge.calls_bad a0 a1 A2 c2 l2 A3 c3 l3 A4 c4 l4 w hr2 hc2 hr3 hc3 hr4 hc4 g0 g1 g2 g5 g6
    | false => exact absurd ⟨by omega, by omega, by omega, g5, g6⟩ hok
end Go.Proofs.Ytipdkendfcopiaa.Pr
