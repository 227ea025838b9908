/- The walk of impl.CheckPath. -/
import Derived.Test.YtipdkendfcopiaaPclimb
import Derived.Test.YtipdkendfcopiaaHspecpath
import Derived.Test.YtipdkendfcopiaaPr94
import Derived.WalkSpells
namespace Go.Proofs.Ytipdkendfcopiaa.Pr
open Go.RowKit Go.Proofs.Ytipdkendfcopiaa.Read Go.Proofs.YtipdkendfcopiaaW.PrintWords Go.Proofs.YtipdkendfcopiaaW.PrintLast Go.Proofs.YtipdkendfcopiaaW.PrintMore
set_option linter.unusedVariables false
theorem ysixteen_one {A0 : Option Addr} {c0 : Nat} {l0 : List Int} {w : World} {b : Bool} (h : Kd.C (Kd.int .u8) w A0 l0.length l0) (hc : l0.length ≤ c0) (hs : impl_ysixteen.f [l0] = some b) :
    Calls Try.prog 92 #[.slice (some ⟨w.heap.size, 0, none⟩) 1 1] (w.alloc (.cells #[.slice A0 l0.length c0] 22)) fun e w' => e = .returned (.bool b) ∧ ∃ nd, w' = (w.alloc (.cells #[.slice A0 l0.length c0] 22)).drewN nd := by
  have hcell : (w.alloc (.cells #[.slice A0 l0.length c0] 22)).cell? ⟨w.heap.size, 0, none⟩ = some (.slice A0 l0.length c0) := (blk_cell (blk_new w _) 0).trans rfl
  exact (impl_ysixteen.calls (some ⟨w.heap.size, 0, none⟩) 1 [l0] b _ (one_C (Kd.C_alloc h _) hc hcell) (by simp) hs).mono fun e w' hp => ⟨hp.1, hp.2.1⟩
theorem ysixteen_two {A0 : Option Addr} {c0 n0 : Nat} {A3 : Option Addr} {c3 : Nat} {l3 : List (List Int)} {w : World} {b : Bool} {nd : Nat} (h : Kd.C (Kd.slice 5 (Kd.int .u8)) w A3 l3.length l3) (hc : l3.length ≤ c3) (hs : impl_ysixteen.f l3 = some b) :
    Calls Try.prog 92 #[.slice A3 l3.length c3] ((w.alloc (.cells #[.slice A0 n0 c0] 22)).drewN nd) fun e w' => e = .returned (.bool b) ∧ ∃ nd2, w' = ((w.alloc (.cells #[.slice A0 n0 c0] 22)).drewN nd).drewN nd2 :=
  (impl_ysixteen.calls A3 c3 l3 b _ (Kd.C_drewN (Kd.C_alloc h _) _) hc hs).mono fun e w' hp => ⟨hp.1, hp.2.1⟩
def impl_CheckPath.f (l0 : List Int) (a1 : Int) (a2 : Int) (l3 : List (List Int)) (l4 : List Int) : Option (Bool) := if pathBytes l0 l3 then some (pathL l0 a1 a2 l3 l4) else none
set_option maxHeartbeats 2000000 in
set_option maxRecDepth 100000 in
theorem impl_CheckPath.calls_e0 (A0 : Option Addr) (c0 : Nat) (l0 : List Int) (a1 : Int) (a2 : Int) (A3 : Option Addr) (c3 : Nat) (l3 : List (List Int)) (A4 : Option Addr) (c4 : Nat) (l4 : List Int) (w : World) (hr0 : Kd.C (Kd.int .u8) w A0 l0.length l0) (hc0 : l0.length ≤ c0) (hr3 : Kd.C (Kd.slice 5 (Kd.int .u8)) w A3 l3.length l3) (hc3 : l3.length ≤ c3) (hr4 : Kd.C (Kd.int .u8) w A4 l4.length l4) (hc4 : l4.length ≤ c4)  (g0 : a2 < 1) :
    Calls Try.prog 50 #[.slice A0 l0.length c0, .int .i64 a1, .int .i64 a2, .slice A3 l3.length c3, .slice A4 l4.length c4] w fun e w' => e = .returned (.bool false) ∧ Below w.heap.size w w' := by
  have HR0 := Aside0.mk hr0
  have HC0 := Aside0.mk hc0
  have HR3 := Aside0.mk hr3
  have HC3 := Aside0.mk hc3
  have HR4 := Aside0.mk hr4
  have HC4 := Aside0.mk hc4
  have HS3 : Aside0 (impl_ysixteen.f l3 = some (!bad16 l3)) := ⟨rfl⟩
  have HS0 : Aside0 (impl_ysixteen.f [l0] = some (!bad16 [l0])) := ⟨rfl⟩
  have hone : bad16 [l0] = (l0.length != 16) := by simp [bad16]
  clear hr0 hc0 hr3 hc3 hr4 hc4
  have q0 : decide (a2 < 1) = true := decide_eq_true (by omega)
  clear hone HS0 HS3 g0
  go_enter Try.func50, Try.ntmps50
  go_wp2_with (first | (go_at_call 92; with_reducible refine (ysixteen_one HR0.out HC0.out HS0.out).mono ?_; rintro e w' ⟨rfl, nd, rfl⟩))
  go_ret
  exact ⟨rfl, by repeat (first | exact Below.refl _ _ | apply pw_below_drewN | apply below_drew | apply below_alloc)⟩
set_option maxHeartbeats 2000000 in
set_option maxRecDepth 100000 in
theorem impl_CheckPath.calls_e1 (A0 : Option Addr) (c0 : Nat) (l0 : List Int) (a1 : Int) (a2 : Int) (A3 : Option Addr) (c3 : Nat) (l3 : List (List Int)) (A4 : Option Addr) (c4 : Nat) (l4 : List Int) (w : World) (hr0 : Kd.C (Kd.int .u8) w A0 l0.length l0) (hc0 : l0.length ≤ c0) (hr3 : Kd.C (Kd.slice 5 (Kd.int .u8)) w A3 l3.length l3) (hc3 : l3.length ≤ c3) (hr4 : Kd.C (Kd.int .u8) w A4 l4.length l4) (hc4 : l4.length ≤ c4) (g0 : ¬ a2 < 1) (g1 : 200 < a2) :
    Calls Try.prog 50 #[.slice A0 l0.length c0, .int .i64 a1, .int .i64 a2, .slice A3 l3.length c3, .slice A4 l4.length c4] w fun e w' => e = .returned (.bool false) ∧ Below w.heap.size w w' := by
  have HR0 := Aside0.mk hr0
  have HC0 := Aside0.mk hc0
  have HR3 := Aside0.mk hr3
  have HC3 := Aside0.mk hc3
  have HR4 := Aside0.mk hr4
  have HC4 := Aside0.mk hc4
  have HS3 : Aside0 (impl_ysixteen.f l3 = some (!bad16 l3)) := ⟨rfl⟩
  have HS0 : Aside0 (impl_ysixteen.f [l0] = some (!bad16 [l0])) := ⟨rfl⟩
  have hone : bad16 [l0] = (l0.length != 16) := by simp [bad16]
  clear hr0 hc0 hr3 hc3 hr4 hc4
  have q0 : decide (a2 < 1) = false := decide_eq_false (by omega)
  have q1 : decide (200 < a2) = true := decide_eq_true (by omega)
  clear hone HS0 HS3 g0 g1
  go_enter Try.func50, Try.ntmps50
  go_wp2_with (first | (go_at_call 92; with_reducible refine (ysixteen_one HR0.out HC0.out HS0.out).mono ?_; rintro e w' ⟨rfl, nd, rfl⟩))
  go_ret
  exact ⟨rfl, by repeat (first | exact Below.refl _ _ | apply pw_below_drewN | apply below_drew | apply below_alloc)⟩
set_option maxHeartbeats 2000000 in
set_option maxRecDepth 100000 in
theorem impl_CheckPath.calls_e2 (A0 : Option Addr) (c0 : Nat) (l0 : List Int) (a1 : Int) (a2 : Int) (A3 : Option Addr) (c3 : Nat) (l3 : List (List Int)) (A4 : Option Addr) (c4 : Nat) (l4 : List Int) (w : World) (hr0 : Kd.C (Kd.int .u8) w A0 l0.length l0) (hc0 : l0.length ≤ c0) (hr3 : Kd.C (Kd.slice 5 (Kd.int .u8)) w A3 l3.length l3) (hc3 : l3.length ≤ c3) (hr4 : Kd.C (Kd.int .u8) w A4 l4.length l4) (hc4 : l4.length ≤ c4) (g0 : ¬ a2 < 1) (g1 : ¬ 200 < a2) (g2 : a1 < 0) :
    Calls Try.prog 50 #[.slice A0 l0.length c0, .int .i64 a1, .int .i64 a2, .slice A3 l3.length c3, .slice A4 l4.length c4] w fun e w' => e = .returned (.bool false) ∧ Below w.heap.size w w' := by
  have HR0 := Aside0.mk hr0
  have HC0 := Aside0.mk hc0
  have HR3 := Aside0.mk hr3
  have HC3 := Aside0.mk hc3
  have HR4 := Aside0.mk hr4
  have HC4 := Aside0.mk hc4
  have HS3 : Aside0 (impl_ysixteen.f l3 = some (!bad16 l3)) := ⟨rfl⟩
  have HS0 : Aside0 (impl_ysixteen.f [l0] = some (!bad16 [l0])) := ⟨rfl⟩
  have hone : bad16 [l0] = (l0.length != 16) := by simp [bad16]
  clear hr0 hc0 hr3 hc3 hr4 hc4
  have q0 : decide (a2 < 1) = false := decide_eq_false (by omega)
  have q1 : decide (200 < a2) = false := decide_eq_false (by omega)
  have q2 : decide (a1 < 0) = true := decide_eq_true (by omega)
  clear hone HS0 HS3 g0 g1 g2
  go_enter Try.func50, Try.ntmps50
  go_wp2_with (first | (go_at_call 92; with_reducible refine (ysixteen_one HR0.out HC0.out HS0.out).mono ?_; rintro e w' ⟨rfl, nd, rfl⟩))
  go_ret
  exact ⟨rfl, by repeat (first | exact Below.refl _ _ | apply pw_below_drewN | apply below_drew | apply below_alloc)⟩
set_option maxHeartbeats 2000000 in
set_option maxRecDepth 100000 in
theorem impl_CheckPath.calls_e3 (A0 : Option Addr) (c0 : Nat) (l0 : List Int) (a1 : Int) (a2 : Int) (A3 : Option Addr) (c3 : Nat) (l3 : List (List Int)) (A4 : Option Addr) (c4 : Nat) (l4 : List Int) (w : World) (hr0 : Kd.C (Kd.int .u8) w A0 l0.length l0) (hc0 : l0.length ≤ c0) (hr3 : Kd.C (Kd.slice 5 (Kd.int .u8)) w A3 l3.length l3) (hc3 : l3.length ≤ c3) (hr4 : Kd.C (Kd.int .u8) w A4 l4.length l4) (hc4 : l4.length ≤ c4) (g0 : ¬ a2 < 1) (g1 : ¬ 200 < a2) (g2 : ¬ a1 < 0) (g3 : a2 ≤ a1) :
    Calls Try.prog 50 #[.slice A0 l0.length c0, .int .i64 a1, .int .i64 a2, .slice A3 l3.length c3, .slice A4 l4.length c4] w fun e w' => e = .returned (.bool false) ∧ Below w.heap.size w w' := by
  have HR0 := Aside0.mk hr0
  have HC0 := Aside0.mk hc0
  have HR3 := Aside0.mk hr3
  have HC3 := Aside0.mk hc3
  have HR4 := Aside0.mk hr4
  have HC4 := Aside0.mk hc4
  have HS3 : Aside0 (impl_ysixteen.f l3 = some (!bad16 l3)) := ⟨rfl⟩
  have HS0 : Aside0 (impl_ysixteen.f [l0] = some (!bad16 [l0])) := ⟨rfl⟩
  have hone : bad16 [l0] = (l0.length != 16) := by simp [bad16]
  clear hr0 hc0 hr3 hc3 hr4 hc4
  have q0 : decide (a2 < 1) = false := decide_eq_false (by omega)
  have q1 : decide (200 < a2) = false := decide_eq_false (by omega)
  have q2 : decide (a1 < 0) = false := decide_eq_false (by omega)
  have q3 : decide (a2 ≤ a1) = true := decide_eq_true (by omega)
  clear hone HS0 HS3 g0 g1 g2 g3
  go_enter Try.func50, Try.ntmps50
  go_wp2_with (first | (go_at_call 92; with_reducible refine (ysixteen_one HR0.out HC0.out HS0.out).mono ?_; rintro e w' ⟨rfl, nd, rfl⟩))
  go_ret
  exact ⟨rfl, by repeat (first | exact Below.refl _ _ | apply pw_below_drewN | apply below_drew | apply below_alloc)⟩
set_option maxHeartbeats 2000000 in
set_option maxRecDepth 100000 in
theorem impl_CheckPath.calls_leaf (A0 : Option Addr) (c0 : Nat) (l0 : List Int) (a1 : Int) (a2 : Int) (A3 : Option Addr) (c3 : Nat) (l3 : List (List Int)) (A4 : Option Addr) (c4 : Nat) (l4 : List Int) (w : World) (hr0 : Kd.C (Kd.int .u8) w A0 l0.length l0) (hc0 : l0.length ≤ c0) (hr3 : Kd.C (Kd.slice 5 (Kd.int .u8)) w A3 l3.length l3) (hc3 : l3.length ≤ c3) (hr4 : Kd.C (Kd.int .u8) w A4 l4.length l4) (hc4 : l4.length ≤ c4) (g0 : ¬ a2 < 1) (g1 : ¬ 200 < a2) (g2 : ¬ a1 < 0) (g3 : ¬ a2 ≤ a1) (g5 : ¬ l0.length = 16) :
    Calls Try.prog 50 #[.slice A0 l0.length c0, .int .i64 a1, .int .i64 a2, .slice A3 l3.length c3, .slice A4 l4.length c4] w fun e w' => e = .returned (.bool false) ∧ Below w.heap.size w w' := by
  have HR0 := Aside0.mk hr0
  have HC0 := Aside0.mk hc0
  have HR3 := Aside0.mk hr3
  have HC3 := Aside0.mk hc3
  have HR4 := Aside0.mk hr4
  have HC4 := Aside0.mk hc4
  have HS3 : Aside0 (impl_ysixteen.f l3 = some (!bad16 l3)) := ⟨rfl⟩
  have HS0 : Aside0 (impl_ysixteen.f [l0] = some (!bad16 [l0])) := ⟨rfl⟩
  have hone : bad16 [l0] = (l0.length != 16) := by simp [bad16]
  clear hr0 hc0 hr3 hc3 hr4 hc4
  have q0 : decide (a2 < 1) = false := decide_eq_false (by omega)
  have q1 : decide (200 < a2) = false := decide_eq_false (by omega)
  have q2 : decide (a1 < 0) = false := decide_eq_false (by omega)
  have q3 : decide (a2 ≤ a1) = false := decide_eq_false (by omega)
  replace HS0 : Aside0 (impl_ysixteen.f [l0] = some false) := ⟨by rw [HS0.out, hone]; simp; omega⟩
  clear hone g0 g1 g2 g3 g5
  go_enter Try.func50, Try.ntmps50
  go_wp2_with (first | (go_at_call 92; with_reducible refine (ysixteen_one HR0.out HC0.out HS0.out).mono ?_; rintro e w' ⟨rfl, nd, rfl⟩))
  go_ret
  exact ⟨rfl, by repeat (first | exact Below.refl _ _ | apply pw_below_drewN | apply below_drew | apply below_alloc)⟩
set_option maxHeartbeats 2000000 in
set_option maxRecDepth 100000 in
theorem impl_CheckPath.calls_bad (A0 : Option Addr) (c0 : Nat) (l0 : List Int) (a1 : Int) (a2 : Int) (A3 : Option Addr) (c3 : Nat) (l3 : List (List Int)) (A4 : Option Addr) (c4 : Nat) (l4 : List Int) (w : World) (hr0 : Kd.C (Kd.int .u8) w A0 l0.length l0) (hc0 : l0.length ≤ c0) (hr3 : Kd.C (Kd.slice 5 (Kd.int .u8)) w A3 l3.length l3) (hc3 : l3.length ≤ c3) (hr4 : Kd.C (Kd.int .u8) w A4 l4.length l4) (hc4 : l4.length ≤ c4) (g0 : ¬ a2 < 1) (g1 : ¬ 200 < a2) (g2 : ¬ a1 < 0) (g3 : ¬ a2 ≤ a1) (g5 : l0.length = 16) (g6 : bad16 l3 = true) :
    Calls Try.prog 50 #[.slice A0 l0.length c0, .int .i64 a1, .int .i64 a2, .slice A3 l3.length c3, .slice A4 l4.length c4] w fun e w' => e = .returned (.bool false) ∧ Below w.heap.size w w' := by
  have HR0 := Aside0.mk hr0
  have HC0 := Aside0.mk hc0
  have HR3 := Aside0.mk hr3
  have HC3 := Aside0.mk hc3
  have HR4 := Aside0.mk hr4
  have HC4 := Aside0.mk hc4
  have HS3 : Aside0 (impl_ysixteen.f l3 = some (!bad16 l3)) := ⟨rfl⟩
  have HS0 : Aside0 (impl_ysixteen.f [l0] = some (!bad16 [l0])) := ⟨rfl⟩
  have hone : bad16 [l0] = (l0.length != 16) := by simp [bad16]
  clear hr0 hc0 hr3 hc3 hr4 hc4
  have q0 : decide (a2 < 1) = false := decide_eq_false (by omega)
  have q1 : decide (200 < a2) = false := decide_eq_false (by omega)
  have q2 : decide (a1 < 0) = false := decide_eq_false (by omega)
  have q3 : decide (a2 ≤ a1) = false := decide_eq_false (by omega)
  replace HS0 : Aside0 (impl_ysixteen.f [l0] = some true) := ⟨by rw [HS0.out, hone, g5]; rfl⟩
  replace HS3 : Aside0 (impl_ysixteen.f l3 = some false) := ⟨by rw [HS3.out, g6]; rfl⟩
  clear hone g0 g1 g2 g3 g5 g6
  go_enter Try.func50, Try.ntmps50
  go_wp2_with (first | (go_at_call 92; with_reducible refine (ysixteen_one HR0.out HC0.out HS0.out).mono ?_; rintro e w' ⟨rfl, nd, rfl⟩) | (go_at_call 92; with_reducible refine (ysixteen_two HR3.out HC3.out HS3.out).mono ?_; rintro e w' ⟨rfl, nd2, rfl⟩))
  go_ret
  exact ⟨rfl, by repeat (first | exact Below.refl _ _ | apply pw_below_drewN | apply below_drew | apply below_alloc)⟩
set_option maxHeartbeats 2000000 in
set_option maxRecDepth 100000 in
theorem impl_CheckPath.calls_good (A0 : Option Addr) (c0 : Nat) (l0 : List Int) (a1 : Int) (a2 : Int) (A3 : Option Addr) (c3 : Nat) (l3 : List (List Int)) (A4 : Option Addr) (c4 : Nat) (l4 : List Int) (w : World) (hr0 : Kd.C (Kd.int .u8) w A0 l0.length l0) (hc0 : l0.length ≤ c0) (hr3 : Kd.C (Kd.slice 5 (Kd.int .u8)) w A3 l3.length l3) (hc3 : l3.length ≤ c3) (hr4 : Kd.C (Kd.int .u8) w A4 l4.length l4) (hc4 : l4.length ≤ c4) (hb : pathBytes l0 l3) (hok : pathOk l0 a1 a2 l3) :
    Calls Try.prog 50 #[.slice A0 l0.length c0, .int .i64 a1, .int .i64 a2, .slice A3 l3.length c3, .slice A4 l4.length c4] w fun e w' => e = .returned (.bool (pathL l0 a1 a2 l3 l4)) ∧ Below w.heap.size w w' := by
  have HR0 := Aside0.mk hr0
  have HC0 := Aside0.mk hc0
  have HR3 := Aside0.mk hr3
  have HC3 := Aside0.mk hc3
  have HR4 := Aside0.mk hr4
  have HC4 := Aside0.mk hc4
  have HS3 : Aside0 (impl_ysixteen.f l3 = some (!bad16 l3)) := ⟨rfl⟩
  have HS0 : Aside0 (impl_ysixteen.f [l0] = some (!bad16 [l0])) := ⟨rfl⟩
  have hone : bad16 [l0] = (l0.length != 16) := by simp [bad16]
  clear hr0 hc0 hr3 hc3 hr4 hc4
  have hsx := ok_six hb hok
  obtain ⟨g1, g2, g3, g4, g5, g6⟩ := hok
  rw [show pathL l0 a1 a2 l3 l4 = ((upL l0 l3 l3.length a1 a2).2 && ((strOfNums (upL l0 l3 l3.length a1 a2).1).toList == (strOfNums l4).toList)) from if_pos ⟨g1, g2, g3, g4, g5, g6⟩]
  have HU := Aside0.mk (climb_calls l0 l3 hsx.1 (by omega) hsx.2 l3.length a1 a2)
  generalize upL l0 l3 l3.length a1 a2 = res at HU ⊢
  obtain ⟨r1, r2⟩ := res
  dsimp only at HU ⊢
  have q0 : decide (a2 < 1) = false := decide_eq_false (by omega)
  have q1 : decide (200 < a2) = false := decide_eq_false (by omega)
  have q2 : decide (a1 < 0) = false := decide_eq_false (by omega)
  have q3 : decide (a2 ≤ a1) = false := decide_eq_false (by omega)
  replace HS0 : Aside0 (impl_ysixteen.f [l0] = some true) := ⟨by rw [HS0.out, hone, g5]; rfl⟩
  replace HS3 : Aside0 (impl_ysixteen.f l3 = some true) := ⟨by rw [HS3.out, g6]; rfl⟩
  have G := Aside0.mk (And.intro g1 (And.intro g2 (And.intro g3 g4)))
  clear hb hsx g1 g2 g3 g4 g5 g6 hone
  cases r2 with
  | true =>
    have qe := fun (W : World) (ad' : Addr) (c' : Nat) => run_neq_slice_nil_any (P := Try.prog) W 22 5 (some ad') r1.length c' 0 0 Try.underlying22
    go_enter Try.func50, Try.ntmps50
    go_wp2_with (first | (go_at_call 92; with_reducible refine (ysixteen_one HR0.out HC0.out HS0.out).mono ?_; rintro e w' ⟨rfl, nd, rfl⟩) | (go_at_call 92; with_reducible refine (ysixteen_two HR3.out HC3.out HS3.out).mono ?_; rintro e w' ⟨rfl, nd2, rfl⟩) | (go_at_call 93; refine (HU.out _ A0 c0 A3 c3 (Nat.le_refl _) G.out.2.2.1 G.out.2.2.2 G.out.2.1 (by repeat (first | exact HR0.out | apply Kd.C_alloc | apply Kd.C_drewN | apply Kd.C_drew)) HC0.out (by rw [List.take_length]; exact (by repeat (first | exact HR3.out | apply Kd.C_alloc | apply Kd.C_drewN | apply Kd.C_drew))) HC3.out).mono ?_; rintro e w1 hpost; have hB1 : Aside0 (Below w.heap.size w w1) := ⟨below_step (by repeat (first | exact Below.refl _ _ | apply pw_below_drewN | apply below_drew | apply below_alloc)) hpost.below⟩; obtain ⟨AR, cR, rfl, hR, hCR⟩ := hpost.yes rfl; clear hpost; replace hR := Aside0.mk hR; replace hCR := Aside0.mk hCR) | (go_at_call 94; refine (bytes_Equal.calls (some AR) cR r1 A4 c4 l4 _ _ (by repeat (first | exact hCR.out | apply Kd.C_drewN | apply Kd.C_drew)) hR.out (by repeat (first | exact Kd.C_below HR4.out hB1.out | apply Kd.C_drewN | apply Kd.C_drew)) HC4.out rfl).mono ?_; rintro e w' ⟨rfl, ⟨⟨nd3, rfl⟩⟩⟩))
    go_ret
    exact ⟨by first | rfl | (simp; done), by repeat (first | exact hB1.out | apply pw_below_drewN | apply below_drew)⟩
  | false =>
    have qe := fun (W : World) => run_neq_slice_nil_any (P := Try.prog) W 22 5 none 0 0 0 0 Try.underlying22
    go_enter Try.func50, Try.ntmps50
    go_wp2_with (first | (go_at_call 92; with_reducible refine (ysixteen_one HR0.out HC0.out HS0.out).mono ?_; rintro e w' ⟨rfl, nd, rfl⟩) | (go_at_call 92; with_reducible refine (ysixteen_two HR3.out HC3.out HS3.out).mono ?_; rintro e w' ⟨rfl, nd2, rfl⟩) | (go_at_call 93; refine (HU.out _ A0 c0 A3 c3 (Nat.le_refl _) G.out.2.2.1 G.out.2.2.2 G.out.2.1 (by repeat (first | exact HR0.out | apply Kd.C_alloc | apply Kd.C_drewN | apply Kd.C_drew)) HC0.out (by rw [List.take_length]; exact (by repeat (first | exact HR3.out | apply Kd.C_alloc | apply Kd.C_drewN | apply Kd.C_drew))) HC3.out).mono ?_; rintro e w1 hpost; have hB1 : Aside0 (Below w.heap.size w w1) := ⟨below_step (by repeat (first | exact Below.refl _ _ | apply pw_below_drewN | apply below_drew | apply below_alloc)) hpost.below⟩; obtain rfl := hpost.no rfl; clear hpost))
    go_ret
    exact ⟨by first | rfl | (simp; done), by repeat (first | exact hB1.out | apply pw_below_drewN | apply below_drew)⟩
set_option maxHeartbeats 2000000 in
set_option maxRecDepth 100000 in
theorem impl_CheckPath.calls (A0 : Option Addr) (c0 : Nat) (l0 : List Int) (a1 : Int) (a2 : Int) (A3 : Option Addr) (c3 : Nat) (l3 : List (List Int)) (A4 : Option Addr) (c4 : Nat) (l4 : List Int) (r : Bool) (w : World) (hr0 : Kd.C (Kd.int .u8) w A0 l0.length l0) (hc0 : l0.length ≤ c0) (hr3 : Kd.C (Kd.slice 5 (Kd.int .u8)) w A3 l3.length l3) (hc3 : l3.length ≤ c3) (hr4 : Kd.C (Kd.int .u8) w A4 l4.length l4) (hc4 : l4.length ≤ c4) (h : impl_CheckPath.f l0 a1 a2 l3 l4 = some r) :
    Calls Try.prog 50 #[.slice A0 l0.length c0, .int .i64 a1, .int .i64 a2, .slice A3 l3.length c3, .slice A4 l4.length c4] w fun e w' => e = .returned (.bool r) ∧ Below w.heap.size w w' := by
  unfold impl_CheckPath.f at h
  by_cases hb : pathBytes l0 l3
  case neg => rw [if_neg hb] at h; cases h
  rw [if_pos hb] at h
  obtain rfl := Option.some.inj h
  by_cases hok : pathOk l0 a1 a2 l3
  · exact impl_CheckPath.calls_good A0 c0 l0 a1 a2 A3 c3 l3 A4 c4 l4 w hr0 hc0 hr3 hc3 hr4 hc4 hb hok
  rw [show pathL l0 a1 a2 l3 l4 = false from if_neg hok]
  by_cases g0 : a2 < 1
  · exact impl_CheckPath.calls_e0 A0 c0 l0 a1 a2 A3 c3 l3 A4 c4 l4 w hr0 hc0 hr3 hc3 hr4 hc4 g0
  by_cases g1 : 200 < a2
  · exact impl_CheckPath.calls_e1 A0 c0 l0 a1 a2 A3 c3 l3 A4 c4 l4 w hr0 hc0 hr3 hc3 hr4 hc4 g0 g1
  by_cases g2 : a1 < 0
  · exact impl_CheckPath.calls_e2 A0 c0 l0 a1 a2 A3 c3 l3 A4 c4 l4 w hr0 hc0 hr3 hc3 hr4 hc4 g0 g1 g2
  by_cases g3 : a2 ≤ a1
  · exact impl_CheckPath.calls_e3 A0 c0 l0 a1 a2 A3 c3 l3 A4 c4 l4 w hr0 hc0 hr3 hc3 hr4 hc4 g0 g1 g2 g3
  by_cases g5 : l0.length = 16
  · have g6 : bad16 l3 = true := by
      cases hb3 : bad16 l3 with
      | true => rfl
      | false => exact absurd ⟨by omega, by omega, by omega, by omega, g5, hb3⟩ hok
    exact impl_CheckPath.calls_bad A0 c0 l0 a1 a2 A3 c3 l3 A4 c4 l4 w hr0 hc0 hr3 hc3 hr4 hc4 g0 g1 g2 g3 g5 g6
  · exact impl_CheckPath.calls_leaf A0 c0 l0 a1 a2 A3 c3 l3 A4 c4 l4 w hr0 hc0 hr3 hc3 hr4 hc4 g0 g1 g2 g3 g5
end Go.Proofs.Ytipdkendfcopiaa.Pr
