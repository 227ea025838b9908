/- The walk of spec.CheckBridge. -/
import Derived.Test.YtipdkendfcopiaaPspecboth
import Derived.Test.YtipdkendfcopiaaHspecpath
import Derived.WalkSpells
namespace Go.Proofs.Ytipdkendfcopiaa.Pr
open Go.RowKit Go.Proofs.Ytipdkendfcopiaa.Read Go.Proofs.YtipdkendfcopiaaW.PrintWords Go.Proofs.YtipdkendfcopiaaW.PrintLast Go.Proofs.YtipdkendfcopiaaW.PrintMore
set_option linter.unusedVariables false
theorem two_C {w' : World} {A0 A1 : Option Addr} {c0 c1 g : Nat} {l0 l1 : List Int} (h0 : Kd.C (Kd.int .u8) w' A0 l0.length l0) (hc0 : l0.length ≤ c0) (h1 : Kd.C (Kd.int .u8) w' A1 l1.length l1) (hc1 : l1.length ≤ c1) (hcell0 : w'.cell? ⟨g, 0, none⟩ = some (.slice A0 l0.length c0)) (hcell1 : w'.cell? ⟨g, 1, none⟩ = some (.slice A1 l1.length c1)) :
    Kd.C (Kd.slice 5 (Kd.int .u8)) w' (some ⟨g, 0, none⟩) [l0, l1].length [l0, l1] := by
  refine ⟨rfl, by simp, fun _ => ⟨_, rfl, fun i p hp => ?_⟩⟩
  rcases i with _ | i
  · obtain rfl : l0 = p := by simpa using hp
    exact ⟨[.slice A0 l0.length c0], rfl, ⟨A0, c0, rfl, hc0, h0⟩, fun k u hu => by
      rcases k with _ | k
      · have : u = .slice A0 l0.length c0 := by simpa using hu.symm
        subst this
        simpa [Addr.add] using hcell0
      · simp at hu⟩
  · obtain rfl : i = 0 := by
      rcases i with _ | i
      · rfl
      · simp at hp
    obtain rfl : l1 = p := by simpa using hp
    exact ⟨[.slice A1 l1.length c1], rfl, ⟨A1, c1, rfl, hc1, h1⟩, fun k u hu => by
      rcases k with _ | k
      · have : u = .slice A1 l1.length c1 := by simpa using hu.symm
        subst this
        simpa [Addr.add, show (Kd.slice 5 (Kd.int .u8)).sz = 1 from rfl] using hcell1
      · simp at hu⟩
def bridgeOk (a s : Int) (old root : List Int) (bridge : List (List Int)) : Prop := 1 ≤ a ∧ a ≤ s ∧ s ≤ 200 ∧ bad16 [old, root] = false ∧ bad16 bridge = false
instance (a s : Int) (old root : List Int) (bridge : List (List Int)) : Decidable (bridgeOk a s old root bridge) := by unfold bridgeOk; infer_instance
def sameS (a b : List Int) : Bool := (strOfNums a).toList == (strOfNums b).toList
def bridgeL (a s : Int) (old root : List Int) (bridge : List (List Int)) : Bool := if bridgeOk a s old root bridge then ((bothL old bridge bridge.length a s true).2.2 && sameS (bothL old bridge bridge.length a s true).1 old) && sameS (bothL old bridge bridge.length a s true).2.1 root else false
def bridgeBytes (old : List Int) (bridge : List (List Int)) : Prop := isBytes old ∧ ∀ b ∈ bridge, isBytes b
instance (old : List Int) (bridge : List (List Int)) : Decidable (bridgeBytes old bridge) := by unfold bridgeBytes; infer_instance
theorem bridge_six {a s : Int} {old root : List Int} {bridge : List (List Int)} (hb : bridgeBytes old bridge) (h : bridgeOk a s old root bridge) : six old ∧ ∀ b ∈ bridge, six b := by
  obtain ⟨_, _, _, h1, h2⟩ := h
  unfold bad16 at h1 h2
  rw [List.any_eq_false] at h1 h2
  have e1 := h1 old (by simp)
  simp at e1
  refine ⟨⟨hb.1, by omega⟩, fun b hbm => ⟨hb.2 b hbm, ?_⟩⟩
  have e2 := h2 b hbm
  simp at e2
  omega
theorem spec_l21Sixteen_pair {A2 A3 : Option Addr} {c2 c3 : Nat} {l2 l3 : List Int} {w : World} {b : Bool} (h2 : Kd.C (Kd.int .u8) w A2 l2.length l2) (hc2 : l2.length ≤ c2) (h3 : Kd.C (Kd.int .u8) w A3 l3.length l3) (hc3 : l3.length ≤ c3) (hs : spec_l21Sixteen.f ([l2, l3].length + 1) [l2, l3] = some b) :
    Calls Try.prog 90 #[.slice (some ⟨w.heap.size, 0, none⟩) 2 2] (w.alloc (.cells #[.slice A2 l2.length c2, .slice A3 l3.length c3] 22)) fun e w' => e = .returned (.bool b) ∧ ∃ nd, w' = (w.alloc (.cells #[.slice A2 l2.length c2, .slice A3 l3.length c3] 22)).drewN nd := by
  have hcell0 : (w.alloc (.cells #[.slice A2 l2.length c2, .slice A3 l3.length c3] 22)).cell? ⟨w.heap.size, 0, none⟩ = some (.slice A2 l2.length c2) := (blk_cell (blk_new w _) 0).trans rfl
  have hcell1 : (w.alloc (.cells #[.slice A2 l2.length c2, .slice A3 l3.length c3] 22)).cell? ⟨w.heap.size, 1, none⟩ = some (.slice A3 l3.length c3) := (blk_cell (blk_new w _) 1).trans rfl
  exact (spec_l21Sixteen.calls ([l2, l3].length + 1) (some ⟨w.heap.size, 0, none⟩) 2 [l2, l3] b _ (two_C (Kd.C_alloc h2 _) hc2 (Kd.C_alloc h3 _) hc3 hcell0 hcell1) (by simp) hs).mono fun e w' hp => ⟨hp.1, hp.2.1⟩
theorem spec_l21Sixteen_rest {A2 A3 : Option Addr} {c2 c3 n2 n3 : Nat} {A4 : Option Addr} {c4 : Nat} {l4 : List (List Int)} {w : World} {b : Bool} {nd : Nat} (h : Kd.C (Kd.slice 5 (Kd.int .u8)) w A4 l4.length l4) (hc : l4.length ≤ c4) (hs : spec_l21Sixteen.f (l4.length + 1) l4 = some b) :
    Calls Try.prog 90 #[.slice A4 l4.length c4] ((w.alloc (.cells #[.slice A2 n2 c2, .slice A3 n3 c3] 22)).drewN nd) fun e w' => e = .returned (.bool b) ∧ ∃ nd2, w' = ((w.alloc (.cells #[.slice A2 n2 c2, .slice A3 n3 c3] 22)).drewN nd).drewN nd2 :=
  (spec_l21Sixteen.calls (l4.length + 1) A4 c4 l4 b _ (Kd.C_drewN (Kd.C_alloc h _) _) hc hs).mono fun e w' hp => ⟨hp.1, hp.2.1⟩
def spec_CheckBridge.f (a0 : Int) (a1 : Int) (l2 : List Int) (l3 : List Int) (l4 : List (List Int)) : Option (Bool) := if bridgeBytes l2 l4 then some (bridgeL a0 a1 l2 l3 l4) else none
set_option maxHeartbeats 2000000 in
set_option maxRecDepth 100000 in
theorem spec_CheckBridge.calls_e0 (a0 : Int) (a1 : Int) (A2 : Option Addr) (c2 : Nat) (l2 : List Int) (A3 : Option Addr) (c3 : Nat) (l3 : List Int) (A4 : Option Addr) (c4 : Nat) (l4 : List (List Int)) (w : World) (hr2 : Kd.C (Kd.int .u8) w A2 l2.length l2) (hc2 : l2.length ≤ c2) (hr3 : Kd.C (Kd.int .u8) w A3 l3.length l3) (hc3 : l3.length ≤ c3) (hr4 : Kd.C (Kd.slice 5 (Kd.int .u8)) w A4 l4.length l4) (hc4 : l4.length ≤ c4)  (g0 : a0 < 1) :
    Calls Try.prog 51 #[.int .i64 a0, .int .i64 a1, .slice A2 l2.length c2, .slice A3 l3.length c3, .slice A4 l4.length c4] w fun e w' => e = .returned (.bool false) ∧ Below w.heap.size w w' := by
  have HR2 := Aside0.mk hr2
  have HC2 := Aside0.mk hc2
  have HR3 := Aside0.mk hr3
  have HC3 := Aside0.mk hc3
  have HR4 := Aside0.mk hr4
  have HC4 := Aside0.mk hc4
  have HS4 : Aside0 (spec_l21Sixteen.f (l4.length + 1) l4 = some (!bad16 l4)) := ⟨sixteen_eq l4 (Kd.C_max hr4)⟩
  have HS2 : Aside0 (spec_l21Sixteen.f ([l2, l3].length + 1) [l2, l3] = some (!bad16 [l2, l3])) := ⟨sixteen_eq [l2, l3] (by simp)⟩
  clear hr2 hc2 hr3 hc3 hr4 hc4
  have q0 : decide (a0 < 1) = true := decide_eq_true (by omega)
  clear HS2 HS4 g0
  go_enter Try.func51, Try.ntmps51
  go_wp2_with (first | (go_at_call 90; with_reducible refine (spec_l21Sixteen_pair HR2.out HC2.out HR3.out HC3.out HS2.out).mono ?_; rintro e w' ⟨rfl, nd, rfl⟩))
  go_ret
  exact ⟨rfl, by repeat (first | exact Below.refl _ _ | apply pw_below_drewN | apply below_drew | apply below_alloc)⟩
set_option maxHeartbeats 2000000 in
set_option maxRecDepth 100000 in
theorem spec_CheckBridge.calls_e1 (a0 : Int) (a1 : Int) (A2 : Option Addr) (c2 : Nat) (l2 : List Int) (A3 : Option Addr) (c3 : Nat) (l3 : List Int) (A4 : Option Addr) (c4 : Nat) (l4 : List (List Int)) (w : World) (hr2 : Kd.C (Kd.int .u8) w A2 l2.length l2) (hc2 : l2.length ≤ c2) (hr3 : Kd.C (Kd.int .u8) w A3 l3.length l3) (hc3 : l3.length ≤ c3) (hr4 : Kd.C (Kd.slice 5 (Kd.int .u8)) w A4 l4.length l4) (hc4 : l4.length ≤ c4) (g0 : ¬ a0 < 1) (g1 : a1 < a0) :
    Calls Try.prog 51 #[.int .i64 a0, .int .i64 a1, .slice A2 l2.length c2, .slice A3 l3.length c3, .slice A4 l4.length c4] w fun e w' => e = .returned (.bool false) ∧ Below w.heap.size w w' := by
  have HR2 := Aside0.mk hr2
  have HC2 := Aside0.mk hc2
  have HR3 := Aside0.mk hr3
  have HC3 := Aside0.mk hc3
  have HR4 := Aside0.mk hr4
  have HC4 := Aside0.mk hc4
  have HS4 : Aside0 (spec_l21Sixteen.f (l4.length + 1) l4 = some (!bad16 l4)) := ⟨sixteen_eq l4 (Kd.C_max hr4)⟩
  have HS2 : Aside0 (spec_l21Sixteen.f ([l2, l3].length + 1) [l2, l3] = some (!bad16 [l2, l3])) := ⟨sixteen_eq [l2, l3] (by simp)⟩
  clear hr2 hc2 hr3 hc3 hr4 hc4
  have q0 : decide (a0 < 1) = false := decide_eq_false (by omega)
  have q1 : decide (a1 < a0) = true := decide_eq_true (by omega)
  clear HS2 HS4 g0 g1
  go_enter Try.func51, Try.ntmps51
  go_wp2_with (first | (go_at_call 90; with_reducible refine (spec_l21Sixteen_pair HR2.out HC2.out HR3.out HC3.out HS2.out).mono ?_; rintro e w' ⟨rfl, nd, rfl⟩))
  go_ret
  exact ⟨rfl, by repeat (first | exact Below.refl _ _ | apply pw_below_drewN | apply below_drew | apply below_alloc)⟩
set_option maxHeartbeats 2000000 in
set_option maxRecDepth 100000 in
theorem spec_CheckBridge.calls_e2 (a0 : Int) (a1 : Int) (A2 : Option Addr) (c2 : Nat) (l2 : List Int) (A3 : Option Addr) (c3 : Nat) (l3 : List Int) (A4 : Option Addr) (c4 : Nat) (l4 : List (List Int)) (w : World) (hr2 : Kd.C (Kd.int .u8) w A2 l2.length l2) (hc2 : l2.length ≤ c2) (hr3 : Kd.C (Kd.int .u8) w A3 l3.length l3) (hc3 : l3.length ≤ c3) (hr4 : Kd.C (Kd.slice 5 (Kd.int .u8)) w A4 l4.length l4) (hc4 : l4.length ≤ c4) (g0 : ¬ a0 < 1) (g1 : ¬ a1 < a0) (g2 : 200 < a1) :
    Calls Try.prog 51 #[.int .i64 a0, .int .i64 a1, .slice A2 l2.length c2, .slice A3 l3.length c3, .slice A4 l4.length c4] w fun e w' => e = .returned (.bool false) ∧ Below w.heap.size w w' := by
  have HR2 := Aside0.mk hr2
  have HC2 := Aside0.mk hc2
  have HR3 := Aside0.mk hr3
  have HC3 := Aside0.mk hc3
  have HR4 := Aside0.mk hr4
  have HC4 := Aside0.mk hc4
  have HS4 : Aside0 (spec_l21Sixteen.f (l4.length + 1) l4 = some (!bad16 l4)) := ⟨sixteen_eq l4 (Kd.C_max hr4)⟩
  have HS2 : Aside0 (spec_l21Sixteen.f ([l2, l3].length + 1) [l2, l3] = some (!bad16 [l2, l3])) := ⟨sixteen_eq [l2, l3] (by simp)⟩
  clear hr2 hc2 hr3 hc3 hr4 hc4
  have q0 : decide (a0 < 1) = false := decide_eq_false (by omega)
  have q1 : decide (a1 < a0) = false := decide_eq_false (by omega)
  have q2 : decide (200 < a1) = true := decide_eq_true (by omega)
  clear HS2 HS4 g0 g1 g2
  go_enter Try.func51, Try.ntmps51
  go_wp2_with (first | (go_at_call 90; with_reducible refine (spec_l21Sixteen_pair HR2.out HC2.out HR3.out HC3.out HS2.out).mono ?_; rintro e w' ⟨rfl, nd, rfl⟩))
  go_ret
  exact ⟨rfl, by repeat (first | exact Below.refl _ _ | apply pw_below_drewN | apply below_drew | apply below_alloc)⟩
set_option maxHeartbeats 2000000 in
set_option maxRecDepth 100000 in
theorem spec_CheckBridge.calls_ends (a0 : Int) (a1 : Int) (A2 : Option Addr) (c2 : Nat) (l2 : List Int) (A3 : Option Addr) (c3 : Nat) (l3 : List Int) (A4 : Option Addr) (c4 : Nat) (l4 : List (List Int)) (w : World) (hr2 : Kd.C (Kd.int .u8) w A2 l2.length l2) (hc2 : l2.length ≤ c2) (hr3 : Kd.C (Kd.int .u8) w A3 l3.length l3) (hc3 : l3.length ≤ c3) (hr4 : Kd.C (Kd.slice 5 (Kd.int .u8)) w A4 l4.length l4) (hc4 : l4.length ≤ c4) (g0 : ¬ a0 < 1) (g1 : ¬ a1 < a0) (g2 : ¬ 200 < a1) (g5 : bad16 [l2, l3] = true) :
    Calls Try.prog 51 #[.int .i64 a0, .int .i64 a1, .slice A2 l2.length c2, .slice A3 l3.length c3, .slice A4 l4.length c4] w fun e w' => e = .returned (.bool false) ∧ Below w.heap.size w w' := by
  have HR2 := Aside0.mk hr2
  have HC2 := Aside0.mk hc2
  have HR3 := Aside0.mk hr3
  have HC3 := Aside0.mk hc3
  have HR4 := Aside0.mk hr4
  have HC4 := Aside0.mk hc4
  have HS4 : Aside0 (spec_l21Sixteen.f (l4.length + 1) l4 = some (!bad16 l4)) := ⟨sixteen_eq l4 (Kd.C_max hr4)⟩
  have HS2 : Aside0 (spec_l21Sixteen.f ([l2, l3].length + 1) [l2, l3] = some (!bad16 [l2, l3])) := ⟨sixteen_eq [l2, l3] (by simp)⟩
  clear hr2 hc2 hr3 hc3 hr4 hc4
  have q0 : decide (a0 < 1) = false := decide_eq_false (by omega)
  have q1 : decide (a1 < a0) = false := decide_eq_false (by omega)
  have q2 : decide (200 < a1) = false := decide_eq_false (by omega)
  replace HS2 : Aside0 (spec_l21Sixteen.f ([l2, l3].length + 1) [l2, l3] = some false) := ⟨by rw [HS2.out, g5]; rfl⟩
  clear g0 g1 g2 g5
  go_enter Try.func51, Try.ntmps51
  go_wp2_with (first | (go_at_call 90; with_reducible refine (spec_l21Sixteen_pair HR2.out HC2.out HR3.out HC3.out HS2.out).mono ?_; rintro e w' ⟨rfl, nd, rfl⟩))
  go_ret
  exact ⟨rfl, by repeat (first | exact Below.refl _ _ | apply pw_below_drewN | apply below_drew | apply below_alloc)⟩
set_option maxHeartbeats 2000000 in
set_option maxRecDepth 100000 in
theorem spec_CheckBridge.calls_bad (a0 : Int) (a1 : Int) (A2 : Option Addr) (c2 : Nat) (l2 : List Int) (A3 : Option Addr) (c3 : Nat) (l3 : List Int) (A4 : Option Addr) (c4 : Nat) (l4 : List (List Int)) (w : World) (hr2 : Kd.C (Kd.int .u8) w A2 l2.length l2) (hc2 : l2.length ≤ c2) (hr3 : Kd.C (Kd.int .u8) w A3 l3.length l3) (hc3 : l3.length ≤ c3) (hr4 : Kd.C (Kd.slice 5 (Kd.int .u8)) w A4 l4.length l4) (hc4 : l4.length ≤ c4) (g0 : ¬ a0 < 1) (g1 : ¬ a1 < a0) (g2 : ¬ 200 < a1) (g5 : bad16 [l2, l3] = false) (g6 : bad16 l4 = true) :
    Calls Try.prog 51 #[.int .i64 a0, .int .i64 a1, .slice A2 l2.length c2, .slice A3 l3.length c3, .slice A4 l4.length c4] w fun e w' => e = .returned (.bool false) ∧ Below w.heap.size w w' := by
  have HR2 := Aside0.mk hr2
  have HC2 := Aside0.mk hc2
  have HR3 := Aside0.mk hr3
  have HC3 := Aside0.mk hc3
  have HR4 := Aside0.mk hr4
  have HC4 := Aside0.mk hc4
  have HS4 : Aside0 (spec_l21Sixteen.f (l4.length + 1) l4 = some (!bad16 l4)) := ⟨sixteen_eq l4 (Kd.C_max hr4)⟩
  have HS2 : Aside0 (spec_l21Sixteen.f ([l2, l3].length + 1) [l2, l3] = some (!bad16 [l2, l3])) := ⟨sixteen_eq [l2, l3] (by simp)⟩
  clear hr2 hc2 hr3 hc3 hr4 hc4
  have q0 : decide (a0 < 1) = false := decide_eq_false (by omega)
  have q1 : decide (a1 < a0) = false := decide_eq_false (by omega)
  have q2 : decide (200 < a1) = false := decide_eq_false (by omega)
  replace HS2 : Aside0 (spec_l21Sixteen.f ([l2, l3].length + 1) [l2, l3] = some true) := ⟨by rw [HS2.out, g5]; rfl⟩
  replace HS4 : Aside0 (spec_l21Sixteen.f (l4.length + 1) l4 = some false) := ⟨by rw [HS4.out, g6]; rfl⟩
  clear g0 g1 g2 g5 g6
  go_enter Try.func51, Try.ntmps51
  go_wp2_with (first | (go_at_call 90; with_reducible refine (spec_l21Sixteen_pair HR2.out HC2.out HR3.out HC3.out HS2.out).mono ?_; rintro e w' ⟨rfl, nd, rfl⟩) | (go_at_call 90; with_reducible refine (spec_l21Sixteen_rest HR4.out HC4.out HS4.out).mono ?_; rintro e w' ⟨rfl, nd2, rfl⟩))
  go_ret
  exact ⟨rfl, by repeat (first | exact Below.refl _ _ | apply pw_below_drewN | apply below_drew | apply below_alloc)⟩
set_option maxHeartbeats 2000000 in
set_option maxRecDepth 100000 in
theorem spec_CheckBridge.calls_good (a0 : Int) (a1 : Int) (A2 : Option Addr) (c2 : Nat) (l2 : List Int) (A3 : Option Addr) (c3 : Nat) (l3 : List Int) (A4 : Option Addr) (c4 : Nat) (l4 : List (List Int)) (w : World) (hr2 : Kd.C (Kd.int .u8) w A2 l2.length l2) (hc2 : l2.length ≤ c2) (hr3 : Kd.C (Kd.int .u8) w A3 l3.length l3) (hc3 : l3.length ≤ c3) (hr4 : Kd.C (Kd.slice 5 (Kd.int .u8)) w A4 l4.length l4) (hc4 : l4.length ≤ c4) (hb : bridgeBytes l2 l4) (hok : bridgeOk a0 a1 l2 l3 l4) :
    Calls Try.prog 51 #[.int .i64 a0, .int .i64 a1, .slice A2 l2.length c2, .slice A3 l3.length c3, .slice A4 l4.length c4] w fun e w' => e = .returned (.bool (bridgeL a0 a1 l2 l3 l4)) ∧ Below w.heap.size w w' := by
  have HR2 := Aside0.mk hr2
  have HC2 := Aside0.mk hc2
  have HR3 := Aside0.mk hr3
  have HC3 := Aside0.mk hc3
  have HR4 := Aside0.mk hr4
  have HC4 := Aside0.mk hc4
  have HS4 : Aside0 (spec_l21Sixteen.f (l4.length + 1) l4 = some (!bad16 l4)) := ⟨sixteen_eq l4 (Kd.C_max hr4)⟩
  have HS2 : Aside0 (spec_l21Sixteen.f ([l2, l3].length + 1) [l2, l3] = some (!bad16 [l2, l3])) := ⟨sixteen_eq [l2, l3] (by simp)⟩
  clear hr2 hc2 hr3 hc3 hr4 hc4
  have hsx := bridge_six hb hok
  obtain ⟨g1, g2, g3, g4, g5⟩ := hok
  rw [show bridgeL a0 a1 l2 l3 l4 = (((bothL l2 l4 l4.length a0 a1 true).2.2 && sameS (bothL l2 l4 l4.length a0 a1 true).1 l2) && sameS (bothL l2 l4 l4.length a0 a1 true).2.1 l3) from if_pos ⟨g1, g2, g3, g4, g5⟩]
  have HU := Aside0.mk (specBoth_calls l2 l4 hsx.1 hsx.2 l4.length a0 a1 true)
  generalize bothL l2 l4 l4.length a0 a1 true = res at HU ⊢
  obtain ⟨r1, r2, r3⟩ := res
  dsimp only at HU ⊢
  have q0 : decide (a0 < 1) = false := decide_eq_false (by omega)
  have q1 : decide (a1 < a0) = false := decide_eq_false (by omega)
  have q2 : decide (200 < a1) = false := decide_eq_false (by omega)
  replace HS2 : Aside0 (spec_l21Sixteen.f ([l2, l3].length + 1) [l2, l3] = some true) := ⟨by rw [HS2.out, g4]; rfl⟩
  replace HS4 : Aside0 (spec_l21Sixteen.f (l4.length + 1) l4 = some true) := ⟨by rw [HS4.out, g5]; rfl⟩
  have G := Aside0.mk (And.intro g1 (And.intro g2 g3))
  clear hb hsx g1 g2 g3 g4 g5
  cases r3 with
  | false =>
    go_enter Try.func51, Try.ntmps51
    go_wp2_with (first | (go_at_call 90; with_reducible refine (spec_l21Sixteen_pair HR2.out HC2.out HR3.out HC3.out HS2.out).mono ?_; rintro e w' ⟨rfl, nd, rfl⟩) | (go_at_call 90; with_reducible refine (spec_l21Sixteen_rest HR4.out HC4.out HS4.out).mono ?_; rintro e w' ⟨rfl, nd2, rfl⟩) | (go_at_call 95; refine (HU.out _ A2 c2 A4 c4 (Nat.le_refl _) G.out.1 G.out.2.1 G.out.2.2 (by repeat (first | exact HR2.out | apply Kd.C_alloc | apply Kd.C_drewN | apply Kd.C_drew)) HC2.out (by rw [List.take_length]; exact (by repeat (first | exact HR4.out | apply Kd.C_alloc | apply Kd.C_drewN | apply Kd.C_drew))) HC4.out).mono ?_; rintro e w1 ⟨AR, cR, AS, cS, rfl, hR, hS, hCR, hCS, hBR⟩; have hcvA := Kd.C_string (P := Try.prog) (A := AR) (c := cR) Try.underlying22 Try.underlying5 Try.underlying9 hCR; have hcvB := Kd.C_string (P := Try.prog) (A := AS) (c := cS) Try.underlying22 Try.underlying5 Try.underlying9 hCS; have hcvC := Kd.C_string (P := Try.prog) (A := A2) (c := c2) Try.underlying22 Try.underlying5 Try.underlying9 (Kd.C_below HR2.out (below_step (by repeat (first | exact Below.refl _ _ | apply pw_below_drewN | apply below_drew | apply below_alloc)) hBR)); have hcvD := Kd.C_string (P := Try.prog) (A := A3) (c := c3) Try.underlying22 Try.underlying5 Try.underlying9 (Kd.C_below HR3.out (below_step (by repeat (first | exact Below.refl _ _ | apply pw_below_drewN | apply below_drew | apply below_alloc)) hBR)); replace hR := Aside0.mk hR; replace hS := Aside0.mk hS; replace hCR := Aside0.mk hCR; replace hCS := Aside0.mk hCS; have hB1 : Aside0 (Below w.heap.size w w1) := ⟨(below_step (by repeat (first | exact Below.refl _ _ | apply pw_below_drewN | apply below_drew | apply below_alloc)) hBR)⟩; clear hBR))
    go_ret
    exact ⟨by first | rfl | (simp [sameS]; done), by repeat (first | exact hB1.out | apply pw_below_drewN | apply below_drew)⟩
  | true =>
    cases he : sameS r1 l2 with
    | false =>
      have he1 : ((strOfNums r1).toList == (strOfNums l2).toList) = false := he
      clear he
      go_enter Try.func51, Try.ntmps51
      go_wp2_with (first | (go_at_call 90; with_reducible refine (spec_l21Sixteen_pair HR2.out HC2.out HR3.out HC3.out HS2.out).mono ?_; rintro e w' ⟨rfl, nd, rfl⟩) | (go_at_call 90; with_reducible refine (spec_l21Sixteen_rest HR4.out HC4.out HS4.out).mono ?_; rintro e w' ⟨rfl, nd2, rfl⟩) | (go_at_call 95; refine (HU.out _ A2 c2 A4 c4 (Nat.le_refl _) G.out.1 G.out.2.1 G.out.2.2 (by repeat (first | exact HR2.out | apply Kd.C_alloc | apply Kd.C_drewN | apply Kd.C_drew)) HC2.out (by rw [List.take_length]; exact (by repeat (first | exact HR4.out | apply Kd.C_alloc | apply Kd.C_drewN | apply Kd.C_drew))) HC4.out).mono ?_; rintro e w1 ⟨AR, cR, AS, cS, rfl, hR, hS, hCR, hCS, hBR⟩; have hcvA := Kd.C_string (P := Try.prog) (A := AR) (c := cR) Try.underlying22 Try.underlying5 Try.underlying9 hCR; have hcvB := Kd.C_string (P := Try.prog) (A := AS) (c := cS) Try.underlying22 Try.underlying5 Try.underlying9 hCS; have hcvC := Kd.C_string (P := Try.prog) (A := A2) (c := c2) Try.underlying22 Try.underlying5 Try.underlying9 (Kd.C_below HR2.out (below_step (by repeat (first | exact Below.refl _ _ | apply pw_below_drewN | apply below_drew | apply below_alloc)) hBR)); have hcvD := Kd.C_string (P := Try.prog) (A := A3) (c := c3) Try.underlying22 Try.underlying5 Try.underlying9 (Kd.C_below HR3.out (below_step (by repeat (first | exact Below.refl _ _ | apply pw_below_drewN | apply below_drew | apply below_alloc)) hBR)); replace hR := Aside0.mk hR; replace hS := Aside0.mk hS; replace hCR := Aside0.mk hCR; replace hCS := Aside0.mk hCS; have hB1 : Aside0 (Below w.heap.size w w1) := ⟨(below_step (by repeat (first | exact Below.refl _ _ | apply pw_below_drewN | apply below_drew | apply below_alloc)) hBR)⟩; clear hBR))
      go_ret
      exact ⟨by first | rfl | (simp [sameS]; done), by repeat (first | exact hB1.out | apply pw_below_drewN | apply below_drew)⟩
    | true =>
      have he1 : ((strOfNums r1).toList == (strOfNums l2).toList) = true := he
      clear he
      go_enter Try.func51, Try.ntmps51
      go_wp2_with (first | (go_at_call 90; with_reducible refine (spec_l21Sixteen_pair HR2.out HC2.out HR3.out HC3.out HS2.out).mono ?_; rintro e w' ⟨rfl, nd, rfl⟩) | (go_at_call 90; with_reducible refine (spec_l21Sixteen_rest HR4.out HC4.out HS4.out).mono ?_; rintro e w' ⟨rfl, nd2, rfl⟩) | (go_at_call 95; refine (HU.out _ A2 c2 A4 c4 (Nat.le_refl _) G.out.1 G.out.2.1 G.out.2.2 (by repeat (first | exact HR2.out | apply Kd.C_alloc | apply Kd.C_drewN | apply Kd.C_drew)) HC2.out (by rw [List.take_length]; exact (by repeat (first | exact HR4.out | apply Kd.C_alloc | apply Kd.C_drewN | apply Kd.C_drew))) HC4.out).mono ?_; rintro e w1 ⟨AR, cR, AS, cS, rfl, hR, hS, hCR, hCS, hBR⟩; have hcvA := Kd.C_string (P := Try.prog) (A := AR) (c := cR) Try.underlying22 Try.underlying5 Try.underlying9 hCR; have hcvB := Kd.C_string (P := Try.prog) (A := AS) (c := cS) Try.underlying22 Try.underlying5 Try.underlying9 hCS; have hcvC := Kd.C_string (P := Try.prog) (A := A2) (c := c2) Try.underlying22 Try.underlying5 Try.underlying9 (Kd.C_below HR2.out (below_step (by repeat (first | exact Below.refl _ _ | apply pw_below_drewN | apply below_drew | apply below_alloc)) hBR)); have hcvD := Kd.C_string (P := Try.prog) (A := A3) (c := c3) Try.underlying22 Try.underlying5 Try.underlying9 (Kd.C_below HR3.out (below_step (by repeat (first | exact Below.refl _ _ | apply pw_below_drewN | apply below_drew | apply below_alloc)) hBR)); replace hR := Aside0.mk hR; replace hS := Aside0.mk hS; replace hCR := Aside0.mk hCR; replace hCS := Aside0.mk hCS; have hB1 : Aside0 (Below w.heap.size w w1) := ⟨(below_step (by repeat (first | exact Below.refl _ _ | apply pw_below_drewN | apply below_drew | apply below_alloc)) hBR)⟩; clear hBR))
      go_ret
      exact ⟨by first | rfl | (simp [sameS]; done), by repeat (first | exact hB1.out | apply pw_below_drewN | apply below_drew)⟩
set_option maxHeartbeats 2000000 in
set_option maxRecDepth 100000 in
theorem spec_CheckBridge.calls (a0 : Int) (a1 : Int) (A2 : Option Addr) (c2 : Nat) (l2 : List Int) (A3 : Option Addr) (c3 : Nat) (l3 : List Int) (A4 : Option Addr) (c4 : Nat) (l4 : List (List Int)) (r : Bool) (w : World) (hr2 : Kd.C (Kd.int .u8) w A2 l2.length l2) (hc2 : l2.length ≤ c2) (hr3 : Kd.C (Kd.int .u8) w A3 l3.length l3) (hc3 : l3.length ≤ c3) (hr4 : Kd.C (Kd.slice 5 (Kd.int .u8)) w A4 l4.length l4) (hc4 : l4.length ≤ c4) (h : spec_CheckBridge.f a0 a1 l2 l3 l4 = some r) :
    Calls Try.prog 51 #[.int .i64 a0, .int .i64 a1, .slice A2 l2.length c2, .slice A3 l3.length c3, .slice A4 l4.length c4] w fun e w' => e = .returned (.bool r) ∧ Below w.heap.size w w' := by
  unfold spec_CheckBridge.f at h
  by_cases hb : bridgeBytes l2 l4
  case neg => rw [if_neg hb] at h; cases h
  rw [if_pos hb] at h
  obtain rfl := Option.some.inj h
  by_cases hok : bridgeOk a0 a1 l2 l3 l4
  · exact spec_CheckBridge.calls_good a0 a1 A2 c2 l2 A3 c3 l3 A4 c4 l4 w hr2 hc2 hr3 hc3 hr4 hc4 hb hok
  rw [show bridgeL a0 a1 l2 l3 l4 = false from if_neg hok]
  by_cases g0 : a0 < 1
  · exact spec_CheckBridge.calls_e0 a0 a1 A2 c2 l2 A3 c3 l3 A4 c4 l4 w hr2 hc2 hr3 hc3 hr4 hc4 g0
  by_cases g1 : a1 < a0
  · exact spec_CheckBridge.calls_e1 a0 a1 A2 c2 l2 A3 c3 l3 A4 c4 l4 w hr2 hc2 hr3 hc3 hr4 hc4 g0 g1
  by_cases g2 : 200 < a1
  · exact spec_CheckBridge.calls_e2 a0 a1 A2 c2 l2 A3 c3 l3 A4 c4 l4 w hr2 hc2 hr3 hc3 hr4 hc4 g0 g1 g2
  cases g5 : bad16 [l2, l3] with
  | true => exact spec_CheckBridge.calls_ends a0 a1 A2 c2 l2 A3 c3 l3 A4 c4 l4 w hr2 hc2 hr3 hc3 hr4 hc4 g0 g1 g2 g5
  | false =>
    cases g6 : bad16 l4 with
    | true => exact spec_CheckBridge.calls_bad a0 a1 A2 c2 l2 A3 c3 l3 A4 c4 l4 w hr2 hc2 hr3 hc3 hr4 hc4 g0 g1 g2 g5 g6
    | false => exact absurd ⟨by omega, by omega, by omega, g5, g6⟩ hok
end Go.Proofs.Ytipdkendfcopiaa.Pr
