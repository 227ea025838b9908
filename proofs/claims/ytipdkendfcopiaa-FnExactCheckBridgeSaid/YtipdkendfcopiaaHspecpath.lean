/- The walk of spec.CheckPath. -/
import Derived.Test.YtipdkendfcopiaaPup
import Derived.Test.YtipdkendfcopiaaHysixteen
import Derived.Test.YtipdkendfcopiaaPr90
namespace Go.Proofs.Ytipdkendfcopiaa.Pr
open Go.RowKit Go.Proofs.Ytipdkendfcopiaa.Read Go.Proofs.YtipdkendfcopiaaW.PrintWords Go.Proofs.YtipdkendfcopiaaW.PrintLast Go.Proofs.YtipdkendfcopiaaW.PrintMore
set_option linter.unusedVariables false
theorem sixteen_l0 (l : List (List Int)) (hl : l.length ≤ 9223372036854775807) (d : Nat) : ∀ (k i : Nat), i + d = l.length → d < k → bad16 (l.take i) = false → spec_l21Sixteen.l0 k l (l.length : Int) i = some (!bad16 l) := by
  induction d with
  | zero =>
    intro k i hi hk hb
    obtain ⟨k, rfl⟩ : ∃ m, k = m + 1 := ⟨k - 1, by omega⟩
    rw [List.take_of_length_le (by omega)] at hb
    simp only [spec_l21Sixteen.l0, if_neg (show ¬ ((i : Int) < l.length) by omega), hb, Bool.not_false]
  | succ d ih =>
    intro k i hi hk hb
    obtain ⟨k, rfl⟩ : ∃ m, k = m + 1 := ⟨k - 1, by omega⟩
    have e2 : wrap64 ((i : Int) + 1) = ((i + 1 : Nat) : Int) := by rw [w64 (by omega) (by omega)]; rfl
    have hs := bad16_take (l := l) (k := i) (by omega)
    rw [hb, Bool.false_or] at hs
    simp only [spec_l21Sixteen.l0, if_pos (show ((i : Int) < l.length) by omega), if_pos (show (0 : Int) ≤ i by omega), e2]
    by_cases h16 : ((rd_L2 l i).length : Int) = 16
    · rw [if_pos h16]
      refine ih k (i + 1) (by omega) (by omega) ?_
      rw [hs]
      simp
      omega
    · rw [if_neg h16]
      have hb2 : bad16 l = true := by
        have h1 : bad16 (l.take (i + 1)) = true := by
          rw [hs]
          simp
          omega
        unfold bad16 at h1 ⊢
        rw [List.any_eq_true] at h1 ⊢
        obtain ⟨x, hx, hx2⟩ := h1
        exact ⟨x, List.mem_of_mem_take hx, hx2⟩
      rw [hb2]
      rfl
theorem sixteen_eq (l : List (List Int)) (hl : l.length ≤ 9223372036854775807) : spec_l21Sixteen.f (l.length + 1) l = some (!bad16 l) :=
  sixteen_l0 l hl l.length (l.length + 1) 0 (by omega) (by omega) rfl
theorem one_C {w' : World} {A0 : Option Addr} {c0 g : Nat} {l0 : List Int} (h : Kd.C (Kd.int .u8) w' A0 l0.length l0) (hc : l0.length ≤ c0) (hcell : w'.cell? ⟨g, 0, none⟩ = some (.slice A0 l0.length c0)) :
    Kd.C (Kd.slice 5 (Kd.int .u8)) w' (some ⟨g, 0, none⟩) [l0].length [l0] := by
  refine ⟨rfl, by simp, fun _ => ⟨_, rfl, fun i p hp => ?_⟩⟩
  obtain rfl : i = 0 := by
    rcases i with _ | i
    · rfl
    · simp at hp
  obtain rfl : l0 = p := by simpa using hp
  exact ⟨[.slice A0 l0.length c0], rfl, ⟨A0, c0, rfl, hc, h⟩, fun k u hu => by
    rcases k with _ | k
    · have : u = .slice A0 l0.length c0 := by simpa using hu.symm
      subst this
      simpa [Addr.add] using hcell
    · simp at hu⟩
theorem sixteen_one {A0 : Option Addr} {c0 : Nat} {l0 : List Int} {w : World} {b : Bool} (h : Kd.C (Kd.int .u8) w A0 l0.length l0) (hc : l0.length ≤ c0) (hs : spec_l21Sixteen.f ([l0].length + 1) [l0] = some b) :
    Calls Try.prog 90 #[.slice (some ⟨w.heap.size, 0, none⟩) 1 1] (w.alloc (.cells #[.slice A0 l0.length c0] 22)) fun e w' => e = .returned (.bool b) ∧ ∃ nd, w' = (w.alloc (.cells #[.slice A0 l0.length c0] 22)).drewN nd := by
  have hcell : (w.alloc (.cells #[.slice A0 l0.length c0] 22)).cell? ⟨w.heap.size, 0, none⟩ = some (.slice A0 l0.length c0) := (blk_cell (blk_new w _) 0).trans rfl
  exact (spec_l21Sixteen.calls ([l0].length + 1) (some ⟨w.heap.size, 0, none⟩) 1 [l0] b _ (one_C (Kd.C_alloc h _) hc hcell) (by simp) hs).mono fun e w' hp => ⟨hp.1, hp.2.1⟩
def pathOk (leaf : List Int) (a s : Int) (path : List (List Int)) : Prop := 1 ≤ s ∧ s ≤ 200 ∧ 0 ≤ a ∧ a < s ∧ leaf.length = 16 ∧ bad16 path = false
instance (leaf : List Int) (a s : Int) (path : List (List Int)) : Decidable (pathOk leaf a s path) := by unfold pathOk; infer_instance
def pathL (leaf : List Int) (a s : Int) (path : List (List Int)) (root : List Int) : Bool := if pathOk leaf a s path then (upL leaf path path.length a s).2 && ((strOfNums (upL leaf path path.length a s).1).toList == (strOfNums root).toList) else false
def pathBytes (leaf : List Int) (path : List (List Int)) : Prop := isBytes leaf ∧ ∀ b ∈ path, isBytes b
instance (leaf : List Int) (path : List (List Int)) : Decidable (pathBytes leaf path) := by unfold pathBytes; infer_instance
theorem ok_six {leaf : List Int} {a s : Int} {path : List (List Int)} (hb : pathBytes leaf path) (h : pathOk leaf a s path) : six leaf ∧ ∀ b ∈ path, six b := by
  refine ⟨⟨hb.1, by have := h.2.2.2.2.1; omega⟩, fun b hbm => ⟨hb.2 b hbm, ?_⟩⟩
  have h2 := h.2.2.2.2.2
  unfold bad16 at h2
  rw [List.any_eq_false] at h2
  have := h2 b hbm
  simp at this
  omega
theorem sixteen_two {A0 : Option Addr} {c0 n0 : Nat} {A3 : Option Addr} {c3 : Nat} {l3 : List (List Int)} {w : World} {b : Bool} {nd : Nat} (h : Kd.C (Kd.slice 5 (Kd.int .u8)) w A3 l3.length l3) (hc : l3.length ≤ c3) (hs : spec_l21Sixteen.f (l3.length + 1) l3 = some b) :
    Calls Try.prog 90 #[.slice A3 l3.length c3] ((w.alloc (.cells #[.slice A0 n0 c0] 22)).drewN nd) fun e w' => e = .returned (.bool b) ∧ ∃ nd2, w' = ((w.alloc (.cells #[.slice A0 n0 c0] 22)).drewN nd).drewN nd2 :=
  (spec_l21Sixteen.calls (l3.length + 1) A3 c3 l3 b _ (Kd.C_drewN (Kd.C_alloc h _) _) hc hs).mono fun e w' hp => ⟨hp.1, hp.2.1⟩
def spec_CheckPath.f (l0 : List Int) (a1 : Int) (a2 : Int) (l3 : List (List Int)) (l4 : List Int) : Option (Bool) := if pathBytes l0 l3 then some (pathL l0 a1 a2 l3 l4) else none
set_option maxHeartbeats 2000000 in
set_option maxRecDepth 100000 in
theorem spec_CheckPath.calls_e0 (A0 : Option Addr) (c0 : Nat) (l0 : List Int) (a1 : Int) (a2 : Int) (A3 : Option Addr) (c3 : Nat) (l3 : List (List Int)) (A4 : Option Addr) (c4 : Nat) (l4 : List Int) (w : World) (hr0 : Kd.C (Kd.int .u8) w A0 l0.length l0) (hc0 : l0.length ≤ c0) (hr3 : Kd.C (Kd.slice 5 (Kd.int .u8)) w A3 l3.length l3) (hc3 : l3.length ≤ c3) (hr4 : Kd.C (Kd.int .u8) w A4 l4.length l4) (hc4 : l4.length ≤ c4)  (g0 : a2 < 1) :
    Calls Try.prog 47 #[.slice A0 l0.length c0, .int .i64 a1, .int .i64 a2, .slice A3 l3.length c3, .slice A4 l4.length c4] w fun e w' => e = .returned (.bool false) ∧ Below w.heap.size w w' := by
  have HR0 := Aside0.mk hr0
  have HC0 := Aside0.mk hc0
  have HR3 := Aside0.mk hr3
  have HC3 := Aside0.mk hc3
  have HR4 := Aside0.mk hr4
  have HC4 := Aside0.mk hc4
  have HS3 := Aside0.mk (sixteen_eq l3 (Kd.C_max hr3))
  have HS0 := Aside0.mk (sixteen_eq [l0] (by simp))
  have hone : bad16 [l0] = (l0.length != 16) := by simp [bad16]
  clear hr0 hc0 hr3 hc3 hr4 hc4
  have q0 : decide (a2 < 1) = true := decide_eq_true (by omega)
  clear hone HS0 HS3 g0
  go_enter Try.func47, Try.ntmps47
  go_wp2_with (first | (go_at_call 90; with_reducible refine (sixteen_one HR0.out HC0.out HS0.out).mono ?_; rintro e w' ⟨rfl, nd, rfl⟩))
  go_ret
  exact ⟨rfl, by repeat (first | exact Below.refl _ _ | apply pw_below_drewN | apply below_drew | apply below_alloc)⟩
set_option maxHeartbeats 2000000 in
set_option maxRecDepth 100000 in
theorem spec_CheckPath.calls_e1 (A0 : Option Addr) (c0 : Nat) (l0 : List Int) (a1 : Int) (a2 : Int) (A3 : Option Addr) (c3 : Nat) (l3 : List (List Int)) (A4 : Option Addr) (c4 : Nat) (l4 : List Int) (w : World) (hr0 : Kd.C (Kd.int .u8) w A0 l0.length l0) (hc0 : l0.length ≤ c0) (hr3 : Kd.C (Kd.slice 5 (Kd.int .u8)) w A3 l3.length l3) (hc3 : l3.length ≤ c3) (hr4 : Kd.C (Kd.int .u8) w A4 l4.length l4) (hc4 : l4.length ≤ c4) (g0 : ¬ a2 < 1) (g1 : 200 < a2) :
    Calls Try.prog 47 #[.slice A0 l0.length c0, .int .i64 a1, .int .i64 a2, .slice A3 l3.length c3, .slice A4 l4.length c4] w fun e w' => e = .returned (.bool false) ∧ Below w.heap.size w w' := by
  have HR0 := Aside0.mk hr0
  have HC0 := Aside0.mk hc0
  have HR3 := Aside0.mk hr3
  have HC3 := Aside0.mk hc3
  have HR4 := Aside0.mk hr4
  have HC4 := Aside0.mk hc4
  have HS3 := Aside0.mk (sixteen_eq l3 (Kd.C_max hr3))
  have HS0 := Aside0.mk (sixteen_eq [l0] (by simp))
  have hone : bad16 [l0] = (l0.length != 16) := by simp [bad16]
  clear hr0 hc0 hr3 hc3 hr4 hc4
  have q0 : decide (a2 < 1) = false := decide_eq_false (by omega)
  have q1 : decide (200 < a2) = true := decide_eq_true (by omega)
  clear hone HS0 HS3 g0 g1
  go_enter Try.func47, Try.ntmps47
  go_wp2_with (first | (go_at_call 90; with_reducible refine (sixteen_one HR0.out HC0.out HS0.out).mono ?_; rintro e w' ⟨rfl, nd, rfl⟩))
  go_ret
  exact ⟨rfl, by repeat (first | exact Below.refl _ _ | apply pw_below_drewN | apply below_drew | apply below_alloc)⟩
set_option maxHeartbeats 2000000 in
set_option maxRecDepth 100000 in
theorem spec_CheckPath.calls_e2 (A0 : Option Addr) (c0 : Nat) (l0 : List Int) (a1 : Int) (a2 : Int) (A3 : Option Addr) (c3 : Nat) (l3 : List (List Int)) (A4 : Option Addr) (c4 : Nat) (l4 : List Int) (w : World) (hr0 : Kd.C (Kd.int .u8) w A0 l0.length l0) (hc0 : l0.length ≤ c0) (hr3 : Kd.C (Kd.slice 5 (Kd.int .u8)) w A3 l3.length l3) (hc3 : l3.length ≤ c3) (hr4 : Kd.C (Kd.int .u8) w A4 l4.length l4) (hc4 : l4.length ≤ c4) (g0 : ¬ a2 < 1) (g1 : ¬ 200 < a2) (g2 : a1 < 0) :
    Calls Try.prog 47 #[.slice A0 l0.length c0, .int .i64 a1, .int .i64 a2, .slice A3 l3.length c3, .slice A4 l4.length c4] w fun e w' => e = .returned (.bool false) ∧ Below w.heap.size w w' := by
  have HR0 := Aside0.mk hr0
  have HC0 := Aside0.mk hc0
  have HR3 := Aside0.mk hr3
  have HC3 := Aside0.mk hc3
  have HR4 := Aside0.mk hr4
  have HC4 := Aside0.mk hc4
  have HS3 := Aside0.mk (sixteen_eq l3 (Kd.C_max hr3))
  have HS0 := Aside0.mk (sixteen_eq [l0] (by simp))
  have hone : bad16 [l0] = (l0.length != 16) := by simp [bad16]
  clear hr0 hc0 hr3 hc3 hr4 hc4
  have q0 : decide (a2 < 1) = false := decide_eq_false (by omega)
  have q1 : decide (200 < a2) = false := decide_eq_false (by omega)
  have q2 : decide (a1 < 0) = true := decide_eq_true (by omega)
  clear hone HS0 HS3 g0 g1 g2
  go_enter Try.func47, Try.ntmps47
  go_wp2_with (first | (go_at_call 90; with_reducible refine (sixteen_one HR0.out HC0.out HS0.out).mono ?_; rintro e w' ⟨rfl, nd, rfl⟩))
  go_ret
  exact ⟨rfl, by repeat (first | exact Below.refl _ _ | apply pw_below_drewN | apply below_drew | apply below_alloc)⟩
set_option maxHeartbeats 2000000 in
set_option maxRecDepth 100000 in
theorem spec_CheckPath.calls_e3 (A0 : Option Addr) (c0 : Nat) (l0 : List Int) (a1 : Int) (a2 : Int) (A3 : Option Addr) (c3 : Nat) (l3 : List (List Int)) (A4 : Option Addr) (c4 : Nat) (l4 : List Int) (w : World) (hr0 : Kd.C (Kd.int .u8) w A0 l0.length l0) (hc0 : l0.length ≤ c0) (hr3 : Kd.C (Kd.slice 5 (Kd.int .u8)) w A3 l3.length l3) (hc3 : l3.length ≤ c3) (hr4 : Kd.C (Kd.int .u8) w A4 l4.length l4) (hc4 : l4.length ≤ c4) (g0 : ¬ a2 < 1) (g1 : ¬ 200 < a2) (g2 : ¬ a1 < 0) (g3 : a2 ≤ a1) :
    Calls Try.prog 47 #[.slice A0 l0.length c0, .int .i64 a1, .int .i64 a2, .slice A3 l3.length c3, .slice A4 l4.length c4] w fun e w' => e = .returned (.bool false) ∧ Below w.heap.size w w' := by
  have HR0 := Aside0.mk hr0
  have HC0 := Aside0.mk hc0
  have HR3 := Aside0.mk hr3
  have HC3 := Aside0.mk hc3
  have HR4 := Aside0.mk hr4
  have HC4 := Aside0.mk hc4
  have HS3 := Aside0.mk (sixteen_eq l3 (Kd.C_max hr3))
  have HS0 := Aside0.mk (sixteen_eq [l0] (by simp))
  have hone : bad16 [l0] = (l0.length != 16) := by simp [bad16]
  clear hr0 hc0 hr3 hc3 hr4 hc4
  have q0 : decide (a2 < 1) = false := decide_eq_false (by omega)
  have q1 : decide (200 < a2) = false := decide_eq_false (by omega)
  have q2 : decide (a1 < 0) = false := decide_eq_false (by omega)
  have q3 : decide (a2 ≤ a1) = true := decide_eq_true (by omega)
  clear hone HS0 HS3 g0 g1 g2 g3
  go_enter Try.func47, Try.ntmps47
  go_wp2_with (first | (go_at_call 90; with_reducible refine (sixteen_one HR0.out HC0.out HS0.out).mono ?_; rintro e w' ⟨rfl, nd, rfl⟩))
  go_ret
  exact ⟨rfl, by repeat (first | exact Below.refl _ _ | apply pw_below_drewN | apply below_drew | apply below_alloc)⟩
set_option maxHeartbeats 2000000 in
set_option maxRecDepth 100000 in
theorem spec_CheckPath.calls_leaf (A0 : Option Addr) (c0 : Nat) (l0 : List Int) (a1 : Int) (a2 : Int) (A3 : Option Addr) (c3 : Nat) (l3 : List (List Int)) (A4 : Option Addr) (c4 : Nat) (l4 : List Int) (w : World) (hr0 : Kd.C (Kd.int .u8) w A0 l0.length l0) (hc0 : l0.length ≤ c0) (hr3 : Kd.C (Kd.slice 5 (Kd.int .u8)) w A3 l3.length l3) (hc3 : l3.length ≤ c3) (hr4 : Kd.C (Kd.int .u8) w A4 l4.length l4) (hc4 : l4.length ≤ c4) (g0 : ¬ a2 < 1) (g1 : ¬ 200 < a2) (g2 : ¬ a1 < 0) (g3 : ¬ a2 ≤ a1) (g5 : ¬ l0.length = 16) :
    Calls Try.prog 47 #[.slice A0 l0.length c0, .int .i64 a1, .int .i64 a2, .slice A3 l3.length c3, .slice A4 l4.length c4] w fun e w' => e = .returned (.bool false) ∧ Below w.heap.size w w' := by
  have HR0 := Aside0.mk hr0
  have HC0 := Aside0.mk hc0
  have HR3 := Aside0.mk hr3
  have HC3 := Aside0.mk hc3
  have HR4 := Aside0.mk hr4
  have HC4 := Aside0.mk hc4
  have HS3 := Aside0.mk (sixteen_eq l3 (Kd.C_max hr3))
  have HS0 := Aside0.mk (sixteen_eq [l0] (by simp))
  have hone : bad16 [l0] = (l0.length != 16) := by simp [bad16]
  clear hr0 hc0 hr3 hc3 hr4 hc4
  have q0 : decide (a2 < 1) = false := decide_eq_false (by omega)
  have q1 : decide (200 < a2) = false := decide_eq_false (by omega)
  have q2 : decide (a1 < 0) = false := decide_eq_false (by omega)
  have q3 : decide (a2 ≤ a1) = false := decide_eq_false (by omega)
  replace HS0 : Aside0 (spec_l21Sixteen.f ([l0].length + 1) [l0] = some false) := ⟨by rw [HS0.out, hone]; simp; omega⟩
  clear hone g0 g1 g2 g3 g5
  go_enter Try.func47, Try.ntmps47
  go_wp2_with (first | (go_at_call 90; with_reducible refine (sixteen_one HR0.out HC0.out HS0.out).mono ?_; rintro e w' ⟨rfl, nd, rfl⟩))
  go_ret
  exact ⟨rfl, by repeat (first | exact Below.refl _ _ | apply pw_below_drewN | apply below_drew | apply below_alloc)⟩
set_option maxHeartbeats 2000000 in
set_option maxRecDepth 100000 in
theorem spec_CheckPath.calls_bad (A0 : Option Addr) (c0 : Nat) (l0 : List Int) (a1 : Int) (a2 : Int) (A3 : Option Addr) (c3 : Nat) (l3 : List (List Int)) (A4 : Option Addr) (c4 : Nat) (l4 : List Int) (w : World) (hr0 : Kd.C (Kd.int .u8) w A0 l0.length l0) (hc0 : l0.length ≤ c0) (hr3 : Kd.C (Kd.slice 5 (Kd.int .u8)) w A3 l3.length l3) (hc3 : l3.length ≤ c3) (hr4 : Kd.C (Kd.int .u8) w A4 l4.length l4) (hc4 : l4.length ≤ c4) (g0 : ¬ a2 < 1) (g1 : ¬ 200 < a2) (g2 : ¬ a1 < 0) (g3 : ¬ a2 ≤ a1) (g5 : l0.length = 16) (g6 : bad16 l3 = true) :
    Calls Try.prog 47 #[.slice A0 l0.length c0, .int .i64 a1, .int .i64 a2, .slice A3 l3.length c3, .slice A4 l4.length c4] w fun e w' => e = .returned (.bool false) ∧ Below w.heap.size w w' := by
  have HR0 := Aside0.mk hr0
  have HC0 := Aside0.mk hc0
  have HR3 := Aside0.mk hr3
  have HC3 := Aside0.mk hc3
  have HR4 := Aside0.mk hr4
  have HC4 := Aside0.mk hc4
  have HS3 := Aside0.mk (sixteen_eq l3 (Kd.C_max hr3))
  have HS0 := Aside0.mk (sixteen_eq [l0] (by simp))
  have hone : bad16 [l0] = (l0.length != 16) := by simp [bad16]
  clear hr0 hc0 hr3 hc3 hr4 hc4
  have q0 : decide (a2 < 1) = false := decide_eq_false (by omega)
  have q1 : decide (200 < a2) = false := decide_eq_false (by omega)
  have q2 : decide (a1 < 0) = false := decide_eq_false (by omega)
  have q3 : decide (a2 ≤ a1) = false := decide_eq_false (by omega)
  replace HS0 : Aside0 (spec_l21Sixteen.f ([l0].length + 1) [l0] = some true) := ⟨by rw [HS0.out, hone, g5]; rfl⟩
  replace HS3 : Aside0 (spec_l21Sixteen.f (l3.length + 1) l3 = some false) := ⟨by rw [HS3.out, g6]; rfl⟩
  clear hone g0 g1 g2 g3 g5 g6
  go_enter Try.func47, Try.ntmps47
  go_wp2_with (first | (go_at_call 90; with_reducible refine (sixteen_one HR0.out HC0.out HS0.out).mono ?_; rintro e w' ⟨rfl, nd, rfl⟩) | (go_at_call 90; with_reducible refine (sixteen_two HR3.out HC3.out HS3.out).mono ?_; rintro e w' ⟨rfl, nd2, rfl⟩))
  go_ret
  exact ⟨rfl, by repeat (first | exact Below.refl _ _ | apply pw_below_drewN | apply below_drew | apply below_alloc)⟩
set_option maxHeartbeats 2000000 in
set_option maxRecDepth 100000 in
theorem spec_CheckPath.calls_good (A0 : Option Addr) (c0 : Nat) (l0 : List Int) (a1 : Int) (a2 : Int) (A3 : Option Addr) (c3 : Nat) (l3 : List (List Int)) (A4 : Option Addr) (c4 : Nat) (l4 : List Int) (w : World) (hr0 : Kd.C (Kd.int .u8) w A0 l0.length l0) (hc0 : l0.length ≤ c0) (hr3 : Kd.C (Kd.slice 5 (Kd.int .u8)) w A3 l3.length l3) (hc3 : l3.length ≤ c3) (hr4 : Kd.C (Kd.int .u8) w A4 l4.length l4) (hc4 : l4.length ≤ c4) (hb : pathBytes l0 l3) (hok : pathOk l0 a1 a2 l3) :
    Calls Try.prog 47 #[.slice A0 l0.length c0, .int .i64 a1, .int .i64 a2, .slice A3 l3.length c3, .slice A4 l4.length c4] w fun e w' => e = .returned (.bool (pathL l0 a1 a2 l3 l4)) ∧ Below w.heap.size w w' := by
  have HR0 := Aside0.mk hr0
  have HC0 := Aside0.mk hc0
  have HR3 := Aside0.mk hr3
  have HC3 := Aside0.mk hc3
  have HR4 := Aside0.mk hr4
  have HC4 := Aside0.mk hc4
  have HS3 := Aside0.mk (sixteen_eq l3 (Kd.C_max hr3))
  have HS0 := Aside0.mk (sixteen_eq [l0] (by simp))
  have hone : bad16 [l0] = (l0.length != 16) := by simp [bad16]
  clear hr0 hc0 hr3 hc3 hr4 hc4
  have hsx := ok_six hb hok
  obtain ⟨g1, g2, g3, g4, g5, g6⟩ := hok
  rw [show pathL l0 a1 a2 l3 l4 = ((upL l0 l3 l3.length a1 a2).2 && ((strOfNums (upL l0 l3 l3.length a1 a2).1).toList == (strOfNums l4).toList)) from if_pos ⟨g1, g2, g3, g4, g5, g6⟩]
  have HU := Aside0.mk (specUp_calls l0 l3 hsx.1 hsx.2 l3.length a1 a2)
  generalize upL l0 l3 l3.length a1 a2 = res at HU ⊢
  obtain ⟨r1, r2⟩ := res
  dsimp only at HU ⊢
  have q0 : decide (a2 < 1) = false := decide_eq_false (by omega)
  have q1 : decide (200 < a2) = false := decide_eq_false (by omega)
  have q2 : decide (a1 < 0) = false := decide_eq_false (by omega)
  have q3 : decide (a2 ≤ a1) = false := decide_eq_false (by omega)
  replace HS0 : Aside0 (spec_l21Sixteen.f ([l0].length + 1) [l0] = some true) := ⟨by rw [HS0.out, hone, g5]; rfl⟩
  replace HS3 : Aside0 (spec_l21Sixteen.f (l3.length + 1) l3 = some true) := ⟨by rw [HS3.out, g6]; rfl⟩
  have G := Aside0.mk (And.intro g1 (And.intro g2 (And.intro g3 g4)))
  clear hb hsx g1 g2 g3 g4 g5 g6 hone
  cases r2 with
  | true =>
    go_enter Try.func47, Try.ntmps47
    go_wp2_with (first | (go_at_call 90; with_reducible refine (sixteen_one HR0.out HC0.out HS0.out).mono ?_; rintro e w' ⟨rfl, nd, rfl⟩) | (go_at_call 90; with_reducible refine (sixteen_two HR3.out HC3.out HS3.out).mono ?_; rintro e w' ⟨rfl, nd2, rfl⟩) | (go_at_call 91; refine (HU.out _ A0 c0 A3 c3 (Nat.le_refl _) G.out.2.2.1 G.out.2.2.2 G.out.2.1 (by repeat (first | exact HR0.out | apply Kd.C_alloc | apply Kd.C_drewN | apply Kd.C_drew)) HC0.out (by rw [List.take_length]; exact (by repeat (first | exact HR3.out | apply Kd.C_alloc | apply Kd.C_drewN | apply Kd.C_drew))) HC3.out).mono ?_; rintro e w1 ⟨AR, cR, rfl, hR, hCR, hBR⟩; have hcvA := Kd.C_string (P := Try.prog) (A := AR) (c := cR) Try.underlying22 Try.underlying5 Try.underlying9 hCR; have hcvB := Kd.C_string (P := Try.prog) (A := A4) (c := c4) Try.underlying22 Try.underlying5 Try.underlying9 (Kd.C_below HR4.out (below_step (by repeat (first | exact Below.refl _ _ | apply pw_below_drewN | apply below_drew | apply below_alloc)) hBR)); replace hR := Aside0.mk hR; replace hCR := Aside0.mk hCR; have hB1 : Aside0 (Below w.heap.size w w1) := ⟨below_step (by repeat (first | exact Below.refl _ _ | apply pw_below_drewN | apply below_drew | apply below_alloc)) hBR⟩; clear hBR))
    go_ret
    exact ⟨by first | rfl | (simp; done), hB1.out⟩
  | false =>
    go_enter Try.func47, Try.ntmps47
    go_wp2_with (first | (go_at_call 90; with_reducible refine (sixteen_one HR0.out HC0.out HS0.out).mono ?_; rintro e w' ⟨rfl, nd, rfl⟩) | (go_at_call 90; with_reducible refine (sixteen_two HR3.out HC3.out HS3.out).mono ?_; rintro e w' ⟨rfl, nd2, rfl⟩) | (go_at_call 91; refine (HU.out _ A0 c0 A3 c3 (Nat.le_refl _) G.out.2.2.1 G.out.2.2.2 G.out.2.1 (by repeat (first | exact HR0.out | apply Kd.C_alloc | apply Kd.C_drewN | apply Kd.C_drew)) HC0.out (by rw [List.take_length]; exact (by repeat (first | exact HR3.out | apply Kd.C_alloc | apply Kd.C_drewN | apply Kd.C_drew))) HC3.out).mono ?_; rintro e w1 ⟨AR, cR, rfl, hR, hCR, hBR⟩; have hcvA := Kd.C_string (P := Try.prog) (A := AR) (c := cR) Try.underlying22 Try.underlying5 Try.underlying9 hCR; have hcvB := Kd.C_string (P := Try.prog) (A := A4) (c := c4) Try.underlying22 Try.underlying5 Try.underlying9 (Kd.C_below HR4.out (below_step (by repeat (first | exact Below.refl _ _ | apply pw_below_drewN | apply below_drew | apply below_alloc)) hBR)); replace hR := Aside0.mk hR; replace hCR := Aside0.mk hCR; have hB1 : Aside0 (Below w.heap.size w w1) := ⟨below_step (by repeat (first | exact Below.refl _ _ | apply pw_below_drewN | apply below_drew | apply below_alloc)) hBR⟩; clear hBR))
    go_ret
    exact ⟨by first | rfl | (simp; done), hB1.out⟩
set_option maxHeartbeats 2000000 in
set_option maxRecDepth 100000 in
theorem spec_CheckPath.calls (A0 : Option Addr) (c0 : Nat) (l0 : List Int) (a1 : Int) (a2 : Int) (A3 : Option Addr) (c3 : Nat) (l3 : List (List Int)) (A4 : Option Addr) (c4 : Nat) (l4 : List Int) (r : Bool) (w : World) (hr0 : Kd.C (Kd.int .u8) w A0 l0.length l0) (hc0 : l0.length ≤ c0) (hr3 : Kd.C (Kd.slice 5 (Kd.int .u8)) w A3 l3.length l3) (hc3 : l3.length ≤ c3) (hr4 : Kd.C (Kd.int .u8) w A4 l4.length l4) (hc4 : l4.length ≤ c4) (h : spec_CheckPath.f l0 a1 a2 l3 l4 = some r) :
    Calls Try.prog 47 #[.slice A0 l0.length c0, .int .i64 a1, .int .i64 a2, .slice A3 l3.length c3, .slice A4 l4.length c4] w fun e w' => e = .returned (.bool r) ∧ Below w.heap.size w w' := by
  unfold spec_CheckPath.f at h
  by_cases hb : pathBytes l0 l3
  case neg => rw [if_neg hb] at h; cases h
  rw [if_pos hb] at h
  obtain rfl := Option.some.inj h
  by_cases hok : pathOk l0 a1 a2 l3
  · exact spec_CheckPath.calls_good A0 c0 l0 a1 a2 A3 c3 l3 A4 c4 l4 w hr0 hc0 hr3 hc3 hr4 hc4 hb hok
  rw [show pathL l0 a1 a2 l3 l4 = false from if_neg hok]
  by_cases g0 : a2 < 1
  · exact spec_CheckPath.calls_e0 A0 c0 l0 a1 a2 A3 c3 l3 A4 c4 l4 w hr0 hc0 hr3 hc3 hr4 hc4 g0
  by_cases g1 : 200 < a2
  · exact spec_CheckPath.calls_e1 A0 c0 l0 a1 a2 A3 c3 l3 A4 c4 l4 w hr0 hc0 hr3 hc3 hr4 hc4 g0 g1
  by_cases g2 : a1 < 0
  · exact spec_CheckPath.calls_e2 A0 c0 l0 a1 a2 A3 c3 l3 A4 c4 l4 w hr0 hc0 hr3 hc3 hr4 hc4 g0 g1 g2
  by_cases g3 : a2 ≤ a1
  · exact spec_CheckPath.calls_e3 A0 c0 l0 a1 a2 A3 c3 l3 A4 c4 l4 w hr0 hc0 hr3 hc3 hr4 hc4 g0 g1 g2 g3
  by_cases g5 : l0.length = 16
  · have g6 : bad16 l3 = true := by
      cases hb3 : bad16 l3 with
      | true => rfl
      | false => exact absurd ⟨by omega, by omega, by omega, by omega, g5, hb3⟩ hok
    exact spec_CheckPath.calls_bad A0 c0 l0 a1 a2 A3 c3 l3 A4 c4 l4 w hr0 hc0 hr3 hc3 hr4 hc4 g0 g1 g2 g3 g5 g6
  · exact spec_CheckPath.calls_leaf A0 c0 l0 a1 a2 A3 c3 l3 A4 c4 l4 w hr0 hc0 hr3 hc3 hr4 hc4 g0 g1 g2 g3 g5
end Go.Proofs.Ytipdkendfcopiaa.Pr
