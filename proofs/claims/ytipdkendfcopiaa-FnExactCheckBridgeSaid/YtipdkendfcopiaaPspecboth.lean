/- The walk of spec.l21Both. -/
import Derived.Test.YtipdkendfcopiaaPboth
import Derived.StillTailTactics
import Derived.OwnWalk
import Derived.Deep.QuietTactic
import Derived.Deep.RegionHeld3
namespace Go.Proofs.Ytipdkendfcopiaa.Pr
open Go.RowKit Go.Proofs.Ytipdkendfcopiaa.Read Go.Proofs.YtipdkendfcopiaaW.PrintWords Go.Proofs.YtipdkendfcopiaaW.PrintLast Go.Proofs.YtipdkendfcopiaaW.PrintMore
set_option linter.unusedVariables false
set_option maxHeartbeats 4000000 in
set_option maxRecDepth 100000 in
theorem specBoth_calls (root : List Int) (bridge : List (List Int)) (hl : six root) (hp : ∀ b ∈ bridge, six b) : ∀ (n : Nat) (a s : Int) (b : Bool) (w : World) (A0 : Option Addr) (c0 : Nat) (A3 : Option Addr) (c3 : Nat), n ≤ bridge.length → 1 ≤ a → a ≤ s → s ≤ 200 → Kd.C (Kd.int .u8) w A0 root.length root → root.length ≤ c0 → Kd.C (Kd.slice 5 (Kd.int .u8)) w A3 n (bridge.take n) → n ≤ c3 →
    Calls Try.prog 95 #[.int .i64 a, .int .i64 s, .bool b, .slice A0 root.length c0, .slice A3 n c3] w fun e w' => ∃ (A : Option Addr) (c : Nat) (A' : Option Addr) (c' : Nat), e = .returned (.tuple #[.slice A (bothL root bridge n a s b).1.length c, .slice A' (bothL root bridge n a s b).2.1.length c', .bool (bothL root bridge n a s b).2.2]) ∧ (bothL root bridge n a s b).1.length ≤ c ∧ (bothL root bridge n a s b).2.1.length ≤ c' ∧ Kd.C (Kd.int .u8) w' A (bothL root bridge n a s b).1.length (bothL root bridge n a s b).1 ∧ Kd.C (Kd.int .u8) w' A' (bothL root bridge n a s b).2.1.length (bothL root bridge n a s b).2.1 ∧ Below w.heap.size w w' := by
  intro n
  induction n with
  | zero =>
    intro a s b w A0 c0 A3 c3 hn ha0 ha1 hs hC hc hC3 hc3
    have HC := Aside0.mk hC
    have HL := Aside0.mk hc
    clear hC hc hC3 hc3
    by_cases h1 : a = s
    · subst h1
      cases b with
      | true =>
        rw [show bothL root bridge 0 a a true = (root, root, true) from (if_pos rfl).trans (if_pos rfl)]
        go_enter Try.func95, Try.ntmps95
        go_wp2
        go_ret3
        exact ⟨A0, c0, A0, c0, rfl, HL.out, HL.out, HC.out, HC.out, Below.refl _ _⟩
      | false =>
        rw [show bothL root bridge 0 a a false = ([], [], false) from (if_pos rfl).trans (if_neg (by decide))]
        go_enter Try.func95, Try.ntmps95
        go_wp2
        go_ret3
        exact ⟨none, 0, none, 0, rfl, by simp, by simp, Kd.C_nil _ _, Kd.C_nil _ _, Below.refl _ _⟩
    · rw [show bothL root bridge 0 a s b = ([], [], false) from if_neg h1]
      have hs1 : (a == s) = false := beq_eq_false_iff_ne.2 h1
      go_enter Try.func95, Try.ntmps95
      go_wp2
      go_ret3
      exact ⟨none, 0, none, 0, rfl, by simp, by simp, Kd.C_nil _ _, Kd.C_nil _ _, Below.refl _ _⟩
  | succ n ih =>
    intro a s b w A0 c0 A3 c3 hn ha0 ha1 hs hC hc hC3 hc3
    have HC := Aside0.mk hC
    have HL := Aside0.mk hc
    have HC3 := Aside0.mk hC3
    have hmx := Kd.C_max hC3
    have hn1 : ((n : Int) + 1 == 0) = false := beq_eq_false_iff_ne.2 (by omega)
    by_cases h1 : a = s
    · subst h1
      cases b with
      | true =>
        rw [show bothL root bridge (n + 1) a a true = (root, root, false) from (if_pos rfl).trans (if_pos rfl)]
        clear hC hc hC3
        go_enter Try.func95, Try.ntmps95
        go_wp2
        go_ret3
        exact ⟨A0, c0, A0, c0, rfl, HL.out, HL.out, HC.out, HC.out, Below.refl _ _⟩
      | false =>
        rcases n with _ | n
        · rw [show bothL root bridge (0 + 1) a a false = (rd_L2 bridge (0 : Nat), rd_L2 bridge (0 : Nat), true) from (if_pos rfl).trans ((if_neg (by decide)).trans (if_pos rfl))]
          obtain ⟨ad, A1, c1, rfl, hcell, hl1, hC1⟩ := at_L2 hC3 ((0 : Nat) : Int) (by omega) (by omega)
          rw [rd_take (by omega)] at hcell hl1 hC1
          obtain ⟨last, elast⟩ : ∃ x, x = rd_L2 bridge (0 : Nat) := ⟨_, rfl⟩
          rw [← elast] at hcell hl1 hC1 ⊢
          have HLA := Aside0.mk hC1
          have HLL := Aside0.mk hl1
          have hcell0 : w.cell? (ad.add 0) = some (.slice A1 last.length c1) := hcell
          have hcell1 : w.cell? ad = some (.slice A1 last.length c1) := by have := hcell; rwa [show ad.add (Int.toNat ((0 : Nat) : Int)) = ad by simp [Addr.add]] at this
          clear hC hc hC3 hC1 hl1 elast hcell
          go_enter Try.func95, Try.ntmps95
          go_wp2
          go_quiet (fail)
          go_wp2
          go_ret3
          exact ⟨A1, c1, A1, c1, rfl, HLL.out, HLL.out, Kd.C_drewN HLA.out _, Kd.C_drewN HLA.out _, pw_below_drewN (Below.refl _ _) _⟩
        · rw [show bothL root bridge (n + 1 + 1) a a false = ([], [], false) from (if_pos rfl).trans ((if_neg (by decide)).trans (if_neg (by omega)))]
          have hn2 : ((n : Int) + 1 + 1 != 1) = true := bne_iff_ne.2 (by omega)
          clear hC hc hC3
          go_enter Try.func95, Try.ntmps95
          go_wp2
          go_ret3
          exact ⟨none, 0, none, 0, rfl, by simp, by simp, Kd.C_nil _ _, Kd.C_nil _ _, Below.refl _ _⟩
    · obtain ⟨E1S, E1I, k0, k1⟩ := cut_facts s (by omega) hs
      have hs1 : (a == s) = false := beq_eq_false_iff_ne.2 h1
      obtain ⟨ad, A1, c1, rfl, hcell, hl1, hC1⟩ := at_L2 hC3 (n : Int) (by omega) (by omega)
      rw [rd_take (by omega)] at hcell hl1 hC1
      rw [Int.toNat_natCast] at hcell
      obtain ⟨last, elast⟩ : ∃ x, x = rd_L2 bridge n := ⟨_, rfl⟩
      rw [← elast] at hcell hl1 hC1
      have hlast : six last := by rw [elast]; exact rd_all_six hp n
      have HCT := Aside0.mk (Kd.C_take (m := n) (by rw [List.length_take, Nat.min_eq_left hn]; exact hC3) (by rw [List.length_take, Nat.min_eq_left hn]; omega))
      have HM := Aside0.mk (Kd.C_max hC3)
      clear hC hc hC3
      have hm := HM.out
      have hw1 : wrap64 (n : Int) = (n : Int) := w64 (by omega) (by omega)
      have hw4 : wrap64 ((n : Int) + 1 - 1) = (n : Int) := by rw [show (n : Int) + 1 - 1 = n by omega]; exact hw1
      have hw5 : IntKind.i64.wrap ((n : Int) + 1 - 1) = (n : Int) := by rw [show (n : Int) + 1 - 1 = n by omega]; exact IntWalk.i64_in _ (by omega)
      have hw6 : IntKind.i64.wrap (n : Int) = (n : Int) := IntWalk.i64_in _ (by omega)
      have hb0 : (0 : Int) ≤ (n : Int) := by omega
      have hb1 : (n : Int) < (n : Int) + 1 := by omega
      have E1 := Aside0.mk E1S
      clear E1S E1I
      by_cases h2 : a ≤ cutL s
      · rw [both_low _ _ _ _ _ _ h1 h2, ← elast]
        have hsx := both_six root bridge hl hp n a (cutL s) b
        have IH := fun (W : World) (hb : Below w.heap.size w W) => ih a (cutL s) b W A0 c0 (some ad) c3 (by omega) ha0 h2 (by omega) (Kd.C_below HC.out hb) HL.out (by have := Kd.C_below HCT.out hb; rwa [List.take_take, Nat.min_eq_left (by omega), List.length_take, Nat.min_eq_left (by omega)] at this) (by omega)
        generalize bothL root bridge n a (cutL s) b = res at IH hsx
        obtain ⟨r1, r2, r3⟩ := res
        dsimp only at IH hsx ⊢
        have HI := Aside0.mk IH
        have HLA := Aside0.mk hC1
        have HLL := Aside0.mk hl1
        have HS := Aside0.mk (And.intro hsx hlast)
        clear IH hC1 hl1 elast hsx hlast ih hp hl
        obtain ⟨q, eq⟩ : ∃ q, q = cutL s := ⟨_, rfl⟩
        rw [← eq] at E1 HI h2 k0 k1
        clear eq
        have hd2 : decide (a ≤ q) = true := decide_eq_true h2
        go_enter Try.func95, Try.ntmps95
        go_wp2_with (first | (go_at_call 119; refine (spec_l21Cut.calls 300 s q _ E1.out).mono ?_; rintro e w' ⟨rfl, ⟨⟨nd, rfl⟩⟩⟩) | (go_at_call 95; refine (HI.out _ (by repeat (first | exact Below.refl _ _ | apply pw_below_drewN | apply below_drew))).mono ?_; rintro e w1 ⟨AR, cR, AS, cS, rfl, hR, hS, hCR, hCS, hBR⟩; replace hR := Aside0.mk hR; replace hS := Aside0.mk hS; replace hCR := Aside0.mk hCR; replace hCS := Aside0.mk hCS; replace hBR : Aside0 (Below w.heap.size w w1) := ⟨below_step (by repeat (first | exact Below.refl _ _ | apply pw_below_drewN | apply below_drew)) hBR⟩) | (go_at_call 120; with_reducible refine (snode_calls (a := r2) (b := last) (by repeat (first | exact hCS.out | apply Kd.C_drewN | apply Kd.C_drew)) hS.out (by repeat (first | exact Kd.C_below HLA.out hBR.out | apply Kd.C_drewN | apply Kd.C_drew)) HLL.out HS.out.1.2 HS.out.2).mono ?_; rintro e w2 ⟨Aw2, cw2, rfl, hlw2, hCw2, hBw2⟩; have HBB := Aside0.mk hBw2; replace hlw2 := Aside0.mk hlw2; replace hCw2 := Aside0.mk hCw2; replace hBw2 : Aside0 (Below w.heap.size w w2) := ⟨below_step (by repeat (first | exact hBR.out | apply pw_below_drewN | apply below_drew)) hBw2⟩))
        go_ret3
        exact ⟨AR, cR, Aw2, cw2, rfl, hR.out, hlw2.out, Kd.C_below hCR.out (by repeat (first | exact HBB.out | apply pw_below_drewN | apply below_drew)), hCw2.out, hBw2.out⟩
      · rw [both_high _ _ _ _ _ _ h1 h2, ← elast]
        have hsx := both_six root bridge hl hp n (a - cutL s) (s - cutL s) false
        have IH := fun (W : World) (hb : Below w.heap.size w W) => ih (a - cutL s) (s - cutL s) false W A0 c0 (some ad) c3 (by omega) (by omega) (by omega) (by omega) (Kd.C_below HC.out hb) HL.out (by have := Kd.C_below HCT.out hb; rwa [List.take_take, Nat.min_eq_left (by omega), List.length_take, Nat.min_eq_left (by omega)] at this) (by omega)
        generalize bothL root bridge n (a - cutL s) (s - cutL s) false = res at IH hsx
        obtain ⟨r1, r2, r3⟩ := res
        dsimp only at IH hsx ⊢
        have HI := Aside0.mk IH
        have HLA := Aside0.mk hC1
        have HLL := Aside0.mk hl1
        have HS := Aside0.mk (And.intro hsx hlast)
        clear IH hC1 hl1 elast hsx hlast ih hp hl
        obtain ⟨q, eq⟩ : ∃ q, q = cutL s := ⟨_, rfl⟩
        rw [← eq] at E1 HI h2 k0 k1
        clear eq
        have hd2 : decide (a ≤ q) = false := decide_eq_false h2
        have hw2 : wrap64 (a - q) = a - q := w64 (by omega) (by omega)
        have hw3 : wrap64 (s - q) = s - q := w64 (by omega) (by omega)
        go_enter Try.func95, Try.ntmps95
        go_wp2_with (first | (go_at_call 119; refine (spec_l21Cut.calls 300 s q _ E1.out).mono ?_; rintro e w' ⟨rfl, ⟨⟨nd, rfl⟩⟩⟩) | (go_at_call 95; refine (HI.out _ (by repeat (first | exact Below.refl _ _ | apply pw_below_drewN | apply below_drew))).mono ?_; rintro e w1 ⟨AR, cR, AS, cS, rfl, hR, hS, hCR, hCS, hBR⟩; replace hR := Aside0.mk hR; replace hS := Aside0.mk hS; replace hCR := Aside0.mk hCR; replace hCS := Aside0.mk hCS; replace hBR : Aside0 (Below w.heap.size w w1) := ⟨below_step (by repeat (first | exact Below.refl _ _ | apply pw_below_drewN | apply below_drew)) hBR⟩) | (go_at_call 120; with_reducible refine (snode_calls (a := last) (b := r1) (by repeat (first | exact Kd.C_below HLA.out hBR.out | apply Kd.C_drewN | apply Kd.C_drew)) HLL.out (by repeat (first | exact hCR.out | apply Kd.C_drewN | apply Kd.C_drew)) hR.out HS.out.2 HS.out.1.1).mono ?_; rintro e w2 ⟨Aw2, cw2, rfl, hlw2, hCw2, hBw2⟩; have HBB := Aside0.mk hBw2; replace hlw2 := Aside0.mk hlw2; replace hCw2 := Aside0.mk hCw2; replace hBw2 : Aside0 (Below w.heap.size w w2) := ⟨below_step (by repeat (first | exact hBR.out | apply pw_below_drewN | apply below_drew)) hBw2⟩) | (go_at_call 120; with_reducible refine (snode_calls (a := last) (b := r2) (by repeat (first | exact Kd.C_below HLA.out hBw2.out | apply Kd.C_drewN | apply Kd.C_drew)) HLL.out (by repeat (first | exact Kd.C_below hCS.out (by repeat (first | exact HBB.out | apply pw_below_drewN | apply below_drew)) | apply Kd.C_drewN | apply Kd.C_drew)) hS.out HS.out.2 HS.out.1.2).mono ?_; rintro e w3 ⟨Aw3, cw3, rfl, hlw3, hCw3, hBw3⟩; have HBC := Aside0.mk hBw3; replace hlw3 := Aside0.mk hlw3; replace hCw3 := Aside0.mk hCw3; replace hBw3 : Aside0 (Below w.heap.size w w3) := ⟨below_step (by repeat (first | exact hBw2.out | apply pw_below_drewN | apply below_drew)) hBw3⟩))
        go_ret3
        exact ⟨Aw2, cw2, Aw3, cw3, rfl, hlw2.out, hlw3.out, Kd.C_below hCw2.out (by repeat (first | exact HBC.out | apply pw_below_drewN | apply below_drew)), hCw3.out, hBw3.out⟩
end Go.Proofs.Ytipdkendfcopiaa.Pr
