/- The walk of impl.yclimb: nil where the path has not as many as it is to have. -/
import Derived.Test.YtipdkendfcopiaaPup
import Derived.StillTailTactics
import Derived.Deep.RegionHeld3
namespace Go.Proofs.Ytipdkendfcopiaa.Pr
open Go.RowKit Go.Proofs.Ytipdkendfcopiaa.Read Go.Proofs.YtipdkendfcopiaaW.PrintWords Go.Proofs.YtipdkendfcopiaaW.PrintLast Go.Proofs.YtipdkendfcopiaaW.PrintMore
set_option linter.unusedVariables false
theorem V_of_C {w : World} {A : Option Addr} {c : Nat} {xs : List Int} {e base : Nat} (h : Kd.C (Kd.int .u8) w A xs.length xs) (hc : xs.length ≤ c) : Kd.V (Kd.int .u8) e w base (fun k_ => (fun _ => True) k_) (.slice A xs.length c) xs :=
  Kd.V_mk hc (fun W' hW => Kd.Heap.C (Kd.heap_int .u8) (fun k hk => hW k trivial hk) h)
structure ClimbPost (w : World) (r : List Int × Bool) (e : Ending) (w' : World) : Prop where
  yes : r.2 = true → ∃ ad c, e = .returned (.slice (some ad) r.1.length c) ∧ r.1.length ≤ c ∧ Kd.C (Kd.int .u8) w' (some ad) r.1.length r.1
  no : r.2 = false → e = .returned (.slice none 0 0)
  below : Below w.heap.size w w'
set_option maxHeartbeats 2000000 in
set_option maxRecDepth 100000 in
theorem climb_calls (leaf : List Int) (path : List (List Int)) (hl : six leaf) (hl2 : 0 < leaf.length) (hp : ∀ b ∈ path, six b) : ∀ (n : Nat) (a s : Int) (w : World) (A0 : Option Addr) (c0 : Nat) (A3 : Option Addr) (c3 : Nat), n ≤ path.length → 0 ≤ a → a < s → s ≤ 200 → Kd.C (Kd.int .u8) w A0 leaf.length leaf → leaf.length ≤ c0 → Kd.C (Kd.slice 5 (Kd.int .u8)) w A3 n (path.take n) → n ≤ c3 →
    Calls Try.prog 93 #[.slice A0 leaf.length c0, .int .i64 a, .int .i64 s, .slice A3 n c3] w fun e w' => ClimbPost w (upL leaf path n a s) e w' := by
  intro n
  induction n with
  | zero =>
    intro a s w A0 c0 A3 c3 hn ha0 ha1 hs hC hc hC3 hc3
    have HC := Aside0.mk hC
    have HL := Aside0.mk hc
    obtain ⟨ad, rfl, _⟩ := hC.2.2 hl2
    clear hC hc hC3 hc3
    by_cases h1 : s = 1
    · subst h1
      rw [show upL leaf path 0 a 1 = (leaf, true) from if_pos rfl]
      go_enter Try.func93, Try.ntmps93
      go_wp2
      go_ret
      exact ⟨fun _ => ⟨ad, c0, rfl, HL.out, HC.out⟩, fun h => Bool.noConfusion h, Below.refl _ _⟩
    · rw [show upL leaf path 0 a s = ([], false) from if_neg h1]
      go_enter Try.func93, Try.ntmps93
      go_wp2
      go_ret
      exact ⟨fun h => Bool.noConfusion h, fun _ => rfl, Below.refl _ _⟩
  | succ n ih =>
    intro a s w A0 c0 A3 c3 hn ha0 ha1 hs hC hc hC3 hc3
    have HC := Aside0.mk hC
    have HL := Aside0.mk hc
    have HC3 := Aside0.mk hC3
    by_cases h1 : s = 1
    · subst h1
      rw [show upL leaf path (n + 1) a 1 = (leaf, false) from if_pos rfl]
      clear hC hc hC3
      go_enter Try.func93, Try.ntmps93
      go_wp2
      go_ret
      exact ⟨fun h => Bool.noConfusion h, fun _ => rfl, Below.refl _ _⟩
    · obtain ⟨_, e1, k0, k1⟩ := cut_facts s (by omega) hs
      obtain ⟨ad, A1, c1, rfl, hcell, hl1, hC1⟩ := at_L2 hC3 (n : Int) (by omega) (by omega)
      rw [rd_take (by omega)] at hcell hl1 hC1
      rw [Int.toNat_natCast] at hcell
      obtain ⟨last, elast⟩ : ∃ x, x = rd_L2 path n := ⟨_, rfl⟩
      rw [← elast] at hcell hl1 hC1
      have hlast : six last := by rw [elast]; exact rd_six hp (by omega)
      have HCT := Aside0.mk (Kd.C_take (m := n) (by rw [List.length_take, Nat.min_eq_left hn]; exact hC3) (by rw [List.length_take, Nat.min_eq_left hn]; omega))
      have HM := Aside0.mk (Kd.C_max hC3)
      clear hC hc hC3
      have hm := HM.out
      have hw1 : wrap64 (n : Int) = (n : Int) := w64 (by omega) (by omega)
      have hw4 : wrap64 ((n : Int) + 1 - 1) = (n : Int) := by rw [show (n : Int) + 1 - 1 = n by omega]; exact hw1
      have hw5 : IntKind.i64.wrap ((n : Int) + 1 - 1) = (n : Int) := by rw [show (n : Int) + 1 - 1 = n by omega]; exact IntWalk.i64_in _ (by omega)
      have hw6 : IntKind.i64.wrap (n : Int) = (n : Int) := IntWalk.i64_in _ (by omega)
      have hb0 : (0 : Int) ≤ (n : Int) := by omega
      have hb1 : (n : Int) < (n : Int) + 1 := by omega
      have hs1 : (s == 1) = false := beq_eq_false_iff_ne.2 h1
      have hn1 : ((n : Int) + 1 == 0) = false := beq_eq_false_iff_ne.2 (by omega)
      have E1 := Aside0.mk e1
      clear e1
      by_cases h2 : a < cutL s
      · rw [up_low _ _ _ _ _ h1 h2, ← elast]
        have hsx := up_six leaf path hl n a (cutL s)
        have IH := fun (W : World) (hb : Below w.heap.size w W) => ih a (cutL s) W A0 c0 (some ad) c3 (by omega) (by omega) (by omega) (by omega) (Kd.C_below HC.out hb) HL.out (by have := Kd.C_below HCT.out hb; rwa [List.take_take, Nat.min_eq_left (by omega), List.length_take, Nat.min_eq_left (by omega)] at this) (by omega)
        generalize upL leaf path n a (cutL s) = res at IH hsx
        obtain ⟨r1, r2⟩ := res
        dsimp only at IH hsx ⊢
        have HN := Aside0.mk (implNode_eq r1 last hsx hlast)
        have hlen := node_len r1 last
        have HI := Aside0.mk IH
        have HLA := Aside0.mk hC1
        have EL := Aside0.mk elast
        clear IH hC1 elast hsx hlast ih
        obtain ⟨q, eq⟩ : ∃ q, q = cutL s := ⟨_, rfl⟩
        rw [← eq] at E1 HI h2 k0 k1
        clear eq
        obtain ⟨nd_, end_⟩ : ∃ x, x = nodeL r1 last := ⟨_, rfl⟩
        rw [← end_] at HN hlen ⊢
        have HNL := Aside0.mk hlen
        have END := Aside0.mk end_
        clear hlen end_
        cases r2 with
        | true =>
          have qe := fun (W : World) (ad' : Addr) (c' : Nat) => Lib.run_eql_slice_nil (P := Try.prog) W 22 5 (some ad') r1.length c' 0 0 Try.underlying22
          go_enter Try.func93, Try.ntmps93
          go_wp2
          go_region_held3 (fun w' => w'.cell? (ad.add n) = some (.slice A1 last.length c1)) (go_keep) (first | (go_at_call 121; refine (impl_yhalf.calls 300 s q _ E1.out).mono ?_; rintro e w' ⟨rfl, ⟨⟨nd, rfl⟩⟩⟩))
          go_wp2_with (first | (go_at_call 93; refine (HI.out _ (by repeat (first | exact Below.refl _ _ | apply pw_below_drewN | apply below_drew))).mono ?_; rintro e w1 hpost; obtain ⟨AR, cR, rfl, hR, hCR⟩ := hpost.yes rfl; have hBR0 := hpost.below; clear hpost; replace hR := Aside0.mk hR; replace hCR := Aside0.mk hCR; have hBR : Aside0 (Below w.heap.size w w1) := ⟨below_step (by repeat (first | exact Below.refl _ _ | apply pw_below_drewN | apply below_drew)) hBR0⟩; clear hBR0) | (go_at_call 122; refine (impl_yboth.calls (fun _ => True) (some AR) cR r1 (fun _ => True) A1 c1 last nd_ _ (V_of_C (by repeat (first | exact hCR.out | apply Kd.C_drewN | apply Kd.C_drew)) hR.out) (V_of_C (by repeat (first | exact Kd.C_below HLA.out hBR.out | apply Kd.C_drewN | apply Kd.C_drew)) hl1) HN.out).mono ?_; rintro e w2 ⟨v2, rfl, hR2, hB2⟩; obtain ⟨A2, c2, rfl⟩ := Kd.R_slice hR2; replace hR2 := Aside0.mk hR2; replace hB2 : Aside0 (Below w.heap.size w w2) := ⟨below_step (by repeat (first | exact hBR.out | apply pw_below_drewN | apply below_drew)) hB2⟩))
          go_ret
          obtain ⟨A', c', he, hc', hC'⟩ := Kd.R_reads hR2.out
          injection he with i1 i2 i3
          subst i1 i3
          obtain ⟨ad2, rfl, _⟩ := hC'.2.2 (by rw [HNL.out]; omega)
          exact ⟨fun _ => ⟨ad2, _, rfl, hc', hC'⟩, fun h => Bool.noConfusion h, by repeat (first | exact hB2.out | apply pw_below_drewN | apply below_drew)⟩
        | false =>
          have qe := fun (W : World) => Lib.run_eql_slice_nil (P := Try.prog) W 22 5 none 0 0 0 0 Try.underlying22
          go_enter Try.func93, Try.ntmps93
          go_wp2
          go_region_held3 (fun w' => w'.cell? (ad.add n) = some (.slice A1 last.length c1)) (go_keep) (first | (go_at_call 121; refine (impl_yhalf.calls 300 s q _ E1.out).mono ?_; rintro e w' ⟨rfl, ⟨⟨nd, rfl⟩⟩⟩))
          go_wp2_with (first | (go_at_call 93; refine (HI.out _ (by repeat (first | exact Below.refl _ _ | apply pw_below_drewN | apply below_drew))).mono ?_; rintro e w1 hpost; obtain rfl := hpost.no rfl; have hBR0 := hpost.below; clear hpost; have hBR : Aside0 (Below w.heap.size w w1) := ⟨below_step (by repeat (first | exact Below.refl _ _ | apply pw_below_drewN | apply below_drew)) hBR0⟩; clear hBR0))
          go_ret
          exact ⟨fun h => Bool.noConfusion h, fun _ => rfl, by repeat (first | exact hBR.out | apply pw_below_drewN | apply below_drew)⟩
      · rw [up_high _ _ _ _ _ h1 h2, ← elast]
        have hsx := up_six leaf path hl n (a - cutL s) (s - cutL s)
        have IH := fun (W : World) (hb : Below w.heap.size w W) => ih (a - cutL s) (s - cutL s) W A0 c0 (some ad) c3 (by omega) (by omega) (by omega) (by omega) (Kd.C_below HC.out hb) HL.out (by have := Kd.C_below HCT.out hb; rwa [List.take_take, Nat.min_eq_left (by omega), List.length_take, Nat.min_eq_left (by omega)] at this) (by omega)
        generalize upL leaf path n (a - cutL s) (s - cutL s) = res at IH hsx
        obtain ⟨r1, r2⟩ := res
        dsimp only at IH hsx ⊢
        have HN := Aside0.mk (implNode_eq last r1 hlast hsx)
        have hlen := node_len last r1
        have HI := Aside0.mk IH
        have HLA := Aside0.mk hC1
        have EL := Aside0.mk elast
        clear IH hC1 elast hsx hlast ih
        obtain ⟨q, eq⟩ : ∃ q, q = cutL s := ⟨_, rfl⟩
        rw [← eq] at E1 HI h2 k0 k1
        clear eq
        obtain ⟨nd_, end_⟩ : ∃ x, x = nodeL last r1 := ⟨_, rfl⟩
        rw [← end_] at HN hlen ⊢
        have HNL := Aside0.mk hlen
        have END := Aside0.mk end_
        clear hlen end_
        have hw2 : wrap64 (a - q) = a - q := w64 (by omega) (by omega)
        have hw3 : wrap64 (s - q) = s - q := w64 (by omega) (by omega)
        cases r2 with
        | true =>
          have qe := fun (W : World) (ad' : Addr) (c' : Nat) => Lib.run_eql_slice_nil (P := Try.prog) W 22 5 (some ad') r1.length c' 0 0 Try.underlying22
          go_enter Try.func93, Try.ntmps93
          go_wp2
          go_region_held3 (fun w' => w'.cell? (ad.add n) = some (.slice A1 last.length c1)) (go_keep) (first | (go_at_call 121; refine (impl_yhalf.calls 300 s q _ E1.out).mono ?_; rintro e w' ⟨rfl, ⟨⟨nd, rfl⟩⟩⟩))
          go_wp2_with (first | (go_at_call 93; refine (HI.out _ (by repeat (first | exact Below.refl _ _ | apply pw_below_drewN | apply below_drew))).mono ?_; rintro e w1 hpost; obtain ⟨AR, cR, rfl, hR, hCR⟩ := hpost.yes rfl; have hBR0 := hpost.below; clear hpost; replace hR := Aside0.mk hR; replace hCR := Aside0.mk hCR; have hBR : Aside0 (Below w.heap.size w w1) := ⟨below_step (by repeat (first | exact Below.refl _ _ | apply pw_below_drewN | apply below_drew)) hBR0⟩; clear hBR0) | (go_at_call 122; refine (impl_yboth.calls (fun _ => True) A1 c1 last (fun _ => True) (some AR) cR r1 nd_ _ (V_of_C (by repeat (first | exact Kd.C_below HLA.out hBR.out | apply Kd.C_drewN | apply Kd.C_drew)) hl1) (V_of_C (by repeat (first | exact hCR.out | apply Kd.C_drewN | apply Kd.C_drew)) hR.out) HN.out).mono ?_; rintro e w2 ⟨v2, rfl, hR2, hB2⟩; obtain ⟨A2, c2, rfl⟩ := Kd.R_slice hR2; replace hR2 := Aside0.mk hR2; replace hB2 : Aside0 (Below w.heap.size w w2) := ⟨below_step (by repeat (first | exact hBR.out | apply pw_below_drewN | apply below_drew)) hB2⟩))
          go_ret
          obtain ⟨A', c', he, hc', hC'⟩ := Kd.R_reads hR2.out
          injection he with i1 i2 i3
          subst i1 i3
          obtain ⟨ad2, rfl, _⟩ := hC'.2.2 (by rw [HNL.out]; omega)
          exact ⟨fun _ => ⟨ad2, _, rfl, hc', hC'⟩, fun h => Bool.noConfusion h, by repeat (first | exact hB2.out | apply pw_below_drewN | apply below_drew)⟩
        | false =>
          have qe := fun (W : World) => Lib.run_eql_slice_nil (P := Try.prog) W 22 5 none 0 0 0 0 Try.underlying22
          go_enter Try.func93, Try.ntmps93
          go_wp2
          go_region_held3 (fun w' => w'.cell? (ad.add n) = some (.slice A1 last.length c1)) (go_keep) (first | (go_at_call 121; refine (impl_yhalf.calls 300 s q _ E1.out).mono ?_; rintro e w' ⟨rfl, ⟨⟨nd, rfl⟩⟩⟩))
          go_wp2_with (first | (go_at_call 93; refine (HI.out _ (by repeat (first | exact Below.refl _ _ | apply pw_below_drewN | apply below_drew))).mono ?_; rintro e w1 hpost; obtain rfl := hpost.no rfl; have hBR0 := hpost.below; clear hpost; have hBR : Aside0 (Below w.heap.size w w1) := ⟨below_step (by repeat (first | exact Below.refl _ _ | apply pw_below_drewN | apply below_drew)) hBR0⟩; clear hBR0))
          go_ret
          exact ⟨fun h => Bool.noConfusion h, fun _ => rfl, by repeat (first | exact hBR.out | apply pw_below_drewN | apply below_drew)⟩
end Go.Proofs.Ytipdkendfcopiaa.Pr
