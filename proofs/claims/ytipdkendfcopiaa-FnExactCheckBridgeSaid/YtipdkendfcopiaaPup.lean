/- The root that a path comes to: walks of spec.l21Up and impl.yclimb. -/
import Derived.Test.YtipdkendfcopiaaPr0x
import Derived.Test.YtipdkendfcopiaaPdigest
import Derived.Test.YtipdkendfcopiaaPr119
import Derived.Test.YtipdkendfcopiaaPr120
import Derived.Test.YtipdkendfcopiaaPr121
import Derived.Test.YtipdkendfcopiaaPr122
import Derived.WalkSpells
namespace Go.Proofs.Ytipdkendfcopiaa.Pr
open Go.RowKit Go.Proofs.Ytipdkendfcopiaa.Read Go.Proofs.YtipdkendfcopiaaW.PrintWords Go.Proofs.YtipdkendfcopiaaW.PrintLast Go.Proofs.YtipdkendfcopiaaW.PrintMore
set_option linter.unusedVariables false
def cutL (n : Int) : Int := (impl_yhalf.f 300 n).getD 1
theorem cut_fin : ∀ n : Fin 201, 2 ≤ n.val → spec_l21Cut.f 300 (n.val : Int) = some (cutL n.val) ∧ impl_yhalf.f 300 (n.val : Int) = some (cutL n.val) ∧ 1 ≤ cutL n.val ∧ cutL n.val < n.val := by decide +kernel
theorem cut_facts (n : Int) (h0 : 2 ≤ n) (h1 : n ≤ 200) : spec_l21Cut.f 300 n = some (cutL n) ∧ impl_yhalf.f 300 n = some (cutL n) ∧ 1 ≤ cutL n ∧ cutL n < n := by
  obtain ⟨m, rfl⟩ : ∃ m : Nat, n = m := ⟨n.toNat, by omega⟩
  exact cut_fin ⟨m, by omega⟩ (by show 2 ≤ m; omega)
def nodeL (a b : List Int) : List Int := dg ([1] ++ a ++ b)
def six (b : List Int) : Prop := isBytes b ∧ b.length ≤ 16
theorem one_bytes : isBytes [1] := by
  intro x hx
  simp at hx
  omega
theorem node_six (a b : List Int) : six (nodeL a b) := ⟨dg_bytes _, by unfold nodeL; rw [dg_len]; omega⟩
theorem node_len (a b : List Int) : (nodeL a b).length = 16 := dg_len _
theorem specNode_eq (a b : List Int) (ha : six a) (hb : six b) : spec_l21Node.f 1000 a b = some (nodeL a b) := by
  have h1 := ha.2
  have h2 := hb.2
  unfold spec_l21Node.f
  simp only [Option.bind_some, if_pos (show ([1] : List Int).length + a.length < 140737488355328 by simp; omega), if_pos (show (([1] : List Int) ++ a).length + b.length < 140737488355328 by simp; omega)]
  rw [specDigest_eq _ (isBytes_append (isBytes_append one_bytes ha.1) hb.1) (by simp; omega) 1000 (by simp; omega)]
  rfl
theorem implNode_eq (a b : List Int) (ha : six a) (hb : six b) : impl_yboth.f a b = some (nodeL a b) := by
  have h1 := ha.2
  have h2 := hb.2
  have hf : ([[1], a, b] : List (List Int)).flatten = [1] ++ a ++ b := by simp
  have e : slices_Concat_byte_byte.f [[1], a, b] = some ([1] ++ a ++ b) := by
    unfold slices_Concat_byte_byte.f
    rw [hf, if_pos (by simp; omega)]
  unfold impl_yboth.f
  rw [e, Option.bind_some, implDigest_eq _ (isBytes_append (isBytes_append one_bytes ha.1) hb.1) (by simp; omega)]
  rfl
attribute [irreducible] nodeL
/-- What the first n of a path come to. -/
def upL (leaf : List Int) (path : List (List Int)) : Nat → Int → Int → List Int × Bool
  | 0, _, size => if size = 1 then (leaf, true) else ([], false)
  | n + 1, at_, size => if size = 1 then (leaf, false) else if at_ < cutL size then (nodeL (upL leaf path n at_ (cutL size)).1 (rd_L2 path n), (upL leaf path n at_ (cutL size)).2) else (nodeL (rd_L2 path n) (upL leaf path n (at_ - cutL size) (size - cutL size)).1, (upL leaf path n (at_ - cutL size) (size - cutL size)).2)
theorem up_one (leaf : List Int) (path : List (List Int)) (n : Nat) (a : Int) : upL leaf path (n + 1) a 1 = (leaf, false) := if_pos rfl
theorem up_low (leaf : List Int) (path : List (List Int)) (n : Nat) (a s : Int) (h1 : s ≠ 1) (h2 : a < cutL s) : upL leaf path (n + 1) a s = (nodeL (upL leaf path n a (cutL s)).1 (rd_L2 path n), (upL leaf path n a (cutL s)).2) := (if_neg h1).trans (if_pos h2)
theorem up_high (leaf : List Int) (path : List (List Int)) (n : Nat) (a s : Int) (h1 : s ≠ 1) (h2 : ¬ a < cutL s) : upL leaf path (n + 1) a s = (nodeL (rd_L2 path n) (upL leaf path n (a - cutL s) (s - cutL s)).1, (upL leaf path n (a - cutL s) (s - cutL s)).2) := (if_neg h1).trans (if_neg h2)
theorem nil_six : six [] := ⟨fun x hx => absurd hx List.not_mem_nil, Nat.zero_le _⟩
theorem up_six (leaf : List Int) (path : List (List Int)) (hl : six leaf) (n : Nat) (a s : Int) : six (upL leaf path n a s).1 := by
  cases n with
  | zero =>
    by_cases h : s = 1
    · rw [show upL leaf path 0 a s = (leaf, true) from if_pos h]; exact hl
    · rw [show upL leaf path 0 a s = ([], false) from if_neg h]; exact nil_six
  | succ n =>
    by_cases h : s = 1
    · subst h
      rw [up_one]; exact hl
    · by_cases h2 : a < cutL s
      · rw [up_low _ _ _ _ _ h h2]; exact node_six _ _
      · rw [up_high _ _ _ _ _ h h2]; exact node_six _ _
theorem rd_take {path : List (List Int)} {n : Nat} (h : n < path.length) : rd_L2 (path.take (n + 1)) (n : Int) = rd_L2 path n := by
  simp [rd_L2, List.getD_eq_getElem?_getD]
theorem rd_six {path : List (List Int)} (hp : ∀ b ∈ path, six b) {n : Nat} (h : n < path.length) : six (rd_L2 path n) := by
  refine hp _ ?_
  simp [rd_L2, List.getD_eq_getElem?_getD, List.getElem?_eq_getElem h]
set_option maxHeartbeats 2000000 in
set_option maxRecDepth 100000 in
theorem specUp_calls (leaf : List Int) (path : List (List Int)) (hl : six leaf) (hp : ∀ b ∈ path, six b) : ∀ (n : Nat) (a s : Int) (w : World) (A0 : Option Addr) (c0 : Nat) (A3 : Option Addr) (c3 : Nat), n ≤ path.length → 0 ≤ a → a < s → s ≤ 200 → Kd.C (Kd.int .u8) w A0 leaf.length leaf → leaf.length ≤ c0 → Kd.C (Kd.slice 5 (Kd.int .u8)) w A3 n (path.take n) → n ≤ c3 →
    Calls Try.prog 91 #[.slice A0 leaf.length c0, .int .i64 a, .int .i64 s, .slice A3 n c3] w fun e w' => ∃ (A : Option Addr) (c : Nat), e = .returned (.tuple #[.slice A (upL leaf path n a s).1.length c, .bool (upL leaf path n a s).2]) ∧ (upL leaf path n a s).1.length ≤ c ∧ Kd.C (Kd.int .u8) w' A (upL leaf path n a s).1.length (upL leaf path n a s).1 ∧ Below w.heap.size w w' := by
  intro n
  induction n with
  | zero =>
    intro a s w A0 c0 A3 c3 hn ha0 ha1 hs hC hc hC3 hc3
    have HC := Aside0.mk hC
    have HL := Aside0.mk hc
    clear hC hc hC3 hc3
    by_cases h1 : s = 1
    · subst h1
      rw [show upL leaf path 0 a 1 = (leaf, true) from if_pos rfl]
      go_enter Try.func91, Try.ntmps91
      go_wp2
      go_ret2
      exact ⟨A0, c0, rfl, HL.out, HC.out, Below.refl _ _⟩
    · rw [show upL leaf path 0 a s = ([], false) from if_neg h1]
      go_enter Try.func91, Try.ntmps91
      go_wp2
      go_ret2
      exact ⟨none, 0, rfl, by simp, Kd.C_nil _ _, Below.refl _ _⟩
  | succ n ih =>
    intro a s w A0 c0 A3 c3 hn ha0 ha1 hs hC hc hC3 hc3
    have HC := Aside0.mk hC
    have HL := Aside0.mk hc
    have HC3 := Aside0.mk hC3
    by_cases h1 : s = 1
    · subst h1
      rw [show upL leaf path (n + 1) a 1 = (leaf, false) from if_pos rfl]
      clear hC hc hC3
      go_enter Try.func91, Try.ntmps91
      go_wp2
      go_ret2
      exact ⟨A0, c0, rfl, HL.out, HC.out, Below.refl _ _⟩
    · obtain ⟨e1, _, k0, k1⟩ := cut_facts s (by omega) hs
      obtain ⟨ad, A1, c1, rfl, hcell, hl1, hC1⟩ := at_L2 hC3 (n : Int) (by omega) (by omega)
      rw [rd_take (by omega)] at hcell hl1 hC1
      rw [Int.toNat_natCast] at hcell
      obtain ⟨last, elast⟩ : ∃ x, x = rd_L2 path n := ⟨_, rfl⟩
      rw [← elast] at hcell hl1 hC1
      have hlast : six last := by rw [elast]; exact rd_six hp (by omega)
      have HCT := Aside0.mk (Kd.C_take (m := n) (by rw [List.length_take, Nat.min_eq_left hn]; exact hC3) (by rw [List.length_take, Nat.min_eq_left hn]; omega))
      have HM := Aside0.mk (Kd.C_max hC3)
      clear hC hc hC3
      by_cases h2 : a < cutL s
      · rw [up_low _ _ _ _ _ h1 h2, ← elast]
        have hsx := up_six leaf path hl n a (cutL s)
        have IH := fun (W : World) (hb : Below w.heap.size w W) => ih a (cutL s) W A0 c0 (some ad) c3 (by omega) ha0 h2 (by omega) (Kd.C_below HC.out hb) HL.out (by have := Kd.C_below HCT.out hb; rwa [List.take_take, Nat.min_eq_left (by omega), List.length_take, Nat.min_eq_left (by omega)] at this) (by omega)
        generalize upL leaf path n a (cutL s) = res at IH hsx
        obtain ⟨r1, r2⟩ := res
        dsimp only at IH hsx ⊢
        have hnode := specNode_eq r1 last hsx hlast
        have HN := Aside0.mk hnode
        have HI := Aside0.mk IH
        have HLA := Aside0.mk hC1
        have E1 := Aside0.mk e1
        have EL := Aside0.mk elast
        have HS := Aside0.mk (And.intro hsx hlast)
        clear hnode IH hC1 e1 elast hsx hlast ih
        obtain ⟨q, eq⟩ : ∃ q, q = cutL s := ⟨_, rfl⟩
        rw [← eq] at E1 HI h2 k0 k1
        clear eq
        have hm := HM.out
        have hw1 : wrap64 (n : Int) = (n : Int) := w64 (by omega) (by omega)
        go_enter Try.func91, Try.ntmps91
        go_wp2_with (first | (go_at_call 119; refine (spec_l21Cut.calls 300 s q _ E1.out).mono ?_; rintro e w' ⟨rfl, ⟨⟨nd, rfl⟩⟩⟩) | (go_at_call 91; refine (HI.out _ (by repeat (first | exact Below.refl _ _ | apply pw_below_drewN | apply below_drew))).mono ?_; rintro e w1 ⟨AR, cR, rfl, hR, hCR, hBR⟩; replace hR := Aside0.mk hR; replace hCR := Aside0.mk hCR; replace hBR : Aside0 (Below w.heap.size w w1) := ⟨below_step (by repeat (first | exact Below.refl _ _ | apply pw_below_drewN | apply below_drew)) hBR⟩) | (go_at_call 120; refine (spec_l21Node.calls 1000 AR cR r1 A1 c1 last (nodeL r1 last) _ (by repeat (first | exact hCR.out | apply Kd.C_drewN | apply Kd.C_drew)) hR.out (by repeat (first | exact Kd.C_below HLA.out hBR.out | apply Kd.C_drewN | apply Kd.C_drew)) hl1 HN.out).mono ?_; rintro e w2 ⟨v2, rfl, hR2, hB2⟩; obtain ⟨A2, c2, rfl⟩ := Kd.R_slice hR2; replace hR2 := Aside0.mk hR2; replace hB2 : Aside0 (Below w.heap.size w w2) := ⟨below_step (by repeat (first | exact hBR.out | apply pw_below_drewN | apply below_drew)) hB2⟩))
        go_ret2
        obtain ⟨A', c', he, hc', hC'⟩ := Kd.R_reads hR2.out
        injection he with i1 i2 i3
        subst i1 i3
        exact ⟨_, _, rfl, hc', hC', hB2.out⟩
      · rw [up_high _ _ _ _ _ h1 h2, ← elast]
        have hsx := up_six leaf path hl n (a - cutL s) (s - cutL s)
        have IH := fun (W : World) (hb : Below w.heap.size w W) => ih (a - cutL s) (s - cutL s) W A0 c0 (some ad) c3 (by omega) (by omega) (by omega) (by omega) (Kd.C_below HC.out hb) HL.out (by have := Kd.C_below HCT.out hb; rwa [List.take_take, Nat.min_eq_left (by omega), List.length_take, Nat.min_eq_left (by omega)] at this) (by omega)
        generalize upL leaf path n (a - cutL s) (s - cutL s) = res at IH hsx
        obtain ⟨r1, r2⟩ := res
        dsimp only at IH hsx ⊢
        have hnode := specNode_eq last r1 hlast hsx
        have HN := Aside0.mk hnode
        have HI := Aside0.mk IH
        have HLA := Aside0.mk hC1
        have E1 := Aside0.mk e1
        have EL := Aside0.mk elast
        have HS := Aside0.mk (And.intro hsx hlast)
        clear hnode IH hC1 e1 elast hsx hlast ih
        obtain ⟨q, eq⟩ : ∃ q, q = cutL s := ⟨_, rfl⟩
        rw [← eq] at E1 HI h2 k0 k1
        clear eq
        have hm := HM.out
        have hw1 : wrap64 (n : Int) = (n : Int) := w64 (by omega) (by omega)
        have hw2 : wrap64 (a - q) = a - q := w64 (by omega) (by omega)
        have hw3 : wrap64 (s - q) = s - q := w64 (by omega) (by omega)
        go_enter Try.func91, Try.ntmps91
        go_wp2_with (first | (go_at_call 119; refine (spec_l21Cut.calls 300 s q _ E1.out).mono ?_; rintro e w' ⟨rfl, ⟨⟨nd, rfl⟩⟩⟩) | (go_at_call 91; refine (HI.out _ (by repeat (first | exact Below.refl _ _ | apply pw_below_drewN | apply below_drew))).mono ?_; rintro e w1 ⟨AR, cR, rfl, hR, hCR, hBR⟩; replace hR := Aside0.mk hR; replace hCR := Aside0.mk hCR; replace hBR : Aside0 (Below w.heap.size w w1) := ⟨below_step (by repeat (first | exact Below.refl _ _ | apply pw_below_drewN | apply below_drew)) hBR⟩) | (go_at_call 120; refine (spec_l21Node.calls 1000 A1 c1 last AR cR r1 (nodeL last r1) _ (by repeat (first | exact Kd.C_below HLA.out hBR.out | apply Kd.C_drewN | apply Kd.C_drew)) hl1 (by repeat (first | exact hCR.out | apply Kd.C_drewN | apply Kd.C_drew)) hR.out HN.out).mono ?_; rintro e w2 ⟨v2, rfl, hR2, hB2⟩; obtain ⟨A2, c2, rfl⟩ := Kd.R_slice hR2; replace hR2 := Aside0.mk hR2; replace hB2 : Aside0 (Below w.heap.size w w2) := ⟨below_step (by repeat (first | exact hBR.out | apply pw_below_drewN | apply below_drew)) hB2⟩))
        go_ret2
        obtain ⟨A', c', he, hc', hC'⟩ := Kd.R_reads hR2.out
        injection he with i1 i2 i3
        subst i1 i3
        exact ⟨_, _, rfl, hc', hC', hB2.out⟩
end Go.Proofs.Ytipdkendfcopiaa.Pr
