/- The two roots that a bridge comes to: what spec.l21Both and impl.ycross compute; nodes' contracts in a form for hand walks. -/
import Derived.Test.YtipdkendfcopiaaPup
import Derived.Test.YtipdkendfcopiaaPclimb
namespace Go.Proofs.Ytipdkendfcopiaa.Pr
open Go.RowKit Go.Proofs.Ytipdkendfcopiaa.Read Go.Proofs.YtipdkendfcopiaaW.PrintWords Go.Proofs.YtipdkendfcopiaaW.PrintLast Go.Proofs.YtipdkendfcopiaaW.PrintMore
set_option linter.unusedVariables false
/-- The roots of old and of size by the first n of a bridge; false: too long or too short. -/
def bothL (root : List Int) (bridge : List (List Int)) : Nat → Int → Int → Bool → List Int × List Int × Bool
  | 0, old, size, whole => if old = size then (if whole = true then (root, root, true) else ([], [], false)) else ([], [], false)
  | n + 1, old, size, whole => if old = size then (if whole = true then (root, root, false) else if n = 0 then (rd_L2 bridge (0 : Nat), rd_L2 bridge (0 : Nat), true) else ([], [], false)) else if old ≤ cutL size then ((bothL root bridge n old (cutL size) whole).1, nodeL (bothL root bridge n old (cutL size) whole).2.1 (rd_L2 bridge n), (bothL root bridge n old (cutL size) whole).2.2) else (nodeL (rd_L2 bridge n) (bothL root bridge n (old - cutL size) (size - cutL size) false).1, nodeL (rd_L2 bridge n) (bothL root bridge n (old - cutL size) (size - cutL size) false).2.1, (bothL root bridge n (old - cutL size) (size - cutL size) false).2.2)
theorem both_low (root : List Int) (bridge : List (List Int)) (n : Nat) (a s : Int) (b : Bool) (h1 : a ≠ s) (h2 : a ≤ cutL s) : bothL root bridge (n + 1) a s b = ((bothL root bridge n a (cutL s) b).1, nodeL (bothL root bridge n a (cutL s) b).2.1 (rd_L2 bridge n), (bothL root bridge n a (cutL s) b).2.2) := (if_neg h1).trans (if_pos h2)
theorem both_high (root : List Int) (bridge : List (List Int)) (n : Nat) (a s : Int) (b : Bool) (h1 : a ≠ s) (h2 : ¬ a ≤ cutL s) : bothL root bridge (n + 1) a s b = (nodeL (rd_L2 bridge n) (bothL root bridge n (a - cutL s) (s - cutL s) false).1, nodeL (rd_L2 bridge n) (bothL root bridge n (a - cutL s) (s - cutL s) false).2.1, (bothL root bridge n (a - cutL s) (s - cutL s) false).2.2) := (if_neg h1).trans (if_neg h2)
theorem rd_all_six {bridge : List (List Int)} (hp : ∀ b ∈ bridge, six b) (n : Nat) : six (rd_L2 bridge n) := by
  rcases Nat.lt_or_ge n bridge.length with h | h
  · exact rd_six hp h
  · have : rd_L2 bridge n = [] := by simp [rd_L2, List.getD_eq_getElem?_getD, List.getElem?_eq_none h]
    rw [this]; exact nil_six
theorem both_six (root : List Int) (bridge : List (List Int)) (hl : six root) (hp : ∀ b ∈ bridge, six b) : ∀ (n : Nat) (a s : Int) (b : Bool), six (bothL root bridge n a s b).1 ∧ six (bothL root bridge n a s b).2.1 := by
  intro n
  induction n with
  | zero =>
    intro a s b
    unfold bothL
    split
    · split
      · exact ⟨hl, hl⟩
      · exact ⟨nil_six, nil_six⟩
    · exact ⟨nil_six, nil_six⟩
  | succ n ih =>
    intro a s b
    unfold bothL
    split
    · split
      · exact ⟨hl, hl⟩
      · split
        · exact ⟨rd_all_six hp 0, rd_all_six hp 0⟩
        · exact ⟨nil_six, nil_six⟩
    · split
      · exact ⟨(ih _ _ _).1, node_six _ _⟩
      · exact ⟨node_six _ _, node_six _ _⟩
theorem snode_calls {A1 A2 : Option Addr} {c1 c2 : Nat} {a b : List Int} {W : World} (h1 : Kd.C (Kd.int .u8) W A1 a.length a) (l1 : a.length ≤ c1) (h2 : Kd.C (Kd.int .u8) W A2 b.length b) (l2 : b.length ≤ c2) (s1 : six a) (s2 : six b) :
    Calls Try.prog 120 #[.slice A1 a.length c1, .slice A2 b.length c2] W fun e w' => ∃ (A : Option Addr) (c : Nat), e = .returned (.slice A (nodeL a b).length c) ∧ (nodeL a b).length ≤ c ∧ Kd.C (Kd.int .u8) w' A (nodeL a b).length (nodeL a b) ∧ Below W.heap.size W w' := by
  refine (spec_l21Node.calls 1000 A1 c1 a A2 c2 b (nodeL a b) W h1 l1 h2 l2 (specNode_eq a b s1 s2)).mono ?_
  rintro e w' ⟨v, rfl, hR, hB⟩
  obtain ⟨A', c', rfl, hc', hC'⟩ := Kd.R_reads hR
  exact ⟨A', c', rfl, hc', hC', hB⟩
theorem inode_calls {A1 A2 : Option Addr} {c1 c2 : Nat} {a b : List Int} {W : World} (h1 : Kd.C (Kd.int .u8) W A1 a.length a) (l1 : a.length ≤ c1) (h2 : Kd.C (Kd.int .u8) W A2 b.length b) (l2 : b.length ≤ c2) (s1 : six a) (s2 : six b) :
    Calls Try.prog 122 #[.slice A1 a.length c1, .slice A2 b.length c2] W fun e w' => ∃ (A : Option Addr) (c : Nat), e = .returned (.slice A (nodeL a b).length c) ∧ (nodeL a b).length ≤ c ∧ Kd.C (Kd.int .u8) w' A (nodeL a b).length (nodeL a b) ∧ Below W.heap.size W w' := by
  refine (impl_yboth.calls (fun _ => True) A1 c1 a (fun _ => True) A2 c2 b (nodeL a b) W (V_of_C h1 l1) (V_of_C h2 l2) (implNode_eq a b s1 s2)).mono ?_
  rintro e w' ⟨v, rfl, hR, hB⟩
  obtain ⟨A', c', rfl, hc', hC'⟩ := Kd.R_reads hR
  exact ⟨A', c', rfl, hc', hC', hB⟩
end Go.Proofs.Ytipdkendfcopiaa.Pr
