/- The law FnExactVerifierOf: whatever the input, the call returns true and the arguments read as before. No conditions. -/
import Derived.Test.YtgolcojhnklfdaaDoorRead
import Derived.Test.YtgolcojhnklfdaaDoorPr3
import Derived.Test.YtgolcojhnklfdaaDoorPrgByteS
import Derived.Test.YtgolcojhnklfdaaDoorHitoa
import Derived.Test.YtgolcojhnklfdaaDoorPr22
import Derived.Test.YtgolcojhnklfdaaDoorRows
import Derived.Test.YtgolcojhnklfdaaDoorCards
import Derived.Test.YtgolcojhnklfdaaDoorTie
import Derived.WalkKit
import Derived.ProofKit
import Derived.OpenShut
import Derived.ShutString
import Derived.ChangeOld
import Derived.Below
import Derived.SevenTiedAt
import Derived.Stop.LaidErr
import Derived.Lib.LaidTab
/- The pure statement of the law FnExactVerifierOf. -/
namespace Go.Proofs.YtgolcojhnklfdaaDoor.Pr
open Go.RowKit Go.Proofs.YtgolcojhnklfdaaDoor.Read Go.Proofs.YtgolcojhnklfdaaDoorW.PrintWords
set_option linter.unusedVariables false
/-- What is left of the law FnExactVerifierOf: a statement about numbers and lists. -/
def laws_FnExactVerifierOf.Pure : Prop := ∀ (a0 : ByteArray) (a1 : Int), okS a0 → okI a1 → ∃ k, laws_FnExactVerifierOf.f k a0 a1 = some true
end Go.Proofs.YtgolcojhnklfdaaDoor.Pr
/- The helpers over slices of bytes: copied, compared, marked, held: plain facts. -/
namespace Go.Proofs.YtgolcojhnklfdaaDoor.Pr
open Go.RowKit Go.Proofs.YtgolcojhnklfdaaDoor.Read Go.Proofs.YtgolcojhnklfdaaDoorW.PrintWords

theorem w64 {n : Int} (h0 : -9223372036854775808 ≤ n) (h1 : n ≤ 9223372036854775807) : wrap64 n = n := by unfold wrap64; omega
theorem rd_nat {l : List Int} {i : Nat} (h : i < l.length) : rd l (i : Int) = l[i] := by
  simp [rd, List.getD_eq_getElem?_getD, List.getElem?_eq_getElem h]
theorem list_rd_ext {a b : List Int} (hl : a.length = b.length) (h : ∀ i : Nat, i < a.length → rd a i = rd b i) : a = b := by
  apply List.ext_getElem hl
  intro i h1 h2
  have := h i h1
  rwa [rd_nat h1, rd_nat h2] at this


theorem toByteS_l0 (x0 : List Int) (hl : x0.length ≤ 281474976710656) (d : Nat) : ∀ (k i : Nat) (x3 : List Int), x0.length - i = d → i ≤ x0.length → x3.length = x0.length → d < k → laws_toByteS.l0 k x0 x3 i = some (x3.take i ++ x0.drop i) := by
  induction d with
  | zero =>
    intro k i x3 hd hi h3 hk
    obtain ⟨k, rfl⟩ : ∃ m, k = m + 1 := ⟨k - 1, by omega⟩
    simp only [laws_toByteS.l0]
    rw [if_neg (by omega), List.take_of_length_le (by omega), List.drop_of_length_le (by omega), List.append_nil]
  | succ d ih =>
    intro k i x3 hd hi h3 hk
    obtain ⟨k, rfl⟩ : ∃ m, k = m + 1 := ⟨k - 1, by omega⟩
    simp only [laws_toByteS.l0]
    rw [if_pos (by omega), if_pos (by omega), if_pos (by omega), w64 (by omega) (by omega)]
    have e := ih k (i + 1) (x3.set i (rd x0 i)) (by omega) (by omega) (by simpa using h3) (by omega)
    rw [Int.toNat_natCast]
    rw [show ((i : Int) + 1) = ((i + 1 : Nat) : Int) from rfl, e]
    congr 1
    have hlt : i < x0.length := by omega
    rw [List.take_succ_eq_append_getElem (by simp; omega), List.getElem_set_self, List.take_set_of_le (by omega), rd_nat hlt, List.append_assoc, List.singleton_append, ← List.drop_eq_getElem_cons hlt]
theorem toByteS_ev (l : List Int) (hl : l.length ≤ 281474976710656) : Ev (fun k => laws_toByteS.f k l) l :=
  ⟨l.length + 1, fun k hk => by
    show laws_toByteS.f k l = some l
    unfold laws_toByteS.f
    rw [if_pos (by omega), if_pos (by omega)]
    have := toByteS_l0 l hl l.length k 0 (List.replicate ((l.length : Int)).toNat 0) (by omega) (by omega) (by simp) (by omega)
    simpa using this⟩

theorem eqByteS_l0 (x0 x1 : List Int) (hl : x0.length = x1.length) (hm : x0.length ≤ 281474976710656) (d : Nat) : ∀ (k i : Nat), x0.length - i = d → i ≤ x0.length → d < k → laws_eqByteS.l0 k x0 x1 i = some (decide (x0.drop i = x1.drop i)) := by
  induction d with
  | zero =>
    intro k i hd hi hk
    obtain ⟨k, rfl⟩ : ∃ m, k = m + 1 := ⟨k - 1, by omega⟩
    simp only [laws_eqByteS.l0]
    rw [if_neg (by omega), List.drop_of_length_le (by omega), List.drop_of_length_le (by omega)]; simp
  | succ d ih =>
    intro k i hd hi hk
    obtain ⟨k, rfl⟩ : ∃ m, k = m + 1 := ⟨k - 1, by omega⟩
    simp only [laws_eqByteS.l0]
    have h0 : i < x0.length := by omega
    have h1 : i < x1.length := by omega
    rw [if_pos (by omega), if_pos (by omega), if_pos (by omega), w64 (by omega) (by omega), rd_nat h0, rd_nat h1, List.drop_eq_getElem_cons h0, List.drop_eq_getElem_cons h1]
    have e := ih k (i + 1) (by omega) (by omega) (by omega)
    rw [show ((i : Int) + 1) = ((i + 1 : Nat) : Int) from rfl, e]
    by_cases hx : x0[i] = x1[i]
    · rw [if_pos hx]; congr 1; rw [decide_eq_decide, hx, List.cons.injEq]; exact ⟨fun h => ⟨rfl, h⟩, fun h => h.2⟩
    · rw [if_neg hx]; congr 1; symm; rw [decide_eq_false_iff_not, List.cons.injEq]; exact fun h => hx h.1
theorem eqByteS_ev (a b : List Int) (hl : a.length ≤ 281474976710656) : Ev (fun k => laws_eqByteS.f k a b) (decide (a = b)) :=
  ⟨a.length + 1, fun k hk => by
    show laws_eqByteS.f k a b = _
    unfold laws_eqByteS.f
    by_cases h : a.length = b.length
    · rw [if_pos (by omega)]
      have := eqByteS_l0 a b h hl a.length k 0 (by omega) (by omega) (by omega)
      simpa using this
    · rw [if_neg (by omega)]
      have : a ≠ b := fun e => h (by rw [e])
      simp [this]⟩
theorem eqByteS_refl (a : List Int) (hl : a.length ≤ 281474976710656) : Ev (fun k => laws_eqByteS.f k a a) true := by
  have := eqByteS_ev a a hl
  simpa using this

/-- What a marked slice of n bytes holds, counted from k. -/
def markL : Nat → Int → List Int
  | 0, _ => []
  | n + 1, k => k % 256 :: markL n (k + 1)
theorem markL_len : ∀ (n : Nat) (k : Int), (markL n k).length = n
  | 0, _ => rfl
  | n + 1, k => by simp [markL, markL_len n]
end Go.Proofs.YtgolcojhnklfdaaDoor.Pr
/- Numerals: the reference's l1Num is the library's itoa. Plain facts. -/
namespace Go.Proofs.YtgolcojhnklfdaaDoor.Pr
open Go.RowKit Go.Proofs.YtgolcojhnklfdaaDoor.Read Go.Proofs.YtgolcojhnklfdaaDoorW.PrintWords
def digS (d : Nat) : ByteArray := ⟨#[UInt8.ofNat (48 + d)]⟩
theorem dig_fin : ∀ d : Fin 10, (strOfNums [((48 + (d.val : Int))) % 256]).data = (digS d.val).data := by decide +kernel
theorem dig_eq {d : Nat} (h : d < 10) : strOfNums [((48 + (d : Int))) % 256] = digS d := ByteArray.ext (dig_fin ⟨d, h⟩)
def decS (u : Nat) : ByteArray := ⟨(Lib.decDigits u).toArray⟩
theorem decS_small {u : Nat} (h : u < 10) : decS u = digS u := by
  unfold decS digS
  rw [Lib.decDigits, dif_pos h]
theorem decS_big {u : Nat} (h : ¬ u < 10) : decS u = decS (u / 10) ++ digS (u % 10) := by
  apply ByteArray.ext
  unfold decS digS
  rw [Lib.decDigits, dif_neg h]
  simp
theorem digS_size (d : Nat) : (digS d).size = 1 := rfl
theorem size_l0 (u : Nat) : 0 < u → ∃ K, ∀ k, K ≤ k → ∀ acc : ByteArray, acc.size + u ≤ 9000000000000000000 → spec_l1Size.l0 k (u : Int) acc = some (decS u ++ acc) := by
  induction u using Nat.strongRecOn with
  | _ u ih =>
    intro hu
    by_cases h : u < 10
    · refine ⟨2, fun k hk acc hacc => ?_⟩
      obtain ⟨k, rfl⟩ : ∃ m, k = m + 1 + 1 := ⟨k - 2, by omega⟩
      have e1 : Int.tmod (u : Int) 10 = (u : Int) := by rw [Int.tmod_eq_emod_of_nonneg (by omega)]; omega
      have e2 : Int.tdiv (u : Int) 10 = 0 := by rw [Int.tdiv_eq_ediv_of_nonneg (by omega)]; omega
      have e3 : wrap64 (48 + (u : Int)) = 48 + (u : Int) := w64 (by omega) (by omega)
      have e4 : wrap64 0 = 0 := w64 (by omega) (by omega)
      simp only [spec_l1Size.l0, if_neg (show ¬ ((u : Int) = 0) by omega), e1, e2, e3, e4, if_neg (show ¬ ((u : Int) < 0) by omega), Option.bind_some, dig_eq h, digS_size, if_pos (show 1 + acc.size ≤ 9223372036854775807 by omega), if_true]
      rw [decS_small h]
    · obtain ⟨K, hK⟩ := ih (u / 10) (by omega) (by omega)
      refine ⟨K + 1, fun k hk acc hacc => ?_⟩
      obtain ⟨k, rfl⟩ : ∃ m, k = m + 1 := ⟨k - 1, by omega⟩
      have e1 : Int.tmod (u : Int) 10 = ((u % 10 : Nat) : Int) := by rw [Int.tmod_eq_emod_of_nonneg (by omega)]; omega
      have e2 : wrap64 (Int.tdiv (u : Int) 10) = ((u / 10 : Nat) : Int) := by rw [Int.tdiv_eq_ediv_of_nonneg (by omega), w64 (by omega) (by omega)]; omega
      have e3 : wrap64 (48 + ((u % 10 : Nat) : Int)) = 48 + ((u % 10 : Nat) : Int) := w64 (by omega) (by omega)
      simp only [spec_l1Size.l0, if_neg (show ¬ ((u : Int) = 0) by omega), e1, e2, e3, if_neg (show ¬ (((u % 10 : Nat) : Int) < 0) by omega), Option.bind_some, dig_eq (show u % 10 < 10 by omega), digS_size, if_pos (show 1 + acc.size ≤ 9223372036854775807 by omega)]
      rw [hK k (by omega) _ (by rw [ByteArray.size_append, digS_size]; omega), decS_big h, ByteArray.append_assoc]
theorem itoa_nat (u : Nat) : (⟨(Lib.itoa (u : Int)).toArray⟩ : ByteArray) = decS u := by
  unfold Lib.itoa
  rw [if_neg (by omega), Int.toNat_natCast]
  rfl
/-- The reference's numeral, of a number that is not below 0. -/
theorem l1Num_ev (u : Nat) (h : u ≤ 8000000000000000000) : Ev (fun k => spec_l1Num.f k (u : Int)) (decS u) := by
  rcases Nat.eq_zero_or_pos u with rfl | hu
  · refine ⟨0, fun k _ => ?_⟩
    have : decS 0 = (⟨#[48]⟩ : ByteArray) := by rw [decS_small (by omega)]; rfl
    rw [this]
    rfl
  · obtain ⟨K, hK⟩ := size_l0 u hu
    refine ⟨K, fun k hk => ?_⟩
    show spec_l1Num.f k (u : Int) = _
    simp only [spec_l1Num.f, spec_l1Size.f, if_neg (show ¬ ((u : Int) < 0) by omega), if_neg (show ¬ ((u : Int) = 0) by omega)]
    rw [hK k hk _ (by show 0 + u ≤ _; omega), Option.bind_some]
    congr 1
    apply ByteArray.ext
    simp
theorem itoa_eq (u : Nat) (h : u ≤ 8000000000000000000) : strconv_Itoa.f (u : Int) = some (decS u) := by
  unfold strconv_Itoa.f
  rw [if_pos ⟨by omega, by omega⟩, itoa_nat]
theorem decS_len (u : Nat) : ∀ k, u < 10 ^ (k + 1) → (decS u).size ≤ k + 1 := by
  induction u using Nat.strongRecOn with
  | _ u ih =>
    intro k hk
    by_cases h : u < 10
    · rw [decS_small h, digS_size]; omega
    · rcases k with _ | k
      · omega
      · rw [decS_big h, ByteArray.size_append, digS_size]
        have := ih (u / 10) (by omega) k (by rw [Nat.pow_succ] at hk; omega)
        omega
end Go.Proofs.YtgolcojhnklfdaaDoor.Pr
/- The law FnExactVerifierOf, its plain part. -/
namespace Go.Proofs.YtgolcojhnklfdaaDoor.Pure
open Go.RowKit Go.Proofs.YtgolcojhnklfdaaDoor.Read Go.Proofs.YtgolcojhnklfdaaDoorW.PrintWords Go.Proofs.YtgolcojhnklfdaaDoor.Pr
def verS (who : ByteArray) (n : Int) : ByteArray := if (who.toList = ([97, 110, 110] : List UInt8) ∨ who.toList = ([101, 118, 101] : List UInt8)) ∧ 0 ≤ n ∧ n ≤ 1000 then (who ++ (⟨#[45]⟩ : ByteArray)) ++ decS n.toNat else ⟨#[]⟩
theorem tail_spec (who : ByteArray) (h : who.size ≤ 1048576) (u : Nat) (hu : u ≤ 1000) : Ev (fun k => if who.size + 1 ≤ 9223372036854775807 then ((spec_l1Num.f k (u : Int)).bind fun t101 => (if (who ++ (⟨#[45]⟩ : ByteArray)).size + t101.size ≤ 9223372036854775807 then (some ((who ++ (⟨#[45]⟩ : ByteArray)) ++ t101)) else (none))) else (none)) ((who ++ (⟨#[45]⟩ : ByteArray)) ++ decS u) := by
  have hl := decS_len u 3 (by omega)
  simp only [if_pos (show who.size + 1 ≤ 9223372036854775807 by omega)]
  refine Ev.bind (l1Num_ev u (by omega)) ?_
  simp only [if_pos (show (who ++ (⟨#[45]⟩ : ByteArray)).size + (decS u).size ≤ 9223372036854775807 by rw [ByteArray.size_append, show (⟨#[45]⟩ : ByteArray).size = 1 from rfl]; omega)]
  exact Ev.now _
theorem tail_impl (who : ByteArray) (h : who.size ≤ 1048576) (u : Nat) (hu : u ≤ 1000) : (if who.size + 1 ≤ 9223372036854775807 then ((strconv_Itoa.f (u : Int)).bind fun t101 => (if (who ++ (⟨#[45]⟩ : ByteArray)).size + t101.size ≤ 9223372036854775807 then (some ((who ++ (⟨#[45]⟩ : ByteArray)) ++ t101)) else (none))) else (none)) = some ((who ++ (⟨#[45]⟩ : ByteArray)) ++ decS u) := by
  have hl := decS_len u 3 (by omega)
  rw [if_pos (show who.size + 1 ≤ 9223372036854775807 by omega), itoa_eq u (by omega), Option.bind_some, if_pos (show (who ++ (⟨#[45]⟩ : ByteArray)).size + (decS u).size ≤ 9223372036854775807 by rw [ByteArray.size_append, show (⟨#[45]⟩ : ByteArray).size = 1 from rfl]; omega)]
theorem specVer_ev (who : ByteArray) (h : who.size ≤ 1048576) (n : Int) : Ev (fun k => spec_VerifierOf.f k who n) (verS who n) := by
  simp only [spec_VerifierOf.f]
  by_cases h1 : n < 0
  · have e : verS who n = ⟨#[]⟩ := if_neg (fun h => by have := h.2.1; omega)
    simp only [if_pos h1, e, ite_self]
    exact Ev.now _
  by_cases h2 : n > 1000
  · have e : verS who n = ⟨#[]⟩ := if_neg (fun h => by have := h.2.2; omega)
    simp only [if_neg h1, if_pos h2, e, ite_self]
    exact Ev.now _
  obtain ⟨u, rfl⟩ := Int.eq_ofNat_of_zero_le (show 0 ≤ n by omega)
  simp only [if_neg h1, if_neg h2]
  by_cases ha : who.toList = ([97, 110, 110] : List UInt8)
  · have e : verS who (u : Int) = (who ++ (⟨#[45]⟩ : ByteArray)) ++ decS u := (if_pos ⟨Or.inl ha, by omega, by omega⟩).trans (by rw [Int.toNat_natCast])
    simp only [if_pos ha, e]
    exact tail_spec who h u (by omega)
  by_cases hv : who.toList = ([101, 118, 101] : List UInt8)
  · have e : verS who (u : Int) = (who ++ (⟨#[45]⟩ : ByteArray)) ++ decS u := (if_pos ⟨Or.inr hv, by omega, by omega⟩).trans (by rw [Int.toNat_natCast])
    simp only [if_neg ha, if_pos hv, e]
    exact tail_spec who h u (by omega)
  · have e : verS who (u : Int) = ⟨#[]⟩ := if_neg (fun h => h.1.elim ha hv)
    simp only [if_neg ha, if_neg hv, e]
    exact Ev.now _
theorem implVer_eq (who : ByteArray) (h : who.size ≤ 1048576) (n : Int) : impl_VerifierOf.f who n = some (verS who n) := by
  simp only [impl_VerifierOf.f]
  by_cases h1 : n < 0
  · have e : verS who n = ⟨#[]⟩ := if_neg (fun h => by have := h.2.1; omega)
    simp only [if_pos h1, e, ite_self]
  by_cases h2 : n > 1000
  · have e : verS who n = ⟨#[]⟩ := if_neg (fun h => by have := h.2.2; omega)
    simp only [if_neg h1, if_pos h2, e, ite_self]
  obtain ⟨u, rfl⟩ := Int.eq_ofNat_of_zero_le (show 0 ≤ n by omega)
  simp only [if_neg h1, if_neg h2]
  by_cases ha : who.toList = ([97, 110, 110] : List UInt8)
  · have e : verS who (u : Int) = (who ++ (⟨#[45]⟩ : ByteArray)) ++ decS u := (if_pos ⟨Or.inl ha, by omega, by omega⟩).trans (by rw [Int.toNat_natCast])
    simp only [if_pos ha, e]
    exact tail_impl who h u (by omega)
  by_cases hv : who.toList = ([101, 118, 101] : List UInt8)
  · have e : verS who (u : Int) = (who ++ (⟨#[45]⟩ : ByteArray)) ++ decS u := (if_pos ⟨Or.inr hv, by omega, by omega⟩).trans (by rw [Int.toNat_natCast])
    simp only [if_neg ha, if_pos hv, e]
    exact tail_impl who h u (by omega)
  · have e : verS who (u : Int) = ⟨#[]⟩ := if_neg (fun h => h.1.elim ha hv)
    simp only [if_neg ha, if_neg hv, e]
theorem FnExactVerifierOf : laws_FnExactVerifierOf.Pure := by
  intro who n hw hn
  apply Ev.rounds
  simp only [laws_FnExactVerifierOf.f]
  by_cases h0 : (who.size : Int) > 1048576
  · simp only [if_pos h0]; exact Ev.now _
  simp only [if_neg h0]
  refine Ev.bind (specVer_ev who (by omega) n) ?_
  simp only [implVer_eq who (by omega) n, Option.bind_some, if_true]
  exact Ev.now _
end Go.Proofs.YtgolcojhnklfdaaDoor.Pure
/- The law FnExactVerifierOf: whatever the input, the call returns true and the arguments read as before. No conditions. -/
namespace Go.Proofs.YtgolcojhnklfdaaDoor.fnExactVerifierOf
open Go.ChangeShapes Go.WideShapes Go.ChangeAt Go.RowKit Go.Proofs.YtgolcojhnklfdaaDoor.Read Go.Proofs.YtgolcojhnklfdaaDoorW.PrintWords Go.Proofs.YtgolcojhnklfdaaDoor.Pr
open Go.ChangeMaps (open_string shut_string)
set_option linter.unusedVariables false
theorem own : ownKnob Tryd.prog.godebug = none := by kernel_rfl
theorem laidOut : laidOutB Tryd.prog = true := by kernel_rfl
def tabCells (d : DataW Unit) : Array Value := match d with | .agg l => (l.map fun x => match x with | .lit (.int k z) => Value.int k z | _ => undef).toArray | _ => #[]
/-- The settled world, the listed tables as their initialisers lay them: the witness. -/
noncomputable def laidWorld (os : Os) : World := { World.holding Tryd.prog os ⟨#[], #[], []⟩ with heap := (fun h => h.modify 1 fun | .cells _ t frozen => .cells (tabCells Rows.laid_math_bits_deBruijn32tab) t frozen | o => o) <| (fun h => h.modify 2 fun | .cells _ t frozen => .cells (tabCells Rows.laid_math_bits_deBruijn64tab) t frozen | o => o) <| (fun h => h.modify 0 fun | .cells _ t frozen => .cells (tabCells Rows.laid_internal_strconv_uint64pow10) t frozen | o => o) <| (World.holding Tryd.prog os ⟨#[], #[], []⟩).heap }
set_option maxRecDepth 100000 in
theorem laidWorld_met (os : Os) (args : Array Value) : laidMet Tryd.prog Rows.fnExactVerifierOfRow.laid ((laidWorld os).forCall (fun _ _ => 0) ⟨#[], args, []⟩).memory :=
  laidMet_of_run' 8 (by kernel_rfl) (by kernel_rfl)
set_option maxRecDepth 100000 in
theorem tab_of_laid {W : World} (h : laidMet Tryd.prog Rows.fnExactVerifierOfRow.laid W) : TabW W := by
  have h2 : laidMet Tryd.prog (("internal/strconv.uint64pow10", Lib.tabData .u64 Lib.pow10Tab) :: []) W := laidMet.tail (laidMet.tail ((show laidMet Tryd.prog (("math/bits.deBruijn32tab", Rows.laid_math_bits_deBruijn32tab) :: ("math/bits.deBruijn64tab", Rows.laid_math_bits_deBruijn64tab) :: ("internal/strconv.uint64pow10", Lib.tabData .u64 Lib.pow10Tab) :: []) W from h)))
  exact Lib.tabIs_of_head (g := 0) (t := 76) (e := 44) (n := 20) (by kernel_rfl) (by kernel_rfl) Tryd.underlying76 Tryd.underlying44 (by kernel_rfl) (by kernel_rfl) h2
set_option maxRecDepth 100000 in
theorem lifted (os : Os) (started : os.Started) (H : Type) (enc : TypeId × Value → H) :
    ReturnsInHanded {} Tryd.checked os 3 .any (fun w args => (Rows.fnExactVerifierOfSpec.pre enc Tryd.prog Tryd.f3 Rows.fnExactVerifierOfRow.domain false w args ∧ laidMet Tryd.prog Rows.fnExactVerifierOfRow.laid w) ∧ sizedMet enc Tryd.prog Tryd.f3 (OpenSpec.ofChange Rows.fnExactVerifierOfSpec) false w args) (Rows.fnExactVerifierOfSpec.post enc Tryd.prog Tryd.f3 false true false false) := by
  refine returnsInHanded_of_change_and (C := Tryd.checked) (X := fun w _ => laidMet Tryd.prog Rows.fnExactVerifierOfRow.laid w) (fun _ _ _ hh h => h.of_heap hh) own started (by kernel_rfl) Tryd.func3
    (ChangeSpec.witness_at (enc := enc) (C := Tryd.checked) (os := os) (X := fun w _ => laidMet Tryd.prog Rows.fnExactVerifierOfRow.laid w) false (laidWorld os) #[.string ByteArray.empty, .int .i64 0] 8 rfl (by kernel_rfl) (by kernel_rfl) (by kernel_rfl) (by kernel_rfl) (by kernel_rfl) (laidWorld_met os _)) ?_
  intro W base args ds gs before hval0 hW hcnd _ hL _
  have htab := tab_of_laid hL
  clear hL
  have hval : ∀ (j : Nat) t v, Tryd.f3.params[j]? = some t → args[j]? = some v → Value.okWide Tryd.prog W .any base t v := hval0
  have hW' := hW
  obtain ⟨p, q, hA0, hV, rfl, hfz, hnd⟩ := hW
  have hA : DataW.TrodAll enc Tryd.prog W 0 (fun _ => true) true Tryd.f3.params.toList args.toList ds p := hA0
  rw [Tryd.params3] at hA hval
  obtain ⟨v0, vs0, d0, ds0, p0, q0, hargs, rfl, rfl, h0, r0⟩ := trodAll_cons hA
  obtain ⟨v1, vs1, d1, ds1, p1, q1, rfl, rfl, rfl, h1, r1⟩ := trodAll_cons r0
  obtain ⟨rfl, rfl, rfl⟩ := trodAll_nil r1
  obtain rfl : args = #[v0, v1] := by cases args; simp_all
  obtain ⟨rfl, rfl⟩ := trodVars_none hV
  have lt0 : ∀ x ∈ p0, x.block < W.heap.size := by obtain ⟨m, hm⟩ := h0; exact DataW.trod_lt m _ _ _ hm
  have bk0 := fun {W' : World} (bel : Below W.heap.size W W') => Below.trod laidOut (by kernel_rfl) (of_decide_eq_true (by kernel_rfl)) h0 bel lt0
  obtain ⟨a0, rfl, _, _, o0⟩ := open_string Tryd.underlying9 (hval 0 9 v0 rfl rfl) h0
  unfold maxLen at o0
  have lt1 : ∀ x ∈ p1, x.block < W.heap.size := by obtain ⟨m, hm⟩ := h1; exact DataW.trod_lt m _ _ _ hm
  have bk1 := fun {W' : World} (bel : Below W.heap.size W W') => Below.trod laidOut (by kernel_rfl) (of_decide_eq_true (by kernel_rfl)) h1 bel lt1
  obtain ⟨a1, rfl, _, _, w1⟩ := open_int Tryd.underlying3 (hval 1 3 v1 rfl rfl) h1
  have o1 := int_bounds w1
  obtain ⟨k, hk⟩ := Pure.FnExactVerifierOf a0 a1 o0 o1
  refine (laws_FnExactVerifierOf.calls k a0 a1 true W htab hk).mono fun e W' hpost => ?_
  obtain ⟨he, hb⟩ := hpost
  have bel : Below W.heap.size W W' := hb
  subst he
  exact ⟨_, rfl, _, _, _, [], _, [], hW', trodAll_mk1 (shut_bool Tryd.underlying4 _), (trodAll_cons_mk (bk0 bel) (trodAll_cons_mk (bk1 bel) trodAll_mk0)), rfl, bel.frame _, fun h => by cases h⟩
theorem over : Rows.fnExactVerifierOfRow.holds Tryd.pinned (OpenSpec.ofChange Rows.fnExactVerifierOfSpec) :=
  OpenClaim.holds_of_wide 3 Tryd.f3 rfl rfl rfl rfl rfl rfl rfl ⟨rfl, rfl, rfl, rfl, rfl⟩ rfl rfl rfl rfl rfl (by kernel_rfl) Tryd.func3 (by kernel_rfl)
    (of_decide_eq_true (by kernel_rfl)) (by unfold Func.isWrapper; first | (rw [if_pos (by decide +kernel)]; kernel_rfl) | (rw [if_neg (by decide +kernel)]; exact ⟨rfl, rfl⟩))
    (fun os started H enc _ => lifted os started H enc)
theorem row_holds : Rows.FnExactVerifierOfSaid := over
set_option maxRecDepth 100000 in
theorem proved : Rows.FnExactVerifierOfCardSaid :=
  Claim7.holds_tied_plain_at .later [] [.data, .data, .data] true (true, "1e6a8922366cf09168929c257155384586c207a6c69de8522cb5cc8914ef7523") false over (fun _ h => by cases h) (by kernel_rfl) (fun _ h => by cases h) fnExactVerifierOf_row_tie rfl ⟨rfl, rfl⟩ (by kernel_rfl) rfl
    (fun f fn hf hfn => by
      obtain rfl : f = 3 := Option.some.inj ((show Tryd.prog.funcNamed "loop.example/g00036/laws.FnExactVerifierOf" = some 3 by kernel_rfl).symm.trans hf) |>.symm
      obtain rfl : fn = Tryd.f3 := (Option.some.inj (Tryd.func3.symm.trans hfn)).symm
      exact ⟨by kernel_rfl, fun j t ht => by
        rw [Tryd.params3] at ht
        have hm : t ∈ ([9, 3] : List TypeId) := by
          have h2 : ([9, 3] : List TypeId)[j]? = some t := by simpa using ht
          exact List.mem_of_getElem? h2
        simp only [List.mem_cons, List.not_mem_nil, or_false] at hm
        rcases hm with rfl | rfl
        · exact (show Tryd.prog.wantsStandIn 9 = false by kernel_rfl)
        · exact (show Tryd.prog.wantsStandIn 3 = false by kernel_rfl)⟩)
    (by kernel_rfl)
#print axioms proved
end Go.Proofs.YtgolcojhnklfdaaDoor.fnExactVerifierOf
namespace Go.Proofs.YtgolcojhnklfdaaDoor
/-- The row, under a short name, for the claim. -/
theorem fnExactVerifierOf_holds : Rows.FnExactVerifierOfCardSaid := fnExactVerifierOf.proved
end Go.Proofs.YtgolcojhnklfdaaDoor
