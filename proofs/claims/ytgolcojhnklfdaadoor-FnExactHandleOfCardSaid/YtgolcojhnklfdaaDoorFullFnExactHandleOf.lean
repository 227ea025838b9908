/- The law FnExactHandleOf: whatever the input, the call returns true and the arguments read as before. No conditions. -/
import Derived.Test.YtgolcojhnklfdaaDoorRead
import Derived.Test.YtgolcojhnklfdaaDoorPr7
import Derived.Test.YtgolcojhnklfdaaDoorPbytes
import Derived.Test.YtgolcojhnklfdaaDoorPr35
import Derived.Test.YtgolcojhnklfdaaDoorPr33
import Derived.Laws.Strings
import Derived.Test.YtgolcojhnklfdaaDoorHitoa
import Derived.Test.YtgolcojhnklfdaaDoorPr22
import Derived.Test.YtgolcojhnklfdaaDoorHdigest
import Derived.Test.YtgolcojhnklfdaaDoorPrgS2
import Derived.Test.YtgolcojhnklfdaaDoorHbytes
import Derived.Test.YtgolcojhnklfdaaDoorPr27
import Derived.Test.YtgolcojhnklfdaaDoorRows
import Derived.Test.YtgolcojhnklfdaaDoorCards
import Derived.Test.YtgolcojhnklfdaaDoorTie
import Derived.WalkKit
import Derived.ProofKit
import Derived.OpenShut
import Derived.ShutString
import Derived.ChangeOld
import Derived.Below
import Derived.SevenTiedAt
import Derived.Stop.LaidErr
import Derived.Lib.LaidTab
/- The pure statement of the law FnExactHandleOf. -/
namespace Go.Proofs.YtgolcojhnklfdaaDoor.Pr
open Go.RowKit Go.Proofs.YtgolcojhnklfdaaDoor.Read Go.Proofs.YtgolcojhnklfdaaDoorW.PrintWords
set_option linter.unusedVariables false
/-- What is left of the law FnExactHandleOf: a statement about numbers and lists. -/
def laws_FnExactHandleOf.Pure : Prop := ∀ (l0 : (List Int)) (a1 : ByteArray) (a2 : Int), (okL okB) l0 → okS a1 → okI a2 → ∃ k, laws_FnExactHandleOf.f k l0 a1 a2 = some true
end Go.Proofs.YtgolcojhnklfdaaDoor.Pr
/- Names: what is good, told the same by the program and by the reference. -/
namespace Go.Proofs.YtgolcojhnklfdaaDoor.Pr
open Go.RowKit Go.Proofs.YtgolcojhnklfdaaDoor.Read Go.Proofs.YtgolcojhnklfdaaDoorW.PrintWords
def nletC (c : Int) : Bool := decide (97 ≤ c ∧ c ≤ 122 ∨ 65 ≤ c ∧ c ≤ 90)
def ndigC (c : Int) : Bool := decide (48 ≤ c ∧ c ≤ 57)
theorem nsletter_eq (c : Int) : spec_l1Letter.f c = some (nletC c) := by
  unfold spec_l1Letter.f nletC
  split
  · split
    · congr 1; symm; rw [decide_eq_true_eq]; omega
    · split
      · congr 1; rw [decide_eq_decide]; omega
      · congr 1; symm; rw [decide_eq_false_iff_not]; omega
  · split
    · congr 1; rw [decide_eq_decide]; omega
    · congr 1; symm; rw [decide_eq_false_iff_not]; omega
theorem nsdigit_eq (c : Int) : spec_l1Digit.f c = some (ndigC c) := by
  unfold spec_l1Digit.f ndigC
  split
  · congr 1; rw [decide_eq_decide]; omega
  · congr 1; symm; rw [decide_eq_false_iff_not]; omega
theorem niletter_eq (c : Int) : impl_yletter.f c = some (nletC c) := by
  unfold impl_yletter.f nletC
  split
  · split
    · congr 1; symm; rw [decide_eq_true_eq]; omega
    · split
      · congr 1; rw [decide_eq_decide]; omega
      · congr 1; symm; rw [decide_eq_false_iff_not]; omega
  · split
    · congr 1; rw [decide_eq_decide]; omega
    · congr 1; symm; rw [decide_eq_false_iff_not]; omega
theorem nidigit_eq (c : Int) : impl_ydigit.f c = some (ndigC c) := by
  unfold impl_ydigit.f ndigC
  split
  · congr 1; rw [decide_eq_decide]; omega
  · congr 1; symm; rw [decide_eq_false_iff_not]; omega
def nameC (c : Int) : Bool := if nletC c = true then true else if ndigC c = true then true else if c = 95 then true else false
/-- Are the last d bytes of s all those of a name? -/
def nameN (s : ByteArray) : Nat → Bool
  | 0 => true
  | d + 1 => if nameC (bt s ((s.size - (d + 1) : Nat) : Int)) = true then nameN s d else false
theorem sName_l0 (s : ByteArray) (hs : s.size ≤ 9223372036854775807) (d : Nat) : ∀ (k i : Nat), s.size - i = d → i ≤ s.size → d < k → spec_GoodName.l0 k s i = some (nameN s d) := by
  induction d with
  | zero =>
    intro k i hd hi hk
    obtain ⟨k, rfl⟩ : ∃ m, k = m + 1 := ⟨k - 1, by omega⟩
    simp only [spec_GoodName.l0]
    rw [if_neg (by omega)]
    rfl
  | succ d ih =>
    intro k i hd hi hk
    obtain ⟨k, rfl⟩ : ∃ m, k = m + 1 := ⟨k - 1, by omega⟩
    have e0 : s.size - (d + 1) = i := by omega
    simp only [spec_GoodName.l0, nameN, e0, nsletter_eq, nsdigit_eq, Option.bind_some]
    rw [if_pos (by omega), if_pos (by omega), w64 (by omega) (by omega), show ((i : Int) + 1) = ((i + 1 : Nat) : Int) from rfl, ih k (i + 1) (by omega) (by omega) (by omega)]
    unfold nameC
    split
    · simp only [if_true]
    · split
      · simp only [if_true]
      · split <;> simp only [if_true, Bool.false_eq_true, if_false]
theorem iName_l0 (s : ByteArray) (hs : s.size ≤ 9223372036854775807) (d : Nat) : ∀ (k i : Nat), s.size - i = d → i ≤ s.size → d < k → impl_GoodName.l0 k s (s.size : Int) i = some (nameN s d) := by
  induction d with
  | zero =>
    intro k i hd hi hk
    obtain ⟨k, rfl⟩ : ∃ m, k = m + 1 := ⟨k - 1, by omega⟩
    simp only [impl_GoodName.l0]
    rw [if_neg (by omega)]
    rfl
  | succ d ih =>
    intro k i hd hi hk
    obtain ⟨k, rfl⟩ : ∃ m, k = m + 1 := ⟨k - 1, by omega⟩
    have e0 : s.size - (d + 1) = i := by omega
    simp only [impl_GoodName.l0, nameN, e0, impl_ywordByte.f, niletter_eq, nidigit_eq, Option.bind_some]
    rw [if_pos (by omega), if_pos (by omega), if_pos (by omega), w64 (by omega) (by omega), show ((i : Int) + 1) = ((i + 1 : Nat) : Int) from rfl, ih k (i + 1) (by omega) (by omega) (by omega)]
    unfold nameC
    by_cases h1 : nletC (bt s (i : Int)) = true
    · simp only [h1, if_true, Option.bind_some]
    · simp only [h1, Bool.false_eq_true, if_false]
      by_cases h2 : ndigC (bt s (i : Int)) = true
      · simp only [h2, if_true, Option.bind_some]
      · simp only [h2, Bool.false_eq_true, if_false, Option.bind_some, beq_iff_eq]
        by_cases h3 : bt s (i : Int) = 95
        · simp only [h3, if_true]
        · simp only [h3, if_false, Bool.false_eq_true]
/-- Is s a name? -/
def goodName (s : ByteArray) : Bool := if 1 ≤ s.size ∧ s.size ≤ 30 then (if ndigC (bt s 0) = true then false else nameN s s.size) else false
theorem name_size {s : ByteArray} (h : goodName s = true) : 1 ≤ s.size ∧ s.size ≤ 30 := by
  unfold goodName at h
  by_cases h1 : 1 ≤ s.size ∧ s.size ≤ 30
  · exact h1
  · rw [if_neg h1] at h; cases h
theorem list_nil_size {s : ByteArray} : s.toList = ([] : List UInt8) ↔ s.size = 0 := by
  rw [ByteArray.toList_eq]
  constructor
  · intro h
    have := congrArg List.length h
    rwa [data_length] at this
  · intro h
    exact List.eq_nil_of_length_eq_zero (by rw [data_length]; exact h)
theorem specName_ev (s : ByteArray) (hs : s.size ≤ 9223372036854775807) : Ev (fun k => spec_GoodName.f k s) (goodName s) := by
  refine ⟨s.size + 3, fun k hk => ?_⟩
  obtain ⟨k, rfl⟩ : ∃ m, k = m + 1 := ⟨k - 1, by omega⟩
  show spec_GoodName.f (k + 1) s = _
  simp only [spec_GoodName.f, spec_GoodName.j0, if_true, goodName]
  by_cases h1 : (s.size : Int) < 1
  · rw [if_pos h1, if_neg (show ¬ (1 ≤ s.size ∧ s.size ≤ 30) by omega)]
  by_cases h2 : (s.size : Int) > 30
  · rw [if_neg h1, if_pos h2, if_neg (show ¬ (1 ≤ s.size ∧ s.size ≤ 30) by omega)]
  rw [if_neg h1, if_neg h2, if_pos (show 1 ≤ s.size ∧ s.size ≤ 30 by omega), if_pos (by omega), nsdigit_eq, Option.bind_some]
  by_cases h3 : ndigC (bt s 0) = true
  · rw [if_pos h3, if_pos h3]
  · rw [if_neg h3, if_neg h3]
    exact sName_l0 s hs s.size k 0 (by omega) (by omega) (by omega)
theorem implName_ev (s : ByteArray) (hs : s.size ≤ 9223372036854775807) : Ev (fun k => impl_GoodName.f k s) (goodName s) := by
  refine ⟨s.size + 3, fun k hk => ?_⟩
  obtain ⟨k, rfl⟩ : ∃ m, k = m + 1 := ⟨k - 1, by omega⟩
  show impl_GoodName.f (k + 1) s = _
  simp only [impl_GoodName.f, impl_GoodName.j0, if_true, goodName]
  by_cases h1 : s.size = 0
  · rw [if_pos (list_nil_size.2 h1), if_neg (show ¬ (1 ≤ s.size ∧ s.size ≤ 30) by omega)]
  by_cases h2 : (s.size : Int) > 30
  · rw [if_neg (fun e => h1 (list_nil_size.1 e)), if_pos h2, if_neg (show ¬ (1 ≤ s.size ∧ s.size ≤ 30) by omega)]
  rw [if_neg (fun e => h1 (list_nil_size.1 e)), if_neg h2, if_pos (show 1 ≤ s.size ∧ s.size ≤ 30 by omega), if_pos (by omega), nidigit_eq, Option.bind_some]
  by_cases h3 : ndigC (bt s 0) = true
  · rw [if_pos h3, if_pos h3]
  · rw [if_neg h3, if_neg h3]
    exact iName_l0 s hs s.size k 0 (by omega) (by omega) (by omega)
end Go.Proofs.YtgolcojhnklfdaaDoor.Pr
/- Numerals: the reference's l1Num is the library's itoa. Plain facts. -/
namespace Go.Proofs.YtgolcojhnklfdaaDoor.Pr
open Go.RowKit Go.Proofs.YtgolcojhnklfdaaDoor.Read Go.Proofs.YtgolcojhnklfdaaDoorW.PrintWords
def digS (d : Nat) : ByteArray := ⟨#[UInt8.ofNat (48 + d)]⟩
theorem dig_fin : ∀ d : Fin 10, (strOfNums [((48 + (d.val : Int))) % 256]).data = (digS d.val).data := by decide +kernel
theorem dig_eq {d : Nat} (h : d < 10) : strOfNums [((48 + (d : Int))) % 256] = digS d := ByteArray.ext (dig_fin ⟨d, h⟩)
def decS (u : Nat) : ByteArray := ⟨(Lib.decDigits u).toArray⟩
theorem decS_small {u : Nat} (h : u < 10) : decS u = digS u := by
  unfold decS digS
  rw [Lib.decDigits, dif_pos h]
theorem decS_big {u : Nat} (h : ¬ u < 10) : decS u = decS (u / 10) ++ digS (u % 10) := by
  apply ByteArray.ext
  unfold decS digS
  rw [Lib.decDigits, dif_neg h]
  simp
theorem digS_size (d : Nat) : (digS d).size = 1 := rfl
theorem size_l0 (u : Nat) : 0 < u → ∃ K, ∀ k, K ≤ k → ∀ acc : ByteArray, acc.size + u ≤ 9000000000000000000 → spec_l1Size.l0 k (u : Int) acc = some (decS u ++ acc) := by
  induction u using Nat.strongRecOn with
  | _ u ih =>
    intro hu
    by_cases h : u < 10
    · refine ⟨2, fun k hk acc hacc => ?_⟩
      obtain ⟨k, rfl⟩ : ∃ m, k = m + 1 + 1 := ⟨k - 2, by omega⟩
      have e1 : Int.tmod (u : Int) 10 = (u : Int) := by rw [Int.tmod_eq_emod_of_nonneg (by omega)]; omega
      have e2 : Int.tdiv (u : Int) 10 = 0 := by rw [Int.tdiv_eq_ediv_of_nonneg (by omega)]; omega
      have e3 : wrap64 (48 + (u : Int)) = 48 + (u : Int) := w64 (by omega) (by omega)
      have e4 : wrap64 0 = 0 := w64 (by omega) (by omega)
      simp only [spec_l1Size.l0, if_neg (show ¬ ((u : Int) = 0) by omega), e1, e2, e3, e4, if_neg (show ¬ ((u : Int) < 0) by omega), Option.bind_some, dig_eq h, digS_size, if_pos (show 1 + acc.size ≤ 9223372036854775807 by omega), if_true]
      rw [decS_small h]
    · obtain ⟨K, hK⟩ := ih (u / 10) (by omega) (by omega)
      refine ⟨K + 1, fun k hk acc hacc => ?_⟩
      obtain ⟨k, rfl⟩ : ∃ m, k = m + 1 := ⟨k - 1, by omega⟩
      have e1 : Int.tmod (u : Int) 10 = ((u % 10 : Nat) : Int) := by rw [Int.tmod_eq_emod_of_nonneg (by omega)]; omega
      have e2 : wrap64 (Int.tdiv (u : Int) 10) = ((u / 10 : Nat) : Int) := by rw [Int.tdiv_eq_ediv_of_nonneg (by omega), w64 (by omega) (by omega)]; omega
      have e3 : wrap64 (48 + ((u % 10 : Nat) : Int)) = 48 + ((u % 10 : Nat) : Int) := w64 (by omega) (by omega)
      simp only [spec_l1Size.l0, if_neg (show ¬ ((u : Int) = 0) by omega), e1, e2, e3, if_neg (show ¬ (((u % 10 : Nat) : Int) < 0) by omega), Option.bind_some, dig_eq (show u % 10 < 10 by omega), digS_size, if_pos (show 1 + acc.size ≤ 9223372036854775807 by omega)]
      rw [hK k (by omega) _ (by rw [ByteArray.size_append, digS_size]; omega), decS_big h, ByteArray.append_assoc]
theorem itoa_nat (u : Nat) : (⟨(Lib.itoa (u : Int)).toArray⟩ : ByteArray) = decS u := by
  unfold Lib.itoa
  rw [if_neg (by omega), Int.toNat_natCast]
  rfl
/-- The reference's numeral, of a number that is not below 0. -/
theorem l1Num_ev (u : Nat) (h : u ≤ 8000000000000000000) : Ev (fun k => spec_l1Num.f k (u : Int)) (decS u) := by
  rcases Nat.eq_zero_or_pos u with rfl | hu
  · refine ⟨0, fun k _ => ?_⟩
    have : decS 0 = (⟨#[48]⟩ : ByteArray) := by rw [decS_small (by omega)]; rfl
    rw [this]
    rfl
  · obtain ⟨K, hK⟩ := size_l0 u hu
    refine ⟨K, fun k hk => ?_⟩
    show spec_l1Num.f k (u : Int) = _
    simp only [spec_l1Num.f, spec_l1Size.f, if_neg (show ¬ ((u : Int) < 0) by omega), if_neg (show ¬ ((u : Int) = 0) by omega)]
    rw [hK k hk _ (by show 0 + u ≤ _; omega), Option.bind_some]
    congr 1
    apply ByteArray.ext
    simp
theorem itoa_eq (u : Nat) (h : u ≤ 8000000000000000000) : strconv_Itoa.f (u : Int) = some (decS u) := by
  unfold strconv_Itoa.f
  rw [if_pos ⟨by omega, by omega⟩, itoa_nat]
theorem decS_len (u : Nat) : ∀ k, u < 10 ^ (k + 1) → (decS u).size ≤ k + 1 := by
  induction u using Nat.strongRecOn with
  | _ u ih =>
    intro k hk
    by_cases h : u < 10
    · rw [decS_small h, digS_size]; omega
    · rcases k with _ | k
      · omega
      · rw [decS_big h, ByteArray.size_append, digS_size]
        have := ih (u / 10) (by omega) k (by rw [Nat.pow_succ] at hk; omega)
        omega
end Go.Proofs.YtgolcojhnklfdaaDoor.Pr
/- The digest: the reference's and the program's come to one. Plain facts. -/
namespace Go.Proofs.YtgolcojhnklfdaaDoor.Pr
open Go.RowKit Go.Proofs.YtgolcojhnklfdaaDoor.Read Go.Proofs.YtgolcojhnklfdaaDoorW.PrintWords

def inP (a : List Int) : Prop := a.length = 4 ∧ ∀ j, j < 4 → 0 ≤ a.getD j 0 ∧ a.getD j 0 < 2147483579
theorem inP_start : inP [11, 22, 33, 44] := ⟨rfl, by decide⟩
theorem inP_mix {a : List Int} (h : inP a) (x : Int) (hx : 0 ≤ x) : inP (dgMix a x) := ⟨by rw [dgMix, mix_len, h.1], mix_bd a x hx h.1 h.2 4 (by omega)⟩
theorem inP_all : ∀ (l a : List Int), inP a → (∀ x ∈ l, 0 ≤ x) → inP (dgAll a l)
  | [], _, h, _ => h
  | x :: l, a, h, hx => inP_all l (dgMix a x) (inP_mix h x (hx x List.mem_cons_self)) (fun y hy => hx y (List.mem_cons_of_mem _ hy))
theorem dgAll_cons (a : List Int) (x : Int) (l : List Int) : dgAll a (x :: l) = dgAll (dgMix a x) l := rfl
theorem mt_at (i : Nat) (h : i < 4) : rd [1103515245, 69069, 1664525, 22695477] (i : Int) = mulT.getD i 0 := by
  match i, h with
  | 0, _ => rfl
  | 1, _ => rfl
  | 2, _ => rfl
  | 3, _ => rfl
theorem rd_getD (l : List Int) (i : Nat) : rd l (i : Int) = l.getD i 0 := by simp [rd]
theorem specMix_step (l : List Int) (h : inP l) (x : Int) (hx : 0 ≤ x ∧ x ≤ 255) (i : Nat) (hi : i < 4) (k : Nat) :
    spec_l2Mix.l0 (k + 1) (mixN l x i) x [1103515245, 69069, 1664525, 22695477] i = spec_l2Mix.l0 k (mixN l x (i + 1)) x [1103515245, 69069, 1664525, 22695477] ((i + 1 : Nat) : Int) := by
  have hlen : (mixN l x i).length = 4 := by rw [mix_len, h.1]
  have b1 := mix_bd l x hx.1 h.1 h.2 i (by omega) i hi
  have b2 := mix_bd l x hx.1 h.1 h.2 i (by omega) ((i + 1) % 4) (by omega)
  have b3 := mulOk i hi
  simp only [spec_l2Mix.l0]
  rw [w64 (n := (i : Int) + 1) (by omega) (by omega)]
  have e6 : Int.tmod ((i : Int) + 1) 4 = ((i + 1) % 4 : Nat) := by rw [Int.tmod_eq_emod_of_nonneg (by omega)]; omega
  rw [e6, mt_at i hi, rd_getD, rd_getD]
  obtain ⟨p1, e1⟩ : ∃ p, p = (mixN l x i).getD i 0 := ⟨_, rfl⟩
  obtain ⟨p2, e2⟩ : ∃ p, p = (mixN l x i).getD ((i + 1) % 4) 0 := ⟨_, rfl⟩
  obtain ⟨p3, e3⟩ : ∃ p, p = mulT.getD i 0 := ⟨_, rfl⟩
  have e5 : mixN l x (i + 1) = (mixN l x i).set i ((p1 * p3 + x + 1 + p2) % 2147483579) := by rw [e1, e2, e3]; rfl
  rw [e5, ← e1, ← e2, ← e3]
  rw [← e1] at b1; rw [← e2] at b2; rw [← e3] at b3
  have b4 := prod_bd b1.1 b1.2 b3.1 b3.2
  rw [if_pos (by omega), if_pos (by omega), if_pos (by omega), if_pos (by simp; omega), if_pos (by omega), if_pos (by omega), w64 (n := p1 * p3) (by omega) (by omega), w64 (n := p1 * p3 + x) (by omega) (by omega), w64 (n := p1 * p3 + x + 1) (by omega) (by omega), w64 (by omega) (by omega), Int.tmod_eq_emod_of_nonneg (by omega), Int.toNat_natCast]
  rfl
theorem specMix_eq (l : List Int) (h : inP l) (x : Int) (hx : 0 ≤ x ∧ x ≤ 255) (k : Nat) (hk : 5 ≤ k) : spec_l2Mix.f k l x = some (dgMix l x) := by
  obtain ⟨k, rfl⟩ : ∃ m, k = m + 5 := ⟨k - 5, by omega⟩
  unfold spec_l2Mix.f
  have e0 := specMix_step l h x hx 0 (by omega) (k + 4)
  have e1 := specMix_step l h x hx 1 (by omega) (k + 3)
  have e2 := specMix_step l h x hx 2 (by omega) (k + 2)
  have e3 := specMix_step l h x hx 3 (by omega) (k + 1)
  have e4 : spec_l2Mix.l0 (k + 1) (mixN l x 4) x [1103515245, 69069, 1664525, 22695477] ((3 + 1 : Nat) : Int) = some (mixN l x 4) := by
    simp only [spec_l2Mix.l0]; rw [if_neg (by omega)]
  exact e0.trans (e1.trans (e2.trans (e3.trans e4)))
theorem tm256 (n : Int) (h : 0 ≤ n) : Int.tmod n 256 % 256 = n % 256 := by rw [Int.tmod_eq_emod_of_nonneg h]; omega
theorem td256 (n : Int) (h : 0 ≤ n) (h2 : n ≤ 9223372036854775807) : wrap64 (Int.tdiv n 256) = n / 256 := by
  rw [Int.tdiv_eq_ediv_of_nonneg h, w64 (by omega) (by omega)]
theorem specBytes_eq (n : Int) (h : 0 ≤ n) (h2 : n ≤ 9223372036854775807) (k : Nat) (hk : 5 ≤ k) : spec_l2Bytes.f k n = some (yb n) := by
  obtain ⟨k, rfl⟩ : ∃ m, k = m + 5 := ⟨k - 5, by omega⟩
  unfold spec_l2Bytes.f
  rw [if_pos (by omega)]
  simp only [Option.bind_some, List.length_replicate]
  simp only [spec_l2Bytes.l0]
  have a1 := td256 n h h2
  have a2 := td256 (n / 256) (by omega) (by omega)
  have a3 := td256 (n / 256 / 256) (by omega) (by omega)
  have w1 : wrap64 ((0 : Int) + 1) = 1 := by unfold wrap64; omega
  have w2 : wrap64 ((1 : Int) + 1) = 2 := by unfold wrap64; omega
  have w3 : wrap64 ((2 : Int) + 1) = 3 := by unfold wrap64; omega
  have w4 : wrap64 ((3 : Int) + 1) = 4 := by unfold wrap64; omega
  rw [w1, w2, w3, w4, a1, a2, a3, tm256 n h, tm256 _ (by omega), tm256 _ (by omega), tm256 _ (by omega)]
  simp [yb, List.replicate]
  omega
theorem specDig_l3 (a : List Int) (h : inP a) : ∀ (k : Nat), 10 ≤ k → spec_l2Digest.l3 k [] a (a.length : Int) 0 = some (a.flatMap yb) := by
  intro k hk
  obtain ⟨k, rfl⟩ : ∃ m, k = m + 10 := ⟨k - 10, by omega⟩
  obtain ⟨hl, hb⟩ := h
  match a, hl with
  | [b0, b1, b2, b3], _ =>
    have h0 := hb 0 (by omega)
    have h1 := hb 1 (by omega)
    have h2 := hb 2 (by omega)
    have h3 := hb 3 (by omega)
    simp only [List.getD_cons_zero, List.getD_cons_succ] at h0 h1 h2 h3
    have w1 : wrap64 ((0 : Int) + 1) = 1 := by unfold wrap64; omega
    have w2 : wrap64 ((1 : Int) + 1) = 2 := by unfold wrap64; omega
    have w3 : wrap64 ((2 : Int) + 1) = 3 := by unfold wrap64; omega
    have w4 : wrap64 ((3 : Int) + 1) = 4 := by unfold wrap64; omega
    have r0 : rd [b0, b1, b2, b3] 0 = b0 := rfl
    have r1 : rd [b0, b1, b2, b3] 1 = b1 := rfl
    have r2 : rd [b0, b1, b2, b3] 2 = b2 := rfl
    have r3 : rd [b0, b1, b2, b3] 3 = b3 := rfl
    simp only [spec_l2Digest.l3, w1, w2, w3, w4, r0, r1, r2, r3]
    rw [specBytes_eq b0 (by omega) (by omega) _ (by omega), specBytes_eq b1 (by omega) (by omega) _ (by omega), specBytes_eq b2 (by omega) (by omega) _ (by omega), specBytes_eq b3 (by omega) (by omega) _ (by omega)]
    simp [yb]
theorem specDig_l2 (d : Nat) : ∀ (a : List Int) (k i : Nat), inP a → i + d = 8 → d + 12 ≤ k → spec_l2Digest.l2 k a i = some ((dgAll a (List.replicate d 0)).flatMap yb) := by
  induction d with
  | zero =>
    intro a k i h hi hk
    obtain ⟨k, rfl⟩ : ∃ m, k = m + 1 := ⟨k - 1, by omega⟩
    simp only [spec_l2Digest.l2]
    rw [if_neg (by omega), specDig_l3 a h k (by omega)]; rfl
  | succ d ih =>
    intro a k i h hi hk
    obtain ⟨k, rfl⟩ : ∃ m, k = m + 1 := ⟨k - 1, by omega⟩
    simp only [spec_l2Digest.l2]
    rw [if_pos (by omega), specMix_eq a h 0 (by omega) k (by omega)]
    simp only [Option.bind_some]
    rw [w64 (by omega) (by omega), show ((i : Int) + 1) = ((i + 1 : Nat) : Int) from rfl, ih (dgMix a 0) k (i + 1) (inP_mix h 0 (by omega)) (by omega) (by omega)]
    rfl
theorem wbyte {x : Int} (h : 0 ≤ x ∧ x ≤ 255) : wrap64 x = x := w64 (by omega) (by omega)
theorem drop_rd {l : List Int} {i : Nat} (h : i < l.length) : l.drop i = rd l i :: l.drop (i + 1) := by rw [List.drop_eq_getElem_cons h, rd_nat h]
theorem specDig_l1 (xs : List Int) (hx : isBytes xs) (hl : xs.length ≤ 1000000000) (d : Nat) : ∀ (a : List Int) (k i : Nat), inP a → i + d = xs.length → d + 24 ≤ k →
    spec_l2Digest.l1 k a xs (xs.length : Int) i = some ((dgAll (dgAll a (xs.drop i)) (List.replicate 8 0)).flatMap yb) := by
  induction d with
  | zero =>
    intro a k i h hi hk
    obtain ⟨k, rfl⟩ : ∃ m, k = m + 1 := ⟨k - 1, by omega⟩
    simp only [spec_l2Digest.l1]
    rw [if_neg (by omega), List.drop_of_length_le (by omega)]
    exact specDig_l2 8 a k 0 h (by omega) (by omega)
  | succ d ih =>
    intro a k i h hi hk
    obtain ⟨k, rfl⟩ : ∃ m, k = m + 1 := ⟨k - 1, by omega⟩
    have hlt : i < xs.length := by omega
    have hb := hx (rd xs i) (rd_mem hlt)
    simp only [spec_l2Digest.l1]
    rw [if_pos (by omega), if_pos (by omega), if_pos (by omega), wbyte hb, specMix_eq a h _ hb k (by omega)]
    simp only [Option.bind_some]
    rw [w64 (by omega) (by omega), show ((i : Int) + 1) = ((i + 1 : Nat) : Int) from rfl, ih _ k (i + 1) (inP_mix h _ hb.1) (by omega) (by omega), drop_rd hlt, dgAll_cons]
theorem specDig_l0 (xs ys : List Int) (hx : isBytes xs) (hl : xs.length ≤ 1000000000) (hly : ys.length ≤ 1000000000) (d : Nat) : ∀ (a : List Int) (k i : Nat), inP a → i + d = xs.length → d + 40 ≤ k →
    spec_l2Digest.l0 k ys a xs (xs.length : Int) i = some ((dgAll (dgAll (dgAll a (xs.drop i)) (yb ys.length)) (List.replicate 8 0)).flatMap yb) := by
  induction d with
  | zero =>
    intro a k i h hi hk
    obtain ⟨k, rfl⟩ : ∃ m, k = m + 1 := ⟨k - 1, by omega⟩
    simp only [spec_l2Digest.l0]
    rw [if_neg (by omega), List.drop_of_length_le (by omega), specBytes_eq _ (by omega) (by omega) k (by omega)]
    exact specDig_l1 (yb ys.length) (yb_bytes _) (by rw [yb_len]; omega) 4 a k 0 h (by rw [yb_len]) (by omega)
  | succ d ih =>
    intro a k i h hi hk
    obtain ⟨k, rfl⟩ : ∃ m, k = m + 1 := ⟨k - 1, by omega⟩
    have hlt : i < xs.length := by omega
    have hb := hx (rd xs i) (rd_mem hlt)
    simp only [spec_l2Digest.l0]
    rw [if_pos (by omega), if_pos (by omega), if_pos (by omega), wbyte hb, specMix_eq a h _ hb k (by omega)]
    simp only [Option.bind_some]
    rw [w64 (by omega) (by omega), show ((i : Int) + 1) = ((i + 1 : Nat) : Int) from rfl, ih _ k (i + 1) (inP_mix h _ hb.1) (by omega) (by omega), drop_rd hlt, dgAll_cons]
theorem specDigest_eq (l : List Int) (h : isBytes l) (hl : l.length ≤ 1000000000) (k : Nat) (hk : l.length + 40 ≤ k) : spec_l2Digest.f k l = some (dg l) := by
  have := specDig_l0 l l h hl hl l.length [11, 22, 33, 44] k 0 inP_start (by omega) hk
  simpa [spec_l2Digest.f, dg, dgS] using this
theorem specDigest_ev (l : List Int) (h : isBytes l) (hl : l.length ≤ 1000000000) : Ev (fun k => spec_l2Digest.f k l) (dg l) := ⟨_, fun k hk => specDigest_eq l h hl k hk⟩
theorem isBytes_flatMap_yb (a : List Int) : isBytes (a.flatMap yb) := by
  intro x hx
  obtain ⟨n, _, hn⟩ := List.mem_flatMap.1 hx
  exact yb_bytes n x hn
theorem dg_bytes (l : List Int) : isBytes (dg l) := isBytes_flatMap_yb _
theorem dgAll_len : ∀ (l a : List Int), (dgAll a l).length = a.length
  | [], _ => rfl
  | x :: l, a => by rw [dgAll_cons, dgAll_len l, dgMix, mix_len]
theorem dg_len (l : List Int) : (dg l).length = 16 := by
  have h : (dgS l).length = 4 := by simp [dgS, dgAll_len]
  unfold dg
  match dgS l, h with
  | [b0, b1, b2, b3], _ => rfl
theorem isBytes_append {a b : List Int} (h : isBytes a) (h2 : isBytes b) : isBytes (a ++ b) := fun x hx => (List.mem_append.1 hx).elim (h x) (h2 x)
theorem implDigest_eq (l : List Int) (h : isBytes l) (hl : l.length ≤ 20000) : impl_Digest.f l = some (dg l) := by
  unfold impl_Digest.f; rw [if_pos h, if_neg (by omega)]
theorem isBytes_okL {l : List Int} (h : okL okB l) : isBytes l := fun x hx => h.2 x hx
theorem bytesOf_isBytes (s : ByteArray) : isBytes (bytesOf s) := by
  intro x hx
  simp only [bytesOf, List.mem_map] at hx
  obtain ⟨b, _, rfl⟩ := hx
  have := b.toNat_lt
  omega
/-- The sum of a key and data. -/
def macL (key data : List Int) : List Int := dg (dg key ++ dg data)
end Go.Proofs.YtgolcojhnklfdaaDoor.Pr
/- Macs: the reference's and the program's are one. -/
namespace Go.Proofs.YtgolcojhnklfdaaDoor.Pr
open Go.RowKit Go.Proofs.YtgolcojhnklfdaaDoor.Read Go.Proofs.YtgolcojhnklfdaaDoorW.PrintWords
theorem Ev.up2 {α : Type} {g : Nat → Option α} {r : α} (h : Ev (fun k => g (k + 1)) r) : Ev g r := by
  obtain ⟨n, hn⟩ := h
  refine ⟨n + 1, fun k hk => ?_⟩
  obtain ⟨k, rfl⟩ : ∃ m, k = m + 1 := ⟨k - 1, by omega⟩
  exact hn k (by omega)
theorem macTwo_ev (a b : List Int) (ha : isBytes a) (hb : isBytes b) (la : a.length ≤ 100000000) (lb : b.length ≤ 100000000) : Ev (fun k => spec_l2Two.f k a b) (dg (a ++ b)) := by
  have hab := specDigest_ev (a ++ b) (isBytes_append ha hb) (by rw [List.length_append]; omega)
  simp only [spec_l2Two.f, List.length_nil, if_pos (show 0 + a.length < 140737488355328 by omega), List.nil_append, Option.bind_some, if_pos (show a.length + b.length < 140737488355328 by omega)]
  exact Ev.bind hab (Ev.now _)
theorem macS_ev (a b : List Int) (ha : isBytes a) (hb : isBytes b) (la : a.length ≤ 100000000) (lb : b.length ≤ 100000000) : Ev (fun k => spec_l2Mac.f k a b) (macL a b) := by
  simp only [spec_l2Mac.f]
  refine Ev.bind (specDigest_ev a ha (by omega)) ?_
  refine Ev.bind (specDigest_ev b hb (by omega)) ?_
  exact Ev.bind (macTwo_ev _ _ (dg_bytes a) (dg_bytes b) (by rw [dg_len]; omega) (by rw [dg_len]; omega)) (Ev.now _)
theorem macI_ev (a b : List Int) (ha : isBytes a) (hb : isBytes b) (la : a.length ≤ 20000) (lb : b.length ≤ 20000) : Ev (fun k => impl_Mac.f k a b) (macL a b) := by
  refine Ev.up2 ?_
  simp only [impl_Mac.f, if_neg (show ¬ ((a.length : Int) > 20000) by omega), decide_eq_false (show ¬ ((b.length : Int) > 20000) by omega), impl_Mac.j0, Bool.false_eq_true, if_false, implDigest_eq a ha la, implDigest_eq b hb lb, Option.bind_some, if_pos (show (dg a).length + (dg b).length < 140737488355328 by rw [dg_len, dg_len]; omega), implDigest_eq _ (isBytes_append (dg_bytes a) (dg_bytes b)) (show (dg a ++ dg b).length ≤ 20000 by rw [List.length_append, dg_len, dg_len]; omega)]
  exact Ev.now _
theorem mac_bytes (a b : List Int) : isBytes (macL a b) := dg_bytes _
theorem mac_len (a b : List Int) : (macL a b).length = 16 := dg_len _
theorem bytesS_eq (s : ByteArray) (h : s.size ≤ 9223372036854775807) : bytesOfS.f s = some (bytesOf s) := by unfold bytesOfS.f; rw [if_pos h]
end Go.Proofs.YtgolcojhnklfdaaDoor.Pr
/- The law FnExactHandleOf, its plain part. -/
namespace Go.Proofs.YtgolcojhnklfdaaDoor.Pure
open Go.RowKit Go.Proofs.YtgolcojhnklfdaaDoor.Read Go.Proofs.YtgolcojhnklfdaaDoorW.PrintWords Go.Proofs.YtgolcojhnklfdaaDoor.Pr
theorem bytes_size (s : ByteArray) : (bytesOf s).length = s.size := by simp [bytesOf]
theorem take_bytes {l : List Int} (h : isBytes l) (n : Nat) : isBytes (l.take n) := fun x hx => h x (List.mem_of_mem_take hx)
theorem armB_size (data : List Int) : (armB data).size = armN data := by
  show (armU data (armN data)).toArray.size = _
  rw [List.size_toArray, armU_len]
def handleOk (key : List Int) (kind : ByteArray) (n : Int) : Prop := key.length ≤ 64 ∧ goodName kind = true ∧ 1 ≤ n ∧ n ≤ 1000000
instance (key : List Int) (kind : ByteArray) (n : Int) : Decidable (handleOk key kind n) := by unfold handleOk; infer_instance
def tailS (key : List Int) (t : ByteArray) : ByteArray := (t ++ (⟨#[45]⟩ : ByteArray)) ++ armB ((macL key (bytesOf t)).take 10)
def handleS (key : List Int) (kind : ByteArray) (n : Int) : ByteArray := if handleOk key kind n then tailS key (kind ++ decS n.toNat) else ⟨#[]⟩
theorem tail_room (key : List Int) (t : ByteArray) (h : t.size ≤ 100) : (t ++ (⟨#[45]⟩ : ByteArray)).size + (armB ((macL key (bytesOf t)).take 10)).size ≤ 9223372036854775807 := by
  have e : ((macL key (bytesOf t)).take 10).length = 10 := by rw [List.length_take, mac_len]; rfl
  rw [armB_size, ByteArray.size_append, show (⟨#[45]⟩ : ByteArray).size = 1 from rfl]
  unfold armN
  rw [e]
  omega
theorem specHandle_ev (key : List Int) (hk : isBytes key) (hl : key.length ≤ 64) (kind : ByteArray) (hs : kind.size ≤ 30) (u : Nat) (hu : u ≤ 1000000) : Ev (fun k => spec_l18Handle.f k key kind (u : Int)) (tailS key (kind ++ decS u)) := by
  have hd := decS_len u 6 (by omega)
  have hsz : (kind ++ decS u).size ≤ 37 := by rw [ByteArray.size_append]; omega
  have e10 : ((macL key (bytesOf (kind ++ decS u))).take 10).length = 10 := by rw [List.length_take, mac_len]; rfl
  simp only [spec_l18Handle.f]
  refine Ev.bind (l1Num_ev u (by omega)) ?_
  simp only [if_pos (show kind.size + (decS u).size ≤ 9223372036854775807 by omega), if_pos (show (kind ++ decS u).size + 1 ≤ 9223372036854775807 by omega), bytesS_eq (kind ++ decS u) (by omega), Option.bind_some]
  refine Ev.bind (macS_ev key _ hk (bytesOf_isBytes _) (by omega) (by rw [bytes_size]; omega)) ?_
  simp only [if_pos (show (10 : Int) ≤ ((macL key (bytesOf (kind ++ decS u))).length : Int) by rw [mac_len]; omega)]
  refine Ev.bind (specArmor_ev _ (take_bytes (mac_bytes _ _) 10) (by rw [e10]; omega)) ?_
  simp only [if_pos (tail_room key (kind ++ decS u) (by omega))]
  exact Ev.now _
theorem specHandleOf_ev (key : List Int) (hk : isBytes key) (kind : ByteArray) (hs : kind.size ≤ 9223372036854775807) (n : Int) : Ev (fun k => spec_HandleOf.f k key kind n) (handleS key kind n) := by
  simp only [spec_HandleOf.f]
  by_cases h1 : (key.length : Int) > 64
  · rw [show handleS key kind n = ⟨#[]⟩ from if_neg (fun h => by have := h.1; omega)]
    simp only [if_pos h1]; exact Ev.now _
  simp only [if_neg h1]
  refine Ev.bind (specName_ev kind hs) ?_
  by_cases h2 : goodName kind = true
  case neg =>
    rw [show handleS key kind n = ⟨#[]⟩ from if_neg (fun h => h2 h.2.1)]
    simp only [if_neg h2]; exact Ev.now _
  by_cases h3 : n < 1
  · rw [show handleS key kind n = ⟨#[]⟩ from if_neg (fun h => by have := h.2.2.1; omega)]
    simp only [if_pos h2, if_pos h3]; exact Ev.now _
  by_cases h4 : n > 1000000
  · rw [show handleS key kind n = ⟨#[]⟩ from if_neg (fun h => by have := h.2.2.2; omega)]
    simp only [if_pos h2, if_neg h3, if_pos h4]; exact Ev.now _
  obtain ⟨u, rfl⟩ := Int.eq_ofNat_of_zero_le (show 0 ≤ n by omega)
  rw [show handleS key kind (u : Int) = tailS key (kind ++ decS u) from (if_pos ⟨by omega, h2, by omega, by omega⟩).trans (by rw [Int.toNat_natCast])]
  simp only [if_pos h2, if_neg h3, if_neg h4]
  exact Ev.bind (specHandle_ev key hk (by omega) kind (name_size h2).2 u (by omega)) (Ev.now _)
theorem implHandleOf_ev (key : List Int) (hk : isBytes key) (kind : ByteArray) (hs : kind.size ≤ 9223372036854775807) (n : Int) : Ev (fun k => impl_HandleOf.f k key kind n) (handleS key kind n) := by
  refine Ev.up2 ?_
  simp only [impl_HandleOf.f, impl_HandleOf.j0, if_true]
  by_cases h1 : (key.length : Int) > 64
  · rw [show handleS key kind n = ⟨#[]⟩ from if_neg (fun h => by have := h.1; omega)]
    simp only [if_pos h1]; exact Ev.now _
  simp only [if_neg h1]
  refine Ev.bind (show Ev (fun k => impl_GoodName.f (k + 1) kind) (goodName kind) from (implName_ev kind hs).elim fun n hn => ⟨n, fun k hk => hn (k + 1) (by omega)⟩) ?_
  by_cases h2 : goodName kind = true
  case neg =>
    rw [show handleS key kind n = ⟨#[]⟩ from if_neg (fun h => h2 h.2.1)]
    simp only [if_neg h2]; exact Ev.now _
  by_cases h3 : n < 1
  · rw [show handleS key kind n = ⟨#[]⟩ from if_neg (fun h => by have := h.2.2.1; omega)]
    simp only [if_pos h2, if_pos h3]; exact Ev.now _
  by_cases h4 : n > 1000000
  · rw [show handleS key kind n = ⟨#[]⟩ from if_neg (fun h => by have := h.2.2.2; omega)]
    simp only [if_pos h2, if_neg h3, decide_eq_true h4, if_true]; exact Ev.now _
  obtain ⟨u, rfl⟩ := Int.eq_ofNat_of_zero_le (show 0 ≤ n by omega)
  rw [show handleS key kind (u : Int) = tailS key (kind ++ decS u) from (if_pos ⟨by omega, h2, by omega, by omega⟩).trans (by rw [Int.toNat_natCast])]
  have hns := name_size h2
  have hd := decS_len u 6 (by omega)
  have hsz : (kind ++ decS u).size ≤ 37 := by rw [ByteArray.size_append]; omega
  have e10 : ((macL key (bytesOf (kind ++ decS u))).take 10).length = 10 := by rw [List.length_take, mac_len]; rfl
  have ha : impl_Armor.f ((macL key (bytesOf (kind ++ decS u))).take 10) = some (armB ((macL key (bytesOf (kind ++ decS u))).take 10)) := by
    unfold impl_Armor.f
    rw [if_pos (take_bytes (mac_bytes _ _) 10), if_neg (by rw [e10]; omega)]
  simp only [if_pos h2, if_neg h3, decide_eq_false h4, Bool.false_eq_true, if_false, itoa_eq u (by omega), Option.bind_some, if_pos (show kind.size + (decS u).size ≤ 9223372036854775807 by omega), if_pos (show (kind ++ decS u).size + 1 ≤ 9223372036854775807 by omega), bytesS_eq (kind ++ decS u) (by omega)]
  refine Ev.bind (macI_ev key _ hk (bytesOf_isBytes _) (by omega) (by rw [bytes_size]; omega)) ?_
  simp only [if_pos (show (10 : Int) ≤ ((macL key (bytesOf (kind ++ decS u))).length : Int) by rw [mac_len]; omega), ha, Option.bind_some, if_pos (tail_room key (kind ++ decS u) (by omega))]
  exact Ev.now _
theorem FnExactHandleOf : laws_FnExactHandleOf.Pure := by
  intro key kind n hkey hkind hn
  have hb := isBytes_okL hkey
  apply Ev.rounds
  simp only [laws_FnExactHandleOf.f]
  by_cases h0 : (key.length : Int) > 1048576
  · simp only [if_pos h0]; exact Ev.now _
  by_cases h4 : (kind.size : Int) > 1048576
  · simp only [if_neg h0, if_pos h4]; exact Ev.now _
  simp only [if_neg h0, if_neg h4]
  have hL := toByteS_ev key (by omega)
  refine Ev.bind hL (Ev.bind (specHandleOf_ev key hb kind hkind n) (Ev.bind hL (Ev.bind (implHandleOf_ev key hb kind hkind n) ?_)))
  simp only [if_true]
  refine Ev.bind hL (Ev.bind (eqByteS_refl key (by omega)) ?_)
  simp only [if_true]
  exact Ev.now _
end Go.Proofs.YtgolcojhnklfdaaDoor.Pure
/- The law FnExactHandleOf: whatever the input, the call returns true and the arguments read as before. No conditions. -/
namespace Go.Proofs.YtgolcojhnklfdaaDoor.fnExactHandleOf
open Go.ChangeShapes Go.WideShapes Go.ChangeAt Go.RowKit Go.Proofs.YtgolcojhnklfdaaDoor.Read Go.Proofs.YtgolcojhnklfdaaDoorW.PrintWords Go.Proofs.YtgolcojhnklfdaaDoor.Pr
open Go.ChangeMaps (open_string shut_string)
set_option linter.unusedVariables false
theorem own : ownKnob Tryd.prog.godebug = none := by kernel_rfl
theorem laidOut : laidOutB Tryd.prog = true := by kernel_rfl
def tabCells (d : DataW Unit) : Array Value := match d with | .agg l => (l.map fun x => match x with | .lit (.int k z) => Value.int k z | _ => undef).toArray | _ => #[]
/-- The settled world, the listed tables as their initialisers lay them: the witness. -/
noncomputable def laidWorld (os : Os) : World := { World.holding Tryd.prog os ⟨#[], #[], []⟩ with heap := (fun h => h.modify 1 fun | .cells _ t frozen => .cells (tabCells Rows.laid_math_bits_deBruijn32tab) t frozen | o => o) <| (fun h => h.modify 2 fun | .cells _ t frozen => .cells (tabCells Rows.laid_math_bits_deBruijn64tab) t frozen | o => o) <| (fun h => h.modify 0 fun | .cells _ t frozen => .cells (tabCells Rows.laid_internal_strconv_uint64pow10) t frozen | o => o) <| (World.holding Tryd.prog os ⟨#[], #[], []⟩).heap }
set_option maxRecDepth 100000 in
theorem laidWorld_met (os : Os) (args : Array Value) : laidMet Tryd.prog Rows.fnExactHandleOfRow.laid ((laidWorld os).forCall (fun _ _ => 0) ⟨#[], args, []⟩).memory :=
  laidMet_of_run' 8 (by kernel_rfl) (by kernel_rfl)
set_option maxRecDepth 100000 in
theorem tab_of_laid {W : World} (h : laidMet Tryd.prog Rows.fnExactHandleOfRow.laid W) : TabW W := by
  have h2 : laidMet Tryd.prog (("internal/strconv.uint64pow10", Lib.tabData .u64 Lib.pow10Tab) :: []) W := laidMet.tail (laidMet.tail ((show laidMet Tryd.prog (("math/bits.deBruijn32tab", Rows.laid_math_bits_deBruijn32tab) :: ("math/bits.deBruijn64tab", Rows.laid_math_bits_deBruijn64tab) :: ("internal/strconv.uint64pow10", Lib.tabData .u64 Lib.pow10Tab) :: []) W from h)))
  exact Lib.tabIs_of_head (g := 0) (t := 76) (e := 44) (n := 20) (by kernel_rfl) (by kernel_rfl) Tryd.underlying76 Tryd.underlying44 (by kernel_rfl) (by kernel_rfl) h2
set_option maxRecDepth 100000 in
theorem lifted (os : Os) (started : os.Started) (H : Type) (enc : TypeId × Value → H) :
    ReturnsInHanded {} Tryd.checked os 7 .any (fun w args => (Rows.fnExactHandleOfSpec.pre enc Tryd.prog Tryd.f7 Rows.fnExactHandleOfRow.domain false w args ∧ laidMet Tryd.prog Rows.fnExactHandleOfRow.laid w) ∧ sizedMet enc Tryd.prog Tryd.f7 (OpenSpec.ofChange Rows.fnExactHandleOfSpec) false w args) (Rows.fnExactHandleOfSpec.post enc Tryd.prog Tryd.f7 false true false false) := by
  refine returnsInHanded_of_change_and (C := Tryd.checked) (X := fun w _ => laidMet Tryd.prog Rows.fnExactHandleOfRow.laid w) (fun _ _ _ hh h => h.of_heap hh) own started (by kernel_rfl) Tryd.func7
    (ChangeSpec.witness_at (enc := enc) (C := Tryd.checked) (os := os) (X := fun w _ => laidMet Tryd.prog Rows.fnExactHandleOfRow.laid w) false (laidWorld os) #[.slice none 0 0, .string ByteArray.empty, .int .i64 0] 8 rfl (by kernel_rfl) (by kernel_rfl) (by kernel_rfl) (by kernel_rfl) (by kernel_rfl) (laidWorld_met os _)) ?_
  intro W base args ds gs before hval0 hW hcnd _ hL _
  have htab := tab_of_laid hL
  clear hL
  have hval : ∀ (j : Nat) t v, Tryd.f7.params[j]? = some t → args[j]? = some v → Value.okWide Tryd.prog W .any base t v := hval0
  have hW' := hW
  obtain ⟨p, q, hA0, hV, rfl, hfz, hnd⟩ := hW
  have hA : DataW.TrodAll enc Tryd.prog W 0 (fun _ => true) true Tryd.f7.params.toList args.toList ds p := hA0
  rw [Tryd.params7] at hA hval
  obtain ⟨v0, vs0, d0, ds0, p0, q0, hargs, rfl, rfl, h0, r0⟩ := trodAll_cons hA
  obtain ⟨v1, vs1, d1, ds1, p1, q1, rfl, rfl, rfl, h1, r1⟩ := trodAll_cons r0
  obtain ⟨v2, vs2, d2, ds2, p2, q2, rfl, rfl, rfl, h2, r2⟩ := trodAll_cons r1
  obtain ⟨rfl, rfl, rfl⟩ := trodAll_nil r2
  obtain rfl : args = #[v0, v1, v2] := by cases args; simp_all
  obtain ⟨rfl, rfl⟩ := trodVars_none hV
  have lt0 : ∀ x ∈ p0, x.block < W.heap.size := by obtain ⟨m, hm⟩ := h0; exact DataW.trod_lt m _ _ _ hm
  have bk0 := fun {W' : World} (bel : Below W.heap.size W W') => Below.trod laidOut (by kernel_rfl) (of_decide_eq_true (by kernel_rfl)) h0 bel lt0
  obtain ⟨A0, c0, l0, rfl, hl0, hC0, o0⟩ := arg_slice Tryd.underlying24 (tellsL Tryd.underlying24 (by kernel_rfl) (tellsB Tryd.underlying5 (by kernel_rfl))) (hval 0 24 v0 rfl rfl) h0
  have lt1 : ∀ x ∈ p1, x.block < W.heap.size := by obtain ⟨m, hm⟩ := h1; exact DataW.trod_lt m _ _ _ hm
  have bk1 := fun {W' : World} (bel : Below W.heap.size W W') => Below.trod laidOut (by kernel_rfl) (of_decide_eq_true (by kernel_rfl)) h1 bel lt1
  obtain ⟨a1, rfl, _, _, o1⟩ := open_string Tryd.underlying9 (hval 1 9 v1 rfl rfl) h1
  unfold maxLen at o1
  have lt2 : ∀ x ∈ p2, x.block < W.heap.size := by obtain ⟨m, hm⟩ := h2; exact DataW.trod_lt m _ _ _ hm
  have bk2 := fun {W' : World} (bel : Below W.heap.size W W') => Below.trod laidOut (by kernel_rfl) (of_decide_eq_true (by kernel_rfl)) h2 bel lt2
  obtain ⟨a2, rfl, _, _, w2⟩ := open_int Tryd.underlying3 (hval 2 3 v2 rfl rfl) h2
  have o2 := int_bounds w2
  obtain ⟨k, hk⟩ := Pure.FnExactHandleOf l0 a1 a2 o0 o1 o2
  refine (laws_FnExactHandleOf.calls k _ _ l0 a1 a2 true W htab hC0 hl0 hk).mono fun e W' hpost => ?_
  obtain ⟨he, hb⟩ := hpost
  have bel : Below W.heap.size W W' := hb
  subst he
  exact ⟨_, rfl, _, _, _, [], _, [], hW', trodAll_mk1 (shut_bool Tryd.underlying4 _), (trodAll_cons_mk (bk0 bel) (trodAll_cons_mk (bk1 bel) (trodAll_cons_mk (bk2 bel) trodAll_mk0))), rfl, bel.frame _, fun h => by cases h⟩
theorem over : Rows.fnExactHandleOfRow.holds Tryd.pinned (OpenSpec.ofChange Rows.fnExactHandleOfSpec) :=
  OpenClaim.holds_of_wide 7 Tryd.f7 rfl rfl rfl rfl rfl rfl rfl ⟨rfl, rfl, rfl, rfl, rfl⟩ rfl rfl rfl rfl rfl (by kernel_rfl) Tryd.func7 (by kernel_rfl)
    (of_decide_eq_true (by kernel_rfl)) (by unfold Func.isWrapper; first | (rw [if_pos (by decide +kernel)]; kernel_rfl) | (rw [if_neg (by decide +kernel)]; exact ⟨rfl, rfl⟩))
    (fun os started H enc _ => lifted os started H enc)
theorem row_holds : Rows.FnExactHandleOfSaid := over
set_option maxRecDepth 100000 in
theorem proved : Rows.FnExactHandleOfCardSaid :=
  Claim7.holds_tied_plain_at .later [] [.data, .data, .data] true (true, "1e6a8922366cf09168929c257155384586c207a6c69de8522cb5cc8914ef7523") false over (fun _ h => by cases h) (by kernel_rfl) (fun _ h => by cases h) fnExactHandleOf_row_tie rfl ⟨rfl, rfl⟩ (by kernel_rfl) rfl
    (fun f fn hf hfn => by
      obtain rfl : f = 7 := Option.some.inj ((show Tryd.prog.funcNamed "loop.example/g00036/laws.FnExactHandleOf" = some 7 by kernel_rfl).symm.trans hf) |>.symm
      obtain rfl : fn = Tryd.f7 := (Option.some.inj (Tryd.func7.symm.trans hfn)).symm
      exact ⟨by kernel_rfl, fun j t ht => by
        rw [Tryd.params7] at ht
        have hm : t ∈ ([24, 9, 3] : List TypeId) := by
          have h2 : ([24, 9, 3] : List TypeId)[j]? = some t := by simpa using ht
          exact List.mem_of_getElem? h2
        simp only [List.mem_cons, List.not_mem_nil, or_false] at hm
        rcases hm with rfl | rfl | rfl
        · exact (show Tryd.prog.wantsStandIn 24 = false by kernel_rfl)
        · exact (show Tryd.prog.wantsStandIn 9 = false by kernel_rfl)
        · exact (show Tryd.prog.wantsStandIn 3 = false by kernel_rfl)⟩)
    (by kernel_rfl)
#print axioms proved
end Go.Proofs.YtgolcojhnklfdaaDoor.fnExactHandleOf
namespace Go.Proofs.YtgolcojhnklfdaaDoor
/-- The row, under a short name, for the claim. -/
theorem fnExactHandleOf_holds : Rows.FnExactHandleOfCardSaid := fnExactHandleOf.proved
end Go.Proofs.YtgolcojhnklfdaaDoor
