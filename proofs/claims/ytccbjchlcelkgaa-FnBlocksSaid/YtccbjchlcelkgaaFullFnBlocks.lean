/- The law FnBlocks: whatever the input, the call returns true and the arguments read as before. No conditions. -/
import Derived.Test.YtccbjchlcelkgaaFullFnBlocksC
import Derived.Test.YtccbjchlcelkgaaFullFnBlocksF
import Derived.Test.YtccbjchlcelkgaaFullFnBlocksE
import Derived.Test.YtccbjchlcelkgaaFullFnBlocksD
import Derived.Laws.Strings
import Derived.Test.YtccbjchlcelkgaaRows
import Derived.WalkKit
import Derived.ProofKit
import Derived.OpenShut
import Derived.ShutString
import Derived.ChangeOld
import Derived.Below
/- The pure statement of the law FnBlocks. -/
namespace Go.Proofs.Ytccbjchlcelkgaa.Pr
open Go.RowKit Go.Proofs.Ytccbjchlcelkgaa.Read Go.Proofs.YtccbjchlcelkgaaW.PrintWords
set_option linter.unusedVariables false
/-- What is left of the law FnBlocks: a statement about numbers and lists. -/
def laws_FnBlocks.Pure : Prop := ∀ (l0 : (List Int)) (l1 : (List Int)), (okL okB) l0 → (okL okB) l1 → ∃ k, laws_FnBlocks.f k l0 l1 = some true
end Go.Proofs.Ytccbjchlcelkgaa.Pr
/- The helpers over slices of bytes: copied, compared, marked, held: plain facts. -/
namespace Go.Proofs.Ytccbjchlcelkgaa.Pr
open Go.RowKit Go.Proofs.Ytccbjchlcelkgaa.Read Go.Proofs.YtccbjchlcelkgaaW.PrintWords

theorem w64 {n : Int} (h0 : -9223372036854775808 ≤ n) (h1 : n ≤ 9223372036854775807) : wrap64 n = n := by unfold wrap64; omega
theorem rd_nat {l : List Int} {i : Nat} (h : i < l.length) : rd l (i : Int) = l[i] := by
  simp [rd, List.getD_eq_getElem?_getD, List.getElem?_eq_getElem h]
theorem list_rd_ext {a b : List Int} (hl : a.length = b.length) (h : ∀ i : Nat, i < a.length → rd a i = rd b i) : a = b := by
  apply List.ext_getElem hl
  intro i h1 h2
  have := h i h1
  rwa [rd_nat h1, rd_nat h2] at this




/-- What a marked slice of n bytes holds, counted from k. -/
def markL : Nat → Int → List Int
  | 0, _ => []
  | n + 1, k => k % 256 :: markL n (k + 1)
theorem markL_len : ∀ (n : Nat) (k : Int), (markL n k).length = n
  | 0, _ => rfl
  | n + 1, k => by simp [markL, markL_len n]
end Go.Proofs.Ytccbjchlcelkgaa.Pr
/- Printed texts, told the same by the program and by the reference. Plain facts. -/
namespace Go.Proofs.Ytccbjchlcelkgaa.Pr
open Go.RowKit Go.Proofs.Ytccbjchlcelkgaa.Read Go.Proofs.YtccbjchlcelkgaaW.PrintWords
/-- Are the last d bytes of s all printed ones? -/
def prtN (s : ByteArray) : Nat → Bool
  | 0 => true
  | d + 1 => if bt s ((s.size - (d + 1) : Nat) : Int) < 32 then false else if bt s ((s.size - (d + 1) : Nat) : Int) > 126 then false else prtN s d
def prt (s : ByteArray) : Bool := prtN s s.size
theorem l1Printed_l0 (s : ByteArray) (hs : s.size ≤ 9223372036854775807) (d : Nat) : ∀ (k i : Nat), s.size - i = d → i ≤ s.size → d < k → spec_l1Printed.l0 k s i = some (prtN s d) := by
  induction d with
  | zero =>
    intro k i hd hi hk
    obtain ⟨k, rfl⟩ : ∃ m, k = m + 1 := ⟨k - 1, by omega⟩
    simp only [spec_l1Printed.l0]
    rw [if_neg (by omega)]; rfl
  | succ d ih =>
    intro k i hd hi hk
    obtain ⟨k, rfl⟩ : ∃ m, k = m + 1 := ⟨k - 1, by omega⟩
    have e0 : s.size - (d + 1) = i := by omega
    simp only [spec_l1Printed.l0, prtN, e0]
    rw [if_pos (by omega), if_pos (by omega), w64 (by omega) (by omega), show ((i : Int) + 1) = ((i + 1 : Nat) : Int) from rfl, ih k (i + 1) (by omega) (by omega) (by omega)]
    split
    · rfl
    · split <;> rfl
theorem l1Printed_eq (s : ByteArray) (hs : s.size ≤ 9223372036854775807) (k : Nat) (hk : s.size < k) : spec_l1Printed.f k s = some (prt s) :=
  l1Printed_l0 s hs s.size k 0 (by omega) (by omega) hk
theorem yprinted_l0 (s : ByteArray) (hs : s.size ≤ 9223372036854775807) (d : Nat) : ∀ (k i : Nat), s.size - i = d → i ≤ s.size → d < k → impl_yprinted.l0 k s (s.size : Int) i = some (prtN s d) := by
  induction d with
  | zero =>
    intro k i hd hi hk
    obtain ⟨k, rfl⟩ : ∃ m, k = m + 1 := ⟨k - 1, by omega⟩
    simp only [impl_yprinted.l0]
    rw [if_neg (by omega)]; rfl
  | succ d ih =>
    intro k i hd hi hk
    obtain ⟨k, rfl⟩ : ∃ m, k = m + 1 := ⟨k - 1, by omega⟩
    have e0 : s.size - (d + 1) = i := by omega
    simp only [impl_yprinted.l0, prtN, e0]
    rw [if_pos (by omega), if_pos (by omega), if_pos (by omega), w64 (by omega) (by omega), show ((i : Int) + 1) = ((i + 1 : Nat) : Int) from rfl, ih k (i + 1) (by omega) (by omega) (by omega)]
    split
    · rfl
    · split <;> rfl
theorem yprinted_eq (s : ByteArray) (lo hi : Int) (hs : s.size ≤ 9223372036854775807) (k : Nat) (hk : s.size + 1 < k) : impl_yprinted.f k s lo hi = some (decide (lo ≤ s.size) && decide ((s.size : Int) ≤ hi) && prt s) := by
  obtain ⟨k, rfl⟩ : ∃ m, k = m + 1 := ⟨k - 1, by omega⟩
  unfold impl_yprinted.f
  have e := yprinted_l0 s hs s.size k 0 (by omega) (by omega) (by omega)
  by_cases h1 : (s.size : Int) < lo
  · rw [if_pos h1]
    simp only [impl_yprinted.j0, if_true]
    simp; omega
  · rw [if_neg h1]
    have h1' : decide (lo ≤ (s.size : Int)) = true := decide_eq_true (by omega)
    by_cases h2 : (s.size : Int) ≤ hi
    · have h2' : decide ((s.size : Int) > hi) = false := decide_eq_false (by omega)
      have h2'' : decide ((s.size : Int) ≤ hi) = true := decide_eq_true h2
      rw [h1', h2', h2'']
      simp only [impl_yprinted.j0, Bool.false_eq_true, if_false, Bool.true_and]
      exact e
    · have h2' : decide ((s.size : Int) > hi) = true := decide_eq_true (by omega)
      have h2'' : decide ((s.size : Int) ≤ hi) = false := decide_eq_false h2
      rw [h1', h2', h2'']
      simp [impl_yprinted.j0]

end Go.Proofs.Ytccbjchlcelkgaa.Pr
/- Names: what is good, told the same by the program and by the reference. -/
namespace Go.Proofs.Ytccbjchlcelkgaa.Pr
open Go.RowKit Go.Proofs.Ytccbjchlcelkgaa.Read Go.Proofs.YtccbjchlcelkgaaW.PrintWords
def nletC (c : Int) : Bool := decide (97 ≤ c ∧ c ≤ 122 ∨ 65 ≤ c ∧ c ≤ 90)
def ndigC (c : Int) : Bool := decide (48 ≤ c ∧ c ≤ 57)
theorem nsletter_eq (c : Int) : spec_l1Letter.f c = some (nletC c) := by
  unfold spec_l1Letter.f nletC
  split
  · split
    · congr 1; symm; rw [decide_eq_true_eq]; omega
    · split
      · congr 1; rw [decide_eq_decide]; omega
      · congr 1; symm; rw [decide_eq_false_iff_not]; omega
  · split
    · congr 1; rw [decide_eq_decide]; omega
    · congr 1; symm; rw [decide_eq_false_iff_not]; omega
theorem nsdigit_eq (c : Int) : spec_l1Digit.f c = some (ndigC c) := by
  unfold spec_l1Digit.f ndigC
  split
  · congr 1; rw [decide_eq_decide]; omega
  · congr 1; symm; rw [decide_eq_false_iff_not]; omega
theorem niletter_eq (c : Int) : impl_yletter.f c = some (nletC c) := by
  unfold impl_yletter.f nletC
  split
  · split
    · congr 1; symm; rw [decide_eq_true_eq]; omega
    · split
      · congr 1; rw [decide_eq_decide]; omega
      · congr 1; symm; rw [decide_eq_false_iff_not]; omega
  · split
    · congr 1; rw [decide_eq_decide]; omega
    · congr 1; symm; rw [decide_eq_false_iff_not]; omega
theorem nidigit_eq (c : Int) : impl_ydigit.f c = some (ndigC c) := by
  unfold impl_ydigit.f ndigC
  split
  · congr 1; rw [decide_eq_decide]; omega
  · congr 1; symm; rw [decide_eq_false_iff_not]; omega
def nameC (c : Int) : Bool := if nletC c = true then true else if ndigC c = true then true else if c = 95 then true else false
/-- Are the last d bytes of s all those of a name? -/
def nameN (s : ByteArray) : Nat → Bool
  | 0 => true
  | d + 1 => if nameC (bt s ((s.size - (d + 1) : Nat) : Int)) = true then nameN s d else false
theorem sName_l0 (s : ByteArray) (hs : s.size ≤ 9223372036854775807) (d : Nat) : ∀ (k i : Nat), s.size - i = d → i ≤ s.size → d < k → spec_GoodName.l0 k s i = some (nameN s d) := by
  induction d with
  | zero =>
    intro k i hd hi hk
    obtain ⟨k, rfl⟩ : ∃ m, k = m + 1 := ⟨k - 1, by omega⟩
    simp only [spec_GoodName.l0]
    rw [if_neg (by omega)]
    rfl
  | succ d ih =>
    intro k i hd hi hk
    obtain ⟨k, rfl⟩ : ∃ m, k = m + 1 := ⟨k - 1, by omega⟩
    have e0 : s.size - (d + 1) = i := by omega
    simp only [spec_GoodName.l0, nameN, e0, nsletter_eq, nsdigit_eq, Option.bind_some]
    rw [if_pos (by omega), if_pos (by omega), w64 (by omega) (by omega), show ((i : Int) + 1) = ((i + 1 : Nat) : Int) from rfl, ih k (i + 1) (by omega) (by omega) (by omega)]
    unfold nameC
    split
    · simp only [if_true]
    · split
      · simp only [if_true]
      · split <;> simp only [if_true, Bool.false_eq_true, if_false]
theorem iName_l0 (s : ByteArray) (hs : s.size ≤ 9223372036854775807) (d : Nat) : ∀ (k i : Nat), s.size - i = d → i ≤ s.size → d < k → impl_GoodName.l0 k s (s.size : Int) i = some (nameN s d) := by
  induction d with
  | zero =>
    intro k i hd hi hk
    obtain ⟨k, rfl⟩ : ∃ m, k = m + 1 := ⟨k - 1, by omega⟩
    simp only [impl_GoodName.l0]
    rw [if_neg (by omega)]
    rfl
  | succ d ih =>
    intro k i hd hi hk
    obtain ⟨k, rfl⟩ : ∃ m, k = m + 1 := ⟨k - 1, by omega⟩
    have e0 : s.size - (d + 1) = i := by omega
    simp only [impl_GoodName.l0, nameN, e0, impl_ywordByte.f, niletter_eq, nidigit_eq, Option.bind_some]
    rw [if_pos (by omega), if_pos (by omega), if_pos (by omega), w64 (by omega) (by omega), show ((i : Int) + 1) = ((i + 1 : Nat) : Int) from rfl, ih k (i + 1) (by omega) (by omega) (by omega)]
    unfold nameC
    by_cases h1 : nletC (bt s (i : Int)) = true
    · simp only [h1, if_true, Option.bind_some]
    · simp only [h1, Bool.false_eq_true, if_false]
      by_cases h2 : ndigC (bt s (i : Int)) = true
      · simp only [h2, if_true, Option.bind_some]
      · simp only [h2, Bool.false_eq_true, if_false, Option.bind_some, beq_iff_eq]
        by_cases h3 : bt s (i : Int) = 95
        · simp only [h3, if_true]
        · simp only [h3, if_false, Bool.false_eq_true]
/-- Is s a name? -/
def goodName (s : ByteArray) : Bool := if 1 ≤ s.size ∧ s.size ≤ 30 then (if ndigC (bt s 0) = true then false else nameN s s.size) else false
theorem name_size {s : ByteArray} (h : goodName s = true) : 1 ≤ s.size ∧ s.size ≤ 30 := by
  unfold goodName at h
  by_cases h1 : 1 ≤ s.size ∧ s.size ≤ 30
  · exact h1
  · rw [if_neg h1] at h; cases h
theorem list_nil_size {s : ByteArray} : s.toList = ([] : List UInt8) ↔ s.size = 0 := by
  rw [ByteArray.toList_eq]
  constructor
  · intro h
    have := congrArg List.length h
    rwa [data_length] at this
  · intro h
    exact List.eq_nil_of_length_eq_zero (by rw [data_length]; exact h)
theorem specName_ev (s : ByteArray) (hs : s.size ≤ 9223372036854775807) : Ev (fun k => spec_GoodName.f k s) (goodName s) := by
  refine ⟨s.size + 3, fun k hk => ?_⟩
  obtain ⟨k, rfl⟩ : ∃ m, k = m + 1 := ⟨k - 1, by omega⟩
  show spec_GoodName.f (k + 1) s = _
  simp only [spec_GoodName.f, spec_GoodName.j0, if_true, goodName]
  by_cases h1 : (s.size : Int) < 1
  · rw [if_pos h1, if_neg (show ¬ (1 ≤ s.size ∧ s.size ≤ 30) by omega)]
  by_cases h2 : (s.size : Int) > 30
  · rw [if_neg h1, if_pos h2, if_neg (show ¬ (1 ≤ s.size ∧ s.size ≤ 30) by omega)]
  rw [if_neg h1, if_neg h2, if_pos (show 1 ≤ s.size ∧ s.size ≤ 30 by omega), if_pos (by omega), nsdigit_eq, Option.bind_some]
  by_cases h3 : ndigC (bt s 0) = true
  · rw [if_pos h3, if_pos h3]
  · rw [if_neg h3, if_neg h3]
    exact sName_l0 s hs s.size k 0 (by omega) (by omega) (by omega)
theorem implName_ev (s : ByteArray) (hs : s.size ≤ 9223372036854775807) : Ev (fun k => impl_GoodName.f k s) (goodName s) := by
  refine ⟨s.size + 3, fun k hk => ?_⟩
  obtain ⟨k, rfl⟩ : ∃ m, k = m + 1 := ⟨k - 1, by omega⟩
  show impl_GoodName.f (k + 1) s = _
  simp only [impl_GoodName.f, impl_GoodName.j0, if_true, goodName]
  by_cases h1 : s.size = 0
  · rw [if_pos (list_nil_size.2 h1), if_neg (show ¬ (1 ≤ s.size ∧ s.size ≤ 30) by omega)]
  by_cases h2 : (s.size : Int) > 30
  · rw [if_neg (fun e => h1 (list_nil_size.1 e)), if_pos h2, if_neg (show ¬ (1 ≤ s.size ∧ s.size ≤ 30) by omega)]
  rw [if_neg (fun e => h1 (list_nil_size.1 e)), if_neg h2, if_pos (show 1 ≤ s.size ∧ s.size ≤ 30 by omega), if_pos (by omega), nidigit_eq, Option.bind_some]
  by_cases h3 : ndigC (bt s 0) = true
  · rw [if_pos h3, if_pos h3]
  · rw [if_neg h3, if_neg h3]
    exact iName_l0 s hs s.size k 0 (by omega) (by omega) (by omega)
end Go.Proofs.Ytccbjchlcelkgaa.Pr
/- Atoms: what is good, told the same by the program and by the reference. Plain facts. -/
namespace Go.Proofs.Ytccbjchlcelkgaa.Pr
open Go.RowKit Go.Proofs.Ytccbjchlcelkgaa.Read Go.Proofs.YtccbjchlcelkgaaW.PrintWords
set_option linter.unusedVariables false
theorem Ev.upA {α : Type} {g : Nat → Option α} {r : α} (h : Ev (fun k => g (k + 1)) r) : Ev g r := by
  obtain ⟨n, h⟩ := h
  refine ⟨n + 1, fun k hk => ?_⟩
  obtain ⟨k, rfl⟩ : ∃ m, k = m + 1 := ⟨k - 1, by omega⟩
  exact h k (by omega)
theorem pow_le62 {n : Nat} (h : n ≤ 62) : (2 : Int) ^ n ≤ 4611686018427387904 := by
  have h2 : (2 : Nat) ^ n ≤ 4611686018427387904 := Nat.pow_le_pow_right (show 0 < 2 by decide) h
  have h3 : ((2 ^ n : Nat) : Int) ≤ ((4611686018427387904 : Nat) : Int) := Int.ofNat_le.2 h2
  rw [Int.natCast_pow] at h3
  exact h3
theorem pow_le32 {n : Nat} (h : n ≤ 32) : (2 : Int) ^ n ≤ 4294967296 := by
  have h2 : (2 : Nat) ^ n ≤ 4294967296 := Nat.pow_le_pow_right (show 0 < 2 by decide) h
  have h3 : ((2 ^ n : Nat) : Int) ≤ ((4294967296 : Nat) : Int) := Int.ofNat_le.2 h2
  rw [Int.natCast_pow] at h3
  exact h3
theorem pow_pos2 (n : Nat) : (0 : Int) < 2 ^ n := Int.pow_pos (by decide)
theorem pow2_l0 (n : Nat) (hn : n ≤ 62) (d : Nat) : ∀ (k j : Nat), j + d = n → d < k → spec_l1Pow2.l0 k (n : Int) (2 ^ j) (j : Int) = some (2 ^ n) := by
  induction d with
  | zero =>
    intro k j hj hk
    obtain ⟨k, rfl⟩ : ∃ m, k = m + 1 := ⟨k - 1, by omega⟩
    obtain rfl : j = n := by omega
    rw [spec_l1Pow2.l0, if_neg (by omega)]
  | succ d ih =>
    intro k j hj hk
    obtain ⟨k, rfl⟩ : ∃ m, k = m + 1 := ⟨k - 1, by omega⟩
    have hp := pow_le62 (n := j + 1) (by omega)
    have h0 := pow_pos2 j
    rw [Int.pow_succ] at hp
    have e1 : wrap64 ((2 : Int) ^ j * 2) = 2 ^ (j + 1) := by rw [w64 (by omega) (by omega), Int.pow_succ]
    have e2 : wrap64 ((j : Int) + 1) = ((j + 1 : Nat) : Int) := by rw [w64 (by omega) (by omega)]; rfl
    rw [spec_l1Pow2.l0, if_pos (by omega), e1, e2]
    exact ih k (j + 1) (by omega) (by omega)
theorem pow2_eq (n : Nat) (hn : n ≤ 62) (k : Nat) (hk : n < k) : spec_l1Pow2.f k (n : Int) = some (2 ^ n) := pow2_l0 n hn n k 0 (by omega) hk
/-- What is known of a block's number: it is made of an address and of how many bits stand fast. -/
def blkOk (n : Int) : Prop := 0 ≤ n ∧ n % 64 ≤ 32 ∧ n / 64 < 4294967296 ∧ n / 64 % 2 ^ (32 - n % 64).toNat = 0
instance (n : Int) : Decidable (blkOk n) := by unfold blkOk; infer_instance
def noTexts (t ty : ByteArray) : Bool := decide (t.size = 0) && decide (ty.size = 0)
def goodAtom (k n : Int) (t ty : ByteArray) : Bool :=
  if k = 1 then noTexts t ty && decide (n = 0 ∨ n = 1)
  else if k = 2 ∨ k = 5 then noTexts t ty
  else if k = 3 then decide (n = 0 ∧ ty.size = 0) && (decide (t.size ≤ 200) && prt t)
  else if k = 4 then decide (n = 0) && (goodName ty && (decide (1 ≤ t.size ∧ t.size ≤ 200) && prt t))
  else if k = 6 then noTexts t ty && decide (blkOk n)
  else if k = 7 then noTexts t ty && decide (-100000000000 ≤ n ∧ n ≤ 100000000000)
  else false
theorem nil_list {s : ByteArray} (h : s.size = 0) : s.toList = ([] : List UInt8) := list_nil_size.2 h
theorem not_nil_list {s : ByteArray} (h : ¬ s.size = 0) : ¬ s.toList = ([] : List UInt8) := fun e => h (list_nil_size.1 e)
theorem bne_nil (s : ByteArray) : (s.toList != ([] : List UInt8)) = !decide (s.size = 0) := by
  by_cases h : s.size = 0
  · rw [nil_list h, decide_eq_true h]; rfl
  · rw [bne, beq_eq_false_iff_ne.2 (not_nil_list h), decide_eq_false h]
theorem beq_nil (s : ByteArray) : (s.toList == ([] : List UInt8)) = decide (s.size = 0) := by
  by_cases h : s.size = 0
  · rw [nil_list h, decide_eq_true h]; rfl
  · rw [beq_eq_false_iff_ne.2 (not_nil_list h), decide_eq_false h]
theorem sGood_j1 (k n : Int) (t ty : ByteArray) (ht : t.size ≤ 9223372036854775807) (hty : ty.size ≤ 9223372036854775807) (hn : k = 6 → okI n) (h3 : k ≠ 1) (hA : k ≠ 3 → k ≠ 4 → t.size = 0) (hB : k ≠ 4 → ty.size = 0) (b : Bool) (hb : b = decide (k = 2 ∨ k = 5)) : Ev (fun f => spec_GoodAtom.j1 f k b k n t ty) (goodAtom k n t ty) := by
  refine Ev.upA ?_
  simp only [spec_GoodAtom.j1, hb]
  unfold goodAtom
  rw [if_neg h3]
  by_cases c1 : k = 2 ∨ k = 5
  · simp only [decide_eq_true c1, if_true, if_pos c1, noTexts]
    rw [hA (by omega) (by omega), hB (by omega)]
    exact Ev.now _
  simp only [decide_eq_false c1, Bool.false_eq_true, if_false, if_neg c1]
  by_cases c3 : k = 3
  · simp only [if_pos c3]
    by_cases hz : n = 0
    · simp only [if_pos hz, decide_eq_true (show n = 0 ∧ ty.size = 0 from ⟨hz, hB (by omega)⟩), Bool.true_and]
      by_cases hs : t.size ≤ 200
      · simp only [if_pos (show (t.size : Int) ≤ 200 by omega), decide_eq_true hs, Bool.true_and]
        exact Ev.bind ⟨t.size + 1, fun k hk => l1Printed_eq t ht k (by omega)⟩ (Ev.now _)
      · simp only [if_neg (show ¬ (t.size : Int) ≤ 200 by omega), decide_eq_false hs, Bool.false_and]
        exact Ev.now _
    · simp only [if_neg hz, decide_eq_false (show ¬ (n = 0 ∧ ty.size = 0) from fun h => hz h.1), Bool.false_and]
      exact Ev.now _
  simp only [if_neg c3]
  by_cases c4 : k = 4
  · simp only [if_pos c4]
    by_cases hz : n = 0
    · simp only [if_pos hz, decide_eq_true hz, Bool.true_and]
      refine Ev.bind (specName_ev ty hty) ?_
      by_cases hg : goodName ty = true
      · simp only [hg, if_true, Bool.true_and]
        by_cases h1 : 1 ≤ t.size
        · simp only [if_pos (show (t.size : Int) ≥ 1 by omega)]
          by_cases hs : t.size ≤ 200
          · simp only [if_pos (show (t.size : Int) ≤ 200 by omega), decide_eq_true (show 1 ≤ t.size ∧ t.size ≤ 200 from ⟨h1, hs⟩), Bool.true_and]
            exact Ev.bind ⟨t.size + 1, fun k hk => l1Printed_eq t ht k (by omega)⟩ (Ev.now _)
          · simp only [if_neg (show ¬ (t.size : Int) ≤ 200 by omega), decide_eq_false (show ¬ (1 ≤ t.size ∧ t.size ≤ 200) from fun h => hs h.2), Bool.false_and]
            exact Ev.now _
        · simp only [if_neg (show ¬ (t.size : Int) ≥ 1 by omega), decide_eq_false (show ¬ (1 ≤ t.size ∧ t.size ≤ 200) from fun h => h1 h.1), Bool.false_and]
          exact Ev.now _
      · simp only [eq_false_of_ne_true hg, Bool.false_eq_true, if_false, Bool.false_and]
        exact Ev.now _
    · simp only [if_neg hz, decide_eq_false hz, Bool.false_and]
      exact Ev.now _
  simp only [if_neg c4]
  have hNT : noTexts t ty = true := by unfold noTexts; rw [hA c3 c4, hB c4]; rfl
  rw [hNT, Bool.true_and, Bool.true_and]
  by_cases c6 : k = 6
  · simp only [if_pos c6]
    have hi := hn c6
    have hi1 : -9223372036854775808 ≤ n := hi.1
    have hi2 : n ≤ 9223372036854775807 := by have := hi.2; omega
    by_cases h0 : n < 0
    · simp only [if_pos h0, decide_eq_false (show ¬ blkOk n from fun h => by have := h.1; omega)]
      exact Ev.now _
    simp only [if_neg h0]
    have e32 : Ev (fun f => spec_l1Pow2.f f 32) 4294967296 := ⟨40, fun k hk => pow2_eq 32 (by omega) k (by omega)⟩
    refine Ev.bind e32 ?_
    have ed : wrap64 (Int.tdiv n 64) = n / 64 := by rw [Int.tdiv_eq_ediv_of_nonneg (by omega), w64 (by omega) (by omega)]
    have em : Int.tmod n 64 = n % 64 := Int.tmod_eq_emod_of_nonneg (by omega)
    have e1 : wrap64 ((4294967296 : Int) - 1) = 4294967295 := w64 (by omega) (by omega)
    simp only [ed, em, e1]
    by_cases h1 : n / 64 > 4294967295
    · simp only [if_pos h1, decide_eq_false (show ¬ blkOk n from fun h => by have := h.2.2.1; omega)]
      exact Ev.now _
    by_cases h2 : n % 64 > 32
    · simp only [if_neg h1, if_pos h2, decide_eq_false (show ¬ blkOk n from fun h => by have := h.2.1; omega)]
      exact Ev.now _
    simp only [if_neg h1, if_neg h2]
    have ew : wrap64 (32 - n % 64) = ((32 - n % 64).toNat : Int) := by rw [w64 (by omega) (by omega)]; omega
    have hlt : (32 - n % 64).toNat ≤ 32 := by omega
    have eb : Ev (fun f => spec_l1Block.f f k n t ty) (n / 64, 2 ^ (32 - n % 64).toNat) := by
      simp only [spec_l1Block.f, ed, em, ew]
      exact Ev.bind ⟨40, fun k hk => pow2_eq _ (by omega) k (by omega)⟩ (Ev.now _)
    refine Ev.bind eb ?_
    have hp := pow_pos2 (32 - n % 64).toNat
    have emod : Int.tmod (n / 64) (2 ^ (32 - n % 64).toNat) = n / 64 % 2 ^ (32 - n % 64).toNat := Int.tmod_eq_emod_of_nonneg (by omega)
    simp only [if_neg (show ¬ (2 : Int) ^ (32 - n % 64).toNat = 0 by omega), emod]
    have : (n / 64 % 2 ^ (32 - n % 64).toNat == 0) = decide (blkOk n) := by
      rw [Bool.eq_iff_iff, beq_iff_eq, decide_eq_true_iff]
      exact ⟨fun h => ⟨by omega, by omega, by omega, h⟩, fun h => h.2.2.2⟩
    rw [this]
    exact Ev.now _
  simp only [if_neg c6]
  by_cases c7 : k = 7
  · simp only [if_pos c7]
    by_cases h1 : n ≥ -100000000000
    · simp only [if_pos h1]
      rw [decide_eq_decide.2 (show (n ≤ 100000000000) ↔ (-100000000000 ≤ n ∧ n ≤ 100000000000) by omega)]
      exact Ev.now _
    · simp only [if_neg h1]
      rw [decide_eq_false (show ¬ (-100000000000 ≤ n ∧ n ≤ 100000000000) by omega)]
      exact Ev.now _
  · simp only [if_neg c7]
    exact Ev.now _
theorem good_bad {k n : Int} {t ty : ByteArray} (h : (k ≠ 3 ∧ k ≠ 4 ∧ t.size ≠ 0) ∨ (k ≠ 4 ∧ ty.size ≠ 0)) : goodAtom k n t ty = false := by
  unfold goodAtom
  have hN : k ≠ 3 → k ≠ 4 → noTexts t ty = false := fun h3 h4 => by
    unfold noTexts
    rcases h with h | h
    · rw [decide_eq_false h.2.2, Bool.false_and]
    · rw [decide_eq_false h.2, Bool.and_false]
  by_cases c1 : k = 1
  · rw [if_pos c1, hN (by omega) (by omega), Bool.false_and]
  rw [if_neg c1]
  by_cases c2 : k = 2 ∨ k = 5
  · rw [if_pos c2, hN (by omega) (by omega)]
  rw [if_neg c2]
  by_cases c3 : k = 3
  · rw [if_pos c3, decide_eq_false (show ¬ (n = 0 ∧ ty.size = 0) from fun g => h.elim (fun h => h.1 c3) (fun h => h.2 g.2)), Bool.false_and]
  rw [if_neg c3]
  by_cases c4 : k = 4
  · rcases h with h | h
    · exact absurd c4 h.2.1
    · exact absurd c4 h.1
  rw [if_neg c4, hN c3 c4, Bool.false_and, Bool.false_and]
  simp
theorem specGoodAtom_ev (k n : Int) (t ty : ByteArray) (ht : t.size ≤ 9223372036854775807) (hty : ty.size ≤ 9223372036854775807) (hn : k = 6 → okI n) : Ev (fun f => spec_GoodAtom.f f k n t ty) (goodAtom k n t ty) := by
  have hbad : goodAtom k n t ty = false → Ev (fun f => spec_GoodAtom.j0 f true k n t ty) (goodAtom k n t ty) := fun h => by
    refine Ev.upA ?_
    simp only [spec_GoodAtom.j0, if_true, h]
    exact Ev.now _
  have hgo : (k ≠ 3 → k ≠ 4 → t.size = 0) → (k ≠ 4 → ty.size = 0) → Ev (fun f => spec_GoodAtom.j0 f false k n t ty) (goodAtom k n t ty) := fun hA hB => by
    refine Ev.upA ?_
    simp only [spec_GoodAtom.j0, Bool.false_eq_true, if_false]
    by_cases c1 : k = 1
    · simp only [if_pos c1]
      have hNT : noTexts t ty = true := by unfold noTexts; rw [hA (by omega) (by omega), hB (by omega)]; rfl
      rw [goodAtom, if_pos c1, hNT, Bool.true_and]
      by_cases hz : n = 0
      · simp only [if_pos hz, decide_eq_true (show n = 0 ∨ n = 1 from .inl hz)]; exact Ev.now _
      · simp only [if_neg hz]
        have : (n == 1) = decide (n = 0 ∨ n = 1) := by
          rw [Bool.eq_iff_iff, beq_iff_eq, decide_eq_true_iff]
          omega
        rw [this]
        exact Ev.now _
    simp only [if_neg c1]
    by_cases c2 : k = 2
    · simp only [if_pos c2]
      refine sGood_j1 k n t ty ht hty hn c1 hA hB _ ?_
      rw [Bool.eq_iff_iff, beq_iff_eq, decide_eq_true_iff]; omega
    · simp only [if_neg c2]
      refine sGood_j1 k n t ty ht hty hn c1 hA hB _ ?_
      rw [Bool.eq_iff_iff, beq_iff_eq, decide_eq_true_iff]; omega
  simp only [spec_GoodAtom.f, bne_nil]
  by_cases c3 : k = 3
  · simp only [if_pos c3, if_neg (show ¬ k = 4 by omega)]
    by_cases hz : ty.size = 0
    · rw [decide_eq_true hz]; exact hgo (fun h => absurd c3 h) (fun _ => hz)
    · rw [decide_eq_false hz]; exact hbad (good_bad (.inr ⟨by omega, hz⟩))
  simp only [if_neg c3]
  by_cases c4 : k = 4
  · simp only [if_pos c4]
    exact hgo (fun _ h => absurd c4 h) (fun h => absurd c4 h)
  simp only [if_neg c4]
  by_cases hz : t.size = 0
  · simp only [if_pos (nil_list hz)]
    by_cases hz2 : ty.size = 0
    · rw [decide_eq_true hz2]; exact hgo (fun _ _ => hz) (fun _ => hz2)
    · rw [decide_eq_false hz2]; exact hbad (good_bad (.inr ⟨c4, hz2⟩))
  · simp only [if_neg (not_nil_list hz)]
    exact hbad (good_bad (.inl ⟨c3, c4, hz⟩))
theorem shl_fin : ∀ e : Fin 33, shl .i64 1 ((e.val : Nat) : Int) = 2 ^ e.val := by decide +kernel
theorem iGood_j1 (k n : Int) (t ty : ByteArray) (ht : t.size ≤ 9223372036854775807) (hty : ty.size ≤ 9223372036854775807) (hn : k = 6 → okI n) (h3 : k ≠ 1) (b : Bool) (hb : b = decide (k = 2 ∨ k = 5)) : Ev (fun f => impl_GoodAtom.j1 f (noTexts t ty) k b k n t ty) (goodAtom k n t ty) := by
  refine Ev.upA ?_
  simp only [impl_GoodAtom.j1, hb]
  unfold goodAtom
  rw [if_neg h3]
  by_cases c1 : k = 2 ∨ k = 5
  · simp only [decide_eq_true c1, if_true, if_pos c1]
    exact Ev.now _
  simp only [decide_eq_false c1, Bool.false_eq_true, if_false, if_neg c1]
  by_cases c3 : k = 3
  · simp only [if_pos c3]
    by_cases hz : n = 0
    · simp only [if_pos hz]
      by_cases hz2 : ty.size = 0
      · simp only [if_pos (nil_list hz2), decide_eq_true (show n = 0 ∧ ty.size = 0 from ⟨hz, hz2⟩), Bool.true_and]
        refine Ev.bind ⟨t.size + 2, fun k hk => yprinted_eq t 0 200 ht k (by omega)⟩ ?_
        rw [decide_eq_true (show (0 : Int) ≤ (t.size : Int) by omega), Bool.true_and, decide_eq_decide.2 (show ((t.size : Int) ≤ 200) ↔ t.size ≤ 200 by omega)]
        exact Ev.now _
      · simp only [if_neg (not_nil_list hz2), decide_eq_false (show ¬ (n = 0 ∧ ty.size = 0) from fun h => hz2 h.2), Bool.false_and]
        exact Ev.now _
    · simp only [if_neg hz, decide_eq_false (show ¬ (n = 0 ∧ ty.size = 0) from fun h => hz h.1), Bool.false_and]
      exact Ev.now _
  simp only [if_neg c3]
  by_cases c4 : k = 4
  · simp only [if_pos c4]
    by_cases hz : n = 0
    · simp only [if_pos hz, decide_eq_true hz, Bool.true_and]
      refine Ev.bind (implName_ev ty hty) ?_
      by_cases hg : goodName ty = true
      · simp only [hg, if_true, Bool.true_and]
        refine Ev.bind ⟨t.size + 2, fun k hk => yprinted_eq t 1 200 ht k (by omega)⟩ ?_
        rw [← Bool.decide_and, decide_eq_decide.2 (show ((1 : Int) ≤ (t.size : Int) ∧ (t.size : Int) ≤ 200) ↔ (1 ≤ t.size ∧ t.size ≤ 200) by omega)]
        exact Ev.now _
      · simp only [eq_false_of_ne_true hg, Bool.false_eq_true, if_false, Bool.false_and]
        exact Ev.now _
    · simp only [if_neg hz, decide_eq_false hz, Bool.false_and]
      exact Ev.now _
  simp only [if_neg c4]
  rcases hNT : noTexts t ty with _ | _
  · simp only [Bool.false_eq_true, if_false, Bool.false_and]
    rw [show (if k = 6 then some false else if k = 7 then some false else some false) = some false by split <;> (try split) <;> rfl, show (if k = 6 then false else if k = 7 then false else false) = false by split <;> (try split) <;> rfl]
    exact Ev.now _
  simp only [if_true, Bool.true_and]
  by_cases c6 : k = 6
  · simp only [if_pos c6]
    have hi := hn c6
    have hi1 : -9223372036854775808 ≤ n := hi.1
    have hi2 : n ≤ 9223372036854775807 := by have := hi.2; omega
    by_cases h0 : n < 0
    · simp only [if_pos h0, decide_eq_false (show ¬ blkOk n from fun h => by have := h.1; omega)]
      exact Ev.now _
    simp only [if_neg h0]
    have ed : wrap64 (Int.tdiv n 64) = n / 64 := by rw [Int.tdiv_eq_ediv_of_nonneg (by omega), w64 (by omega) (by omega)]
    have em : Int.tmod n 64 = n % 64 := Int.tmod_eq_emod_of_nonneg (by omega)
    simp only [ed, em]
    by_cases h2 : n % 64 ≤ 32
    case neg =>
      simp only [if_neg h2, decide_eq_false (show ¬ blkOk n from fun h => h2 h.2.1)]
      exact Ev.now _
    by_cases h1 : n / 64 < 4294967296
    case neg =>
      simp only [if_pos h2, if_neg h1, decide_eq_false (show ¬ blkOk n from fun h => h1 h.2.2.1)]
      exact Ev.now _
    have ew : wrap64 (32 - n % 64) = ((32 - n % 64).toNat : Int) := by rw [w64 (by omega) (by omega)]; omega
    have hlt : (32 - n % 64).toNat < 33 := by omega
    have esh := shl_fin ⟨(32 - n % 64).toNat, hlt⟩
    have hp := pow_pos2 (32 - n % 64).toNat
    have emod : Int.tmod (n / 64) (2 ^ (32 - n % 64).toNat) = n / 64 % 2 ^ (32 - n % 64).toNat := Int.tmod_eq_emod_of_nonneg (by omega)
    simp only [if_pos h2, if_pos h1, ew, if_pos (Int.natCast_nonneg _), esh, if_neg (show ¬ (2 : Int) ^ (32 - n % 64).toNat = 0 by omega), emod]
    have : (n / 64 % 2 ^ (32 - n % 64).toNat == 0) = decide (blkOk n) := by
      rw [Bool.eq_iff_iff, beq_iff_eq, decide_eq_true_iff]
      exact ⟨fun h => ⟨by omega, by omega, by omega, h⟩, fun h => h.2.2.2⟩
    rw [this]
    exact Ev.now _
  simp only [if_neg c6]
  by_cases c7 : k = 7
  · simp only [if_pos c7]
    by_cases h1 : n ≥ -100000000000
    · simp only [if_pos h1]
      rw [decide_eq_decide.2 (show (n ≤ 100000000000) ↔ (-100000000000 ≤ n ∧ n ≤ 100000000000) by omega)]
      exact Ev.now _
    · simp only [if_neg h1]
      rw [decide_eq_false (show ¬ (-100000000000 ≤ n ∧ n ≤ 100000000000) by omega)]
      exact Ev.now _
  · simp only [if_neg c7]
    exact Ev.now _
theorem implGoodAtom_ev (k n : Int) (t ty : ByteArray) (ht : t.size ≤ 9223372036854775807) (hty : ty.size ≤ 9223372036854775807) (hn : k = 6 → okI n) : Ev (fun f => impl_GoodAtom.f f k n t ty) (goodAtom k n t ty) := by
  have hj : Ev (fun f => impl_GoodAtom.j0 f (noTexts t ty) k n t ty) (goodAtom k n t ty) := by
    refine Ev.upA ?_
    simp only [impl_GoodAtom.j0]
    by_cases c1 : k = 1
    · simp only [if_pos c1]
      rw [goodAtom, if_pos c1]
      rcases hNT : noTexts t ty with _ | _
      · simp only [Bool.false_eq_true, if_false, Bool.false_and]; exact Ev.now _
      simp only [if_true, Bool.true_and]
      by_cases hz : n = 0
      · simp only [if_pos hz, decide_eq_true (show n = 0 ∨ n = 1 from .inl hz)]; exact Ev.now _
      · simp only [if_neg hz]
        have : (n == 1) = decide (n = 0 ∨ n = 1) := by
          rw [Bool.eq_iff_iff, beq_iff_eq, decide_eq_true_iff]
          omega
        rw [this]
        exact Ev.now _
    simp only [if_neg c1]
    by_cases c2 : k = 2
    · simp only [if_pos c2]
      refine iGood_j1 k n t ty ht hty hn c1 _ ?_
      rw [Bool.eq_iff_iff, beq_iff_eq, decide_eq_true_iff]; omega
    · simp only [if_neg c2]
      refine iGood_j1 k n t ty ht hty hn c1 _ ?_
      rw [Bool.eq_iff_iff, beq_iff_eq, decide_eq_true_iff]; omega
  simp only [impl_GoodAtom.f, beq_nil]
  by_cases hz : t.size = 0
  · simp only [if_pos (nil_list hz)]
    rw [show decide (ty.size = 0) = noTexts t ty by unfold noTexts; rw [decide_eq_true hz, Bool.true_and]]
    exact hj
  · simp only [if_neg (not_nil_list hz)]
    rw [show false = noTexts t ty by unfold noTexts; rw [decide_eq_false hz, Bool.false_and]]
    exact hj
end Go.Proofs.Ytccbjchlcelkgaa.Pr
/- Blocks of addresses: one lies in another; told the same by the program and by the reference; each in itself, two in each other alike, and a third. Plain facts. -/
namespace Go.Proofs.Ytccbjchlcelkgaa.Pr
open Go.RowKit Go.Proofs.Ytccbjchlcelkgaa.Read Go.Proofs.YtccbjchlcelkgaaW.PrintWords
set_option linter.unusedVariables false
def wid (n : Int) : Int := 2 ^ (32 - n % 64).toNat
theorem wid_pos (n : Int) : 0 < wid n := pow_pos2 _
theorem wid_le (n : Int) (h : 0 ≤ n) : wid n ≤ 4294967296 := pow_le32 (by omega)
/-- The block n lies in the block m. -/
def inB (n m : Int) : Prop := m / 64 ≤ n / 64 ∧ n / 64 + wid n ≤ m / 64 + wid m
instance (n m : Int) : Decidable (inB n m) := by unfold inB; infer_instance
theorem wid_dvd {n m : Int} (hn : n % 64 ≤ 32) (h : m % 64 ≤ n % 64) : wid n ∣ wid m := by
  unfold wid
  obtain ⟨d, hd⟩ : ∃ d, (32 - m % 64).toNat = (32 - n % 64).toNat + d := ⟨(32 - m % 64).toNat - (32 - n % 64).toNat, by omega⟩
  rw [hd, Int.pow_add]
  exact Int.dvd_mul_right _ _
theorem wid_lt {n m : Int} (hn : m % 64 ≤ 32) (h0 : 0 ≤ n) (h : n % 64 < m % 64) : wid m < wid n := by
  unfold wid
  obtain ⟨d, hd⟩ : ∃ d, (32 - n % 64).toNat = (32 - m % 64).toNat + (d + 1) := ⟨(32 - n % 64).toNat - (32 - m % 64).toNat - 1, by omega⟩
  rw [hd, Int.pow_add, Int.pow_succ]
  have h1 := pow_pos2 (32 - m % 64).toNat
  have h2 := pow_pos2 d
  generalize (2 : Int) ^ (32 - m % 64).toNat = a at h1 ⊢
  generalize (2 : Int) ^ d = b at h2 ⊢
  have h3 : a * 1 ≤ a * b := Int.mul_le_mul_of_nonneg_left (by omega) (by omega)
  rw [← Int.mul_assoc]
  omega
/-- The program's way: as many bits stand fast, and those that stand fast are alike. -/
theorem in_iff {n m : Int} (hn : blkOk n) (hm : blkOk m) : inB n m ↔ (m % 64 ≤ n % 64 ∧ n / 64 / wid m = m / 64 / wid m) := by
  obtain ⟨n0, n1, n2, n3⟩ := hn
  obtain ⟨m0, m1, m2, m3⟩ := hm
  have hM := wid_pos m
  have hN := wid_pos n
  have n4 : n / 64 % wid n = 0 := n3
  have m4 : m / 64 % wid m = 0 := m3
  have ey := Int.emod_add_mul_ediv (m / 64) (wid m)
  have ex := Int.emod_add_mul_ediv (n / 64) (wid m)
  rw [m4, Int.zero_add] at ey
  constructor
  · rintro ⟨h1, h2⟩
    have hle : m % 64 ≤ n % 64 := by
      apply Int.not_lt.1
      intro hlt
      have := wid_lt m1 n0 hlt
      omega
    refine ⟨hle, ((Int.ediv_emod_unique (r := n / 64 - m / 64) hM).2 ⟨?_, by omega, by omega⟩).1⟩
    rw [ey]
    omega
  · rintro ⟨h1, h2⟩
    have hdv := wid_dvd n1 h1
    have hr0 := Int.emod_nonneg (n / 64) (show wid m ≠ 0 by omega)
    have hr1 := Int.emod_lt_of_pos (n / 64) hM
    rw [h2, ey] at ex
    refine ⟨by omega, ?_⟩
    have hd1 : wid n ∣ n / 64 := Int.dvd_of_emod_eq_zero n4
    have hd2 : wid n ∣ m / 64 := Int.dvd_trans hdv (Int.dvd_of_emod_eq_zero m4)
    have hd3 : wid n ∣ m / 64 + wid m - n / 64 := Int.dvd_sub (Int.dvd_add hd2 hdv) hd1
    have := Int.le_of_dvd (by omega) hd3
    omega
def addrL (k n : Int) (t ty : ByteArray) (k2 n2 : Int) (t2 ty2 : ByteArray) : Bool := goodAtom k n t ty && (goodAtom k2 n2 t2 ty2 && (decide (k = 6 ∧ k2 = 6) && decide (inB n n2)))
theorem good_blk {k n : Int} {t ty : ByteArray} (h : goodAtom k n t ty = true) (hk : k = 6) : blkOk n ∧ t.size = 0 ∧ ty.size = 0 := by
  subst hk
  simp only [goodAtom, noTexts, if_neg (show ¬ (6 : Int) = 1 by omega), if_neg (show ¬ ((6 : Int) = 2 ∨ (6 : Int) = 5) by omega), if_neg (show ¬ (6 : Int) = 3 by omega), if_neg (show ¬ (6 : Int) = 4 by omega), if_true, Bool.and_eq_true, decide_eq_true_eq] at h
  exact ⟨h.2, h.1.1, h.1.2⟩
theorem shr_natA (e n : Nat) (hn : n ≤ 64) : shr .i64 (e : Int) (n : Int) = ((e / 2 ^ n : Nat) : Int) := by
  unfold shr
  rw [Int.toNat_natCast, Nat.min_eq_left (show n ≤ IntKind.i64.bits from hn)]
  simp
theorem shr_wid (f m : Int) (h0 : 0 ≤ f) (m0 : 0 ≤ m) (hm : m % 64 ≤ 32) : shr .i64 f ((32 - m % 64).toNat : Int) = f / wid m := by
  obtain ⟨e, rfl⟩ := Int.eq_ofNat_of_zero_le h0
  unfold wid
  rw [shr_natA _ _ (by omega)]
  simp
theorem implAddr_ev (k n : Int) (t ty : ByteArray) (k2 n2 : Int) (t2 ty2 : ByteArray) (ht : t.size ≤ 9223372036854775807) (hty : ty.size ≤ 9223372036854775807) (hn : k = 6 → okI n) (ht2 : t2.size ≤ 9223372036854775807) (hty2 : ty2.size ≤ 9223372036854775807) (hn2 : k2 = 6 → okI n2) :
    Ev (fun f => impl_AddrIn.f f k n t ty k2 n2 t2 ty2) (addrL k n t ty k2 n2 t2 ty2) := by
  simp only [impl_AddrIn.f, addrL]
  by_cases c1 : k = 6
  case neg =>
    simp only [if_neg c1, decide_eq_false (show ¬ (k = 6 ∧ k2 = 6) from fun h => c1 h.1), Bool.false_and, Bool.and_false]
    exact Ev.now _
  by_cases c2 : k2 = 6
  case neg =>
    simp only [if_pos c1, if_neg c2, decide_eq_false (show ¬ (k = 6 ∧ k2 = 6) from fun h => c2 h.2), Bool.false_and, Bool.and_false]
    exact Ev.now _
  simp only [if_pos c1, if_pos c2, decide_eq_true (show k = 6 ∧ k2 = 6 from ⟨c1, c2⟩), Bool.true_and]
  refine Ev.bind (implGoodAtom_ev k n t ty ht hty hn) ?_
  rcases hg : goodAtom k n t ty with _ | _
  · simp only [Bool.false_eq_true, if_false, Bool.false_and]; exact Ev.now _
  simp only [if_true, Bool.true_and]
  refine Ev.bind (implGoodAtom_ev k2 n2 t2 ty2 ht2 hty2 hn2) ?_
  rcases hg2 : goodAtom k2 n2 t2 ty2 with _ | _
  · simp only [Bool.false_eq_true, if_false, Bool.false_and]; exact Ev.now _
  simp only [if_true, Bool.true_and]
  have b1 := (good_blk hg c1).1
  have b2 := (good_blk hg2 c2).1
  have n0 := b1.1
  have m0 := b2.1
  have m1 := b2.2.1
  have hi2 : n ≤ 9223372036854775807 := (hn c1).2
  have hi3 : n2 ≤ 9223372036854775807 := (hn2 c2).2
  have em : Int.tmod n 64 = n % 64 := Int.tmod_eq_emod_of_nonneg n0
  have em2 : Int.tmod n2 64 = n2 % 64 := Int.tmod_eq_emod_of_nonneg m0
  have ed : wrap64 (Int.tdiv n 64) = n / 64 := by rw [Int.tdiv_eq_ediv_of_nonneg n0, w64 (by omega) (by omega)]
  have ed2 : wrap64 (Int.tdiv n2 64) = n2 / 64 := by rw [Int.tdiv_eq_ediv_of_nonneg m0, w64 (by omega) (by omega)]
  have ew : wrap64 (32 - n2 % 64) = ((32 - n2 % 64).toNat : Int) := by rw [w64 (by omega) (by omega)]; omega
  have hiff := in_iff b1 b2
  simp only [em, em2, ed, ed2, ew, if_pos (Int.natCast_nonneg _), shr_wid (n / 64) n2 (by omega) m0 m1, shr_wid (n2 / 64) n2 (by omega) m0 m1]
  by_cases hc : n % 64 ≥ n2 % 64
  · simp only [if_pos hc]
    have : (n / 64 / wid n2 == n2 / 64 / wid n2) = decide (inB n n2) := by
      rw [Bool.eq_iff_iff, beq_iff_eq, decide_eq_true_iff, hiff]
      exact ⟨fun h => ⟨hc, h⟩, fun h => h.2⟩
    rw [this]
    exact Ev.now _
  · simp only [if_neg hc, decide_eq_false (show ¬ inB n n2 from fun h => hc (hiff.1 h).1)]
    exact Ev.now _
theorem block_ev (k n : Int) (t ty : ByteArray) (hb : blkOk n) (hi : n ≤ 9223372036854775807) : Ev (fun f => spec_l1Block.f f k n t ty) (n / 64, wid n) := by
  have h0 := hb.1
  have h1 := hb.2.1
  have em : Int.tmod n 64 = n % 64 := Int.tmod_eq_emod_of_nonneg h0
  have ed : wrap64 (Int.tdiv n 64) = n / 64 := by rw [Int.tdiv_eq_ediv_of_nonneg h0, w64 (by omega) (by omega)]
  have ew : wrap64 (32 - n % 64) = ((32 - n % 64).toNat : Int) := by rw [w64 (by omega) (by omega)]; omega
  simp only [spec_l1Block.f, em, ed, ew]
  exact Ev.bind ⟨40, fun k hk => pow2_eq _ (by omega) k (by omega)⟩ (Ev.now _)
theorem specAddr_ev (k n : Int) (t ty : ByteArray) (k2 n2 : Int) (t2 ty2 : ByteArray) (ht : t.size ≤ 9223372036854775807) (hty : ty.size ≤ 9223372036854775807) (hn : k = 6 → okI n) (ht2 : t2.size ≤ 9223372036854775807) (hty2 : ty2.size ≤ 9223372036854775807) (hn2 : k2 = 6 → okI n2) :
    Ev (fun f => spec_AddrIn.f f k n t ty k2 n2 t2 ty2) (addrL k n t ty k2 n2 t2 ty2) := by
  have hbad : addrL k n t ty k2 n2 t2 ty2 = false → Ev (fun f => spec_AddrIn.j0 f true k n t ty k2 n2 t2 ty2) (addrL k n t ty k2 n2 t2 ty2) := fun h => by
    refine Ev.upA ?_
    simp only [spec_AddrIn.j0, if_true, h]
    exact Ev.now _
  simp only [spec_AddrIn.f]
  refine Ev.bind (specGoodAtom_ev k n t ty ht hty hn) ?_
  rcases hg : goodAtom k n t ty with _ | _
  · simp only [Bool.false_eq_true, if_false]; exact hbad (by unfold addrL; rw [hg, Bool.false_and])
  simp only [if_true]
  refine Ev.bind (specGoodAtom_ev k2 n2 t2 ty2 ht2 hty2 hn2) ?_
  rcases hg2 : goodAtom k2 n2 t2 ty2 with _ | _
  · simp only [Bool.false_eq_true, if_false]; exact hbad (by unfold addrL; rw [hg2, Bool.false_and, Bool.and_false])
  simp only [if_true]
  by_cases c1 : k = 6
  case neg =>
    simp only [if_neg c1]
    exact hbad (by unfold addrL; rw [decide_eq_false (show ¬ (k = 6 ∧ k2 = 6) from fun h => c1 h.1), Bool.false_and, Bool.and_false, Bool.and_false])
  simp only [if_pos c1]
  by_cases c2 : k2 = 6
  case neg =>
    rw [show (k2 != 6) = true by rw [bne, beq_eq_false_iff_ne.2 c2]; rfl]
    exact hbad (by unfold addrL; rw [decide_eq_false (show ¬ (k = 6 ∧ k2 = 6) from fun h => c2 h.2), Bool.false_and, Bool.and_false, Bool.and_false])
  rw [show (k2 != 6) = false by rw [c2]; rfl]
  have b1 := (good_blk hg c1).1
  have b2 := (good_blk hg2 c2).1
  have n0 := b1.1
  have m0 := b2.1
  have hi2 : n ≤ 9223372036854775807 := (hn c1).2
  have hi3 : n2 ≤ 9223372036854775807 := (hn2 c2).2
  refine Ev.upA ?_
  simp only [spec_AddrIn.j0, Bool.false_eq_true, if_false]
  refine Ev.bind (block_ev k n t ty b1 hi2) ?_
  refine Ev.bind (block_ev k2 n2 t2 ty2 b2 hi3) ?_
  have hw1 := wid_pos n
  have hw2 := wid_le n n0
  have hw3 := wid_pos n2
  have hw4 := wid_le n2 m0
  have hb1 := b1.2.2.1
  have hb2 := b2.2.2.1
  have s1 : wrap64 (n / 64 + wid n) = n / 64 + wid n := w64 (by omega) (by omega)
  have s2 : wrap64 (n2 / 64 + wid n2) = n2 / 64 + wid n2 := w64 (by omega) (by omega)
  simp only [s1, s2]
  have hL : addrL k n t ty k2 n2 t2 ty2 = decide (inB n n2) := by unfold addrL; rw [hg, hg2, decide_eq_true (show k = 6 ∧ k2 = 6 from ⟨c1, c2⟩)]; rfl
  rw [hL]
  by_cases hc : n / 64 ≥ n2 / 64
  · simp only [if_pos hc]
    rw [decide_eq_decide.2 (show (n / 64 + wid n ≤ n2 / 64 + wid n2) ↔ inB n n2 from ⟨fun h => ⟨hc, h⟩, fun h => h.2⟩)]
    exact Ev.now _
  · simp only [if_neg hc, decide_eq_false (show ¬ inB n n2 from fun h => hc h.1)]
    exact Ev.now _
theorem addr_in {k n : Int} {t ty : ByteArray} {k2 n2 : Int} {t2 ty2 : ByteArray} (h : addrL k n t ty k2 n2 t2 ty2 = true) : goodAtom k n t ty = true ∧ goodAtom k2 n2 t2 ty2 = true ∧ k = 6 ∧ k2 = 6 ∧ inB n n2 := by
  simp only [addrL, Bool.and_eq_true, decide_eq_true_eq] at h
  exact ⟨h.1, h.2.1, h.2.2.1.1, h.2.2.1.2, h.2.2.2⟩
theorem addr_of {k n : Int} {t ty : ByteArray} {k2 n2 : Int} {t2 ty2 : ByteArray} (h1 : goodAtom k n t ty = true) (h2 : goodAtom k2 n2 t2 ty2 = true) (h3 : k = 6) (h4 : k2 = 6) (h5 : inB n n2) : addrL k n t ty k2 n2 t2 ty2 = true := by
  simp only [addrL, Bool.and_eq_true, decide_eq_true_eq]
  exact ⟨h1, h2, ⟨h3, h4⟩, h5⟩
theorem addr_self (k n : Int) (t ty : ByteArray) : addrL k n t ty k n t ty = (goodAtom k n t ty && decide (k = 6)) := by
  rw [Bool.eq_iff_iff, Bool.and_eq_true, decide_eq_true_iff]
  exact ⟨fun h => ⟨(addr_in h).1, (addr_in h).2.2.1⟩, fun h => addr_of h.1 h.1 h.2 h.2 ⟨by omega, by omega⟩⟩
theorem size_zero {a b : ByteArray} (h1 : a.size = 0) (h2 : b.size = 0) : a.toList = b.toList := by rw [nil_list h1, nil_list h2]
theorem addr_same {k n : Int} {t ty : ByteArray} {k2 n2 : Int} {t2 ty2 : ByteArray} (h : addrL k n t ty k2 n2 t2 ty2 = true) (h' : addrL k2 n2 t2 ty2 k n t ty = true) : k = k2 ∧ n = n2 ∧ t.toList = t2.toList ∧ ty.toList = ty2.toList := by
  obtain ⟨g1, g2, c1, c2, i1⟩ := addr_in h
  obtain ⟨_, _, _, _, i2⟩ := addr_in h'
  obtain ⟨b1, z1, z2⟩ := good_blk g1 c1
  obtain ⟨b2, z3, z4⟩ := good_blk g2 c2
  have hm : n % 64 = n2 % 64 := by
    have e1 := ((in_iff b1 b2).1 i1).1
    have e2 := ((in_iff b2 b1).1 i2).1
    omega
  have hd : n / 64 = n2 / 64 := by have := i1.1; have := i2.1; omega
  exact ⟨by omega, by omega, size_zero z1 z3, size_zero z2 z4⟩
theorem addr_trans {k n : Int} {t ty : ByteArray} {k2 n2 : Int} {t2 ty2 : ByteArray} {k3 n3 : Int} {t3 ty3 : ByteArray} (h : addrL k n t ty k2 n2 t2 ty2 = true) (h' : addrL k2 n2 t2 ty2 k3 n3 t3 ty3 = true) : addrL k n t ty k3 n3 t3 ty3 = true := by
  obtain ⟨g1, g2, c1, c2, i1⟩ := addr_in h
  obtain ⟨_, g3, _, c3, i2⟩ := addr_in h'
  obtain ⟨p1, p2⟩ := i1
  obtain ⟨p3, p4⟩ := i2
  exact addr_of g1 g3 c1 c3 ⟨by omega, by omega⟩
end Go.Proofs.Ytccbjchlcelkgaa.Pr
/- The cursor that draws: each draw gives something, within its bound. -/
namespace Go.Proofs.Ytccbjchlcelkgaa.Pr
open Go.RowKit Go.Proofs.Ytccbjchlcelkgaa.Read Go.Proofs.YtccbjchlcelkgaaW.PrintWords
theorem and255 (X : Int) : 0 ≤ Go.bits .and .u64 X 255 ∧ Go.bits .and .u64 X 255 ≤ 255 := by
  have h : ((BitVec.ofInt 64 X) &&& (BitVec.ofInt 64 255)).toNat ≤ 255 := by
    rw [BitVec.toNat_and]
    exact Nat.le_trans Nat.and_le_right (by decide)
  have e : Go.bits .and .u64 X 255 = IntKind.u64.wrap ((((BitVec.ofInt 64 X) &&& (BitVec.ofInt 64 255)).toNat : Nat) : Int) := rfl
  rw [e, IntKind.wrap_u64]
  omega
theorem cur_next (s : List Int) (hs : okL okB s) (p h : Int) (h0 : 0 ≤ p) (h1 : p ≤ 1000000000000) : ∃ v h', spec_l1Cur_next.f s p h = some (v, p + 1, h') ∧ 0 ≤ v ∧ v ≤ 255 := by
  have e : wrap64 (p + 1) = p + 1 := w64 (by omega) (by omega)
  unfold spec_l1Cur_next.f
  simp only [e]
  by_cases hp : p < (s.length : Int)
  · rw [if_pos hp, if_pos h0, if_pos (by omega)]
    have hm : rd s p ∈ s := by
      have : p.toNat < s.length := by omega
      simp [rd, List.getD_eq_getElem?_getD, List.getElem?_eq_getElem this]
    have hb : 0 ≤ rd s p ∧ rd s p ≤ 255 := hs.2 _ hm
    exact ⟨_, _, rfl, by rw [w64 (by omega) (by omega)]; exact hb.1, by rw [w64 (by omega) (by omega)]; exact hb.2⟩
  · rw [if_neg hp, if_neg (by omega)]
    have hb := and255 ((IntKind.u64.wrap ((IntKind.u64.wrap (IntKind.u64.wrap (h * 6364136223846793005))) + 1442695040888963407)) / 1099511627776)
    exact ⟨_, _, rfl, by rw [w64 (by omega) (by omega)]; exact hb.1, by rw [w64 (by omega) (by omega)]; exact hb.2⟩
theorem cur_pick (s : List Int) (hs : okL okB s) (p h n : Int) (h0 : 0 ≤ p) (h1 : p ≤ 999999999999) : ∃ v p' h', spec_l1Cur_pick.f s p h n = some (v, p', h') ∧ 0 ≤ v ∧ (v < n ∨ v = 0) ∧ p ≤ p' ∧ p' ≤ p + 2 := by
  unfold spec_l1Cur_pick.f
  by_cases hn : n ≤ 1
  · rw [if_pos hn]
    exact ⟨_, _, _, rfl, by omega, .inr rfl, by omega, by omega⟩
  · rw [if_neg hn]
    obtain ⟨v, h', e, v0, v1⟩ := cur_next s hs p h h0 (by omega)
    simp only [e, Option.bind_some]
    by_cases h2 : n > 200
    · rw [if_pos h2]
      obtain ⟨v2, h2', e2, v20, v21⟩ := cur_next s hs (p + 1) h' (by omega) (by omega)
      simp only [e2, Option.bind_some, if_neg (show ¬ n = 0 by omega), w64 (show -9223372036854775808 ≤ v * 256 by omega) (show v * 256 ≤ 9223372036854775807 by omega), w64 (show -9223372036854775808 ≤ v * 256 + v2 by omega) (show v * 256 + v2 ≤ 9223372036854775807 by omega)]
      refine ⟨_, _, _, rfl, ?_, .inl ?_, by omega, by omega⟩
      · rw [Int.tmod_eq_emod_of_nonneg (by omega)]; exact Int.emod_nonneg _ (by omega)
      · rw [Int.tmod_eq_emod_of_nonneg (by omega)]; exact Int.emod_lt_of_pos _ (by omega)
    · rw [if_neg h2, if_neg (show ¬ n = 0 by omega)]
      refine ⟨_, _, _, rfl, ?_, .inl ?_, by omega, by omega⟩
      · rw [Int.tmod_eq_emod_of_nonneg (by omega)]; exact Int.emod_nonneg _ (by omega)
      · rw [Int.tmod_eq_emod_of_nonneg (by omega)]; exact Int.emod_lt_of_pos _ (by omega)
theorem cur_one (s : List Int) (hs : okL okB s) (p h n : Int) (h0 : 0 ≤ p) (h1 : p ≤ 999999999999) : ∃ b p' h', spec_l1Cur_one.f s p h n = some (b, p', h') ∧ p ≤ p' ∧ p' ≤ p + 2 := by
  obtain ⟨v, p', h', e, _, _, g1, g2⟩ := cur_pick s hs p h n h0 h1
  unfold spec_l1Cur_one.f
  simp only [e, Option.bind_some]
  exact ⟨_, _, _, rfl, g1, g2⟩
end Go.Proofs.Ytccbjchlcelkgaa.Pr
/- More draws: bytes, one of a list's texts, a rare place, a secret. -/
namespace Go.Proofs.Ytccbjchlcelkgaa.Pr
open Go.RowKit Go.Proofs.Ytccbjchlcelkgaa.Read Go.Proofs.YtccbjchlcelkgaaW.PrintWords
set_option linter.unusedVariables false
theorem bytes_l0 (s : List Int) (hs : okL okB s) (d : Nat) : ∀ (x5 : List Int) (p h : Int), 0 ≤ p → p + d ≤ 900000000000 → x5.length + d ≤ 1000000 → ∃ (L : List Int) (p' h' : Int), (∀ k, d < k → spec_l1Cur_bytes.l0 k x5 d s p h = some (x5 ++ L, p', h')) ∧ isBytes L ∧ L.length = d ∧ p ≤ p' ∧ p' ≤ p + d := by
  induction d with
  | zero =>
    intro x5 p h h0 h1 hl
    refine ⟨[], p, h, fun k hk => ?_, (by simp [isBytes]), rfl, by omega, by omega⟩
    obtain ⟨k, rfl⟩ : ∃ m, k = m + 1 := ⟨k - 1, by omega⟩
    simp only [spec_l1Cur_bytes.l0, if_neg (show ¬ (((0 : Nat) : Int) > 0) by omega), List.append_nil]
  | succ d ih =>
    intro x5 p h h0 h1 hl
    obtain ⟨v, h', e, v0, v1⟩ := cur_next s hs p h h0 (by omega)
    obtain ⟨L, p2, h2, hL, hb, hlen, g1, g2⟩ := ih (x5 ++ [v % 256]) (p + 1) h' (by omega) (by omega) (by rw [List.length_append, List.length_singleton]; omega)
    refine ⟨v % 256 :: L, p2, h2, fun k hk => ?_, ?_, by rw [List.length_cons, hlen], by omega, by omega⟩
    · obtain ⟨k, rfl⟩ : ∃ m, k = m + 1 := ⟨k - 1, by omega⟩
      have ed : wrap64 (((d + 1 : Nat) : Int) - 1) = (d : Int) := by rw [w64 (by omega) (by omega)]; omega
      simp only [spec_l1Cur_bytes.l0, if_pos (show (((d + 1 : Nat) : Int) > 0) by omega), e, Option.bind_some, if_pos (show x5.length < 140737488355328 by omega), ed]
      rw [hL k (by omega), List.append_assoc]
      rfl
    · intro x hx
      rcases List.mem_cons.1 hx with rfl | hx
      · omega
      · exact hb x hx
theorem cur_bytes (s : List Int) (hs : okL okB s) (p h : Int) (n : Nat) (hn : n ≤ 1000) (h0 : 0 ≤ p) (h1 : p ≤ 800000000000) : ∃ (L : List Int) (p' h' : Int), (∀ k, n < k → spec_l1Cur_bytes.f k s p h n = some (L, p', h')) ∧ isBytes L ∧ L.length ≤ n ∧ p ≤ p' ∧ p' ≤ p + 2 + n := by
  obtain ⟨v, p1, h1', e, v0, v1, g1, g2⟩ := cur_pick s hs p h n h0 (by omega)
  obtain ⟨m, rfl⟩ : ∃ m : Nat, v = m := ⟨v.toNat, by omega⟩
  obtain ⟨L, p2, h2, hL, hb, hlen, g3, g4⟩ := bytes_l0 s hs m [] p1 h1' (by omega) (by omega) (by simp; omega)
  refine ⟨L, p2, h2, fun k hk => ?_, hb, by omega, by omega, by omega⟩
  unfold spec_l1Cur_bytes.f
  simp only [e, Option.bind_some]
  rw [hL k (by omega)]
  rfl
theorem cur_of (s : List Int) (hs : okL okB s) (p h : Int) (l : List ByteArray) (hl : 1 ≤ l.length) (hl2 : l.length ≤ 1000000) (h0 : 0 ≤ p) (h1 : p ≤ 999999999999) : ∃ (t : ByteArray) (p' h' : Int), spec_l1Cur_of.f s p h l = some (t, p', h') ∧ p ≤ p' ∧ p' ≤ p + 2 := by
  obtain ⟨v, p1, h1', e, v0, v1, g1, g2⟩ := cur_pick s hs p h l.length h0 h1
  unfold spec_l1Cur_of.f
  simp only [e, Option.bind_some, if_pos v0, if_pos (show v < (l.length : Int) by omega)]
  exact ⟨_, _, _, rfl, g1, g2⟩
theorem cur_secret (s : List Int) (hs : okL okB s) (p h : Int) (h0 : 0 ≤ p) (h1 : p ≤ 999999999000) : ∃ (x p' h' : Int), spec_l1Cur_secret.f s p h = some (x, p', h') ∧ p ≤ p' ∧ p' ≤ p + 6 := by
  obtain ⟨b, p1, h1', e, g1, g2⟩ := cur_one s hs p h 16 h0 (by omega)
  unfold spec_l1Cur_secret.f
  simp only [e, Option.bind_some]
  cases b with
  | true =>
    obtain ⟨v, p2, h2', e2, v0, v1, g3, g4⟩ := cur_pick s hs p1 h1' 6 (by omega) (by omega)
    simp only [if_true, e2, Option.bind_some, if_pos v0, List.length_cons, List.length_nil]
    rw [if_pos (by omega)]
    exact ⟨_, _, _, rfl, by omega, by omega⟩
  | false =>
    obtain ⟨v, p2, h2', e2, v0, v1, g3, g4⟩ := cur_pick s hs p1 h1' 60000 (by omega) (by omega)
    obtain ⟨v3, p3, h3', e3, v03, v13, g5, g6⟩ := cur_pick s hs p2 h2' 60000 (by omega) (by omega)
    simp only [Bool.false_eq_true, if_false, e2, e3, Option.bind_some]
    exact ⟨_, _, _, rfl, by omega, by omega⟩
end Go.Proofs.Ytccbjchlcelkgaa.Pr
/- Drawn atoms: blocks of addresses and others; each draw comes to an end. Plain facts. -/
namespace Go.Proofs.Ytccbjchlcelkgaa.Pr
open Go.RowKit Go.Proofs.Ytccbjchlcelkgaa.Read Go.Proofs.YtccbjchlcelkgaaW.PrintWords
set_option linter.unusedVariables false
theorem cur_block (s : List Int) (hs : okL okB s) (p h : Int) (h0 : 0 ≤ p) (h1 : p ≤ 800000000000) : ∃ (n p' h' : Int), (∀ k, 40 < k → spec_l1Cur_block.f k s p h = some (6, n, (⟨#[]⟩ : ByteArray), (⟨#[]⟩ : ByteArray), p', h')) ∧ 0 ≤ n ∧ n ≤ 1000000000000 ∧ p ≤ p' ∧ p' ≤ p + 10 := by
  obtain ⟨v, p1, h1', e1, v0, v1, a1, b1⟩ := cur_pick s hs p h 6 h0 (by omega)
  obtain ⟨u, p2, h2', e2, u0, u1, a2, b2⟩ := cur_pick s hs p1 h1' 4 (by omega) (by omega)
  obtain ⟨x, p3, h3', e3, x0, x1, a3, b3⟩ := cur_pick s hs p2 h2' 3 (by omega) (by omega)
  obtain ⟨y, p4, h4', e4, y0, y1, a4, b4⟩ := cur_pick s hs p3 h3' 2 (by omega) (by omega)
  obtain ⟨z, p5, h5', e5, z0, z1, a5, b5⟩ := cur_pick s hs p4 h4' 4 (by omega) (by omega)
  have hbits : ∃ b : Nat, rd [0, 8, 16, 24, 31, 32] v = (b : Int) ∧ b ≤ 32 := by
    have hv : v = 0 ∨ v = 1 ∨ v = 2 ∨ v = 3 ∨ v = 4 ∨ v = 5 := by omega
    rcases hv with rfl | rfl | rfl | rfl | rfl | rfl
    · exact ⟨0, rfl, by omega⟩
    · exact ⟨8, rfl, by omega⟩
    · exact ⟨16, rfl, by omega⟩
    · exact ⟨24, rfl, by omega⟩
    · exact ⟨31, rfl, by omega⟩
    · exact ⟨32, rfl, by omega⟩
  have hf : 0 ≤ rd [10, 10, 192, 255] u ∧ rd [10, 10, 192, 255] u ≤ 255 := by
    have hu : u = 0 ∨ u = 1 ∨ u = 2 ∨ u = 3 := by omega
    rcases hu with rfl | rfl | rfl | rfl
    · exact ⟨by decide, by decide⟩
    · exact ⟨by decide, by decide⟩
    · exact ⟨by decide, by decide⟩
    · exact ⟨by decide, by decide⟩
  obtain ⟨b, hb, hb32⟩ := hbits
  generalize hg : rd [10, 10, 192, 255] u = f at hf
  have hw : wrap64 ((wrap64 ((wrap64 ((wrap64 (f * 16777216)) + (wrap64 (x * 65536)))) + (wrap64 (y * 256)))) + z) = f * 16777216 + x * 65536 + y * 256 + z := by
    rw [w64 (n := f * 16777216) (by omega) (by omega), w64 (n := x * 65536) (by omega) (by omega), w64 (n := y * 256) (by omega) (by omega), w64 (n := f * 16777216 + x * 65536) (by omega) (by omega), w64 (n := f * 16777216 + x * 65536 + y * 256) (by omega) (by omega), w64 (by omega) (by omega)]
  generalize hF : f * 16777216 + x * 65536 + y * 256 + z = F at hw
  have hF0 : 0 ≤ F ∧ F ≤ 4300000000 := by omega
  have h32 : wrap64 (32 - (b : Int)) = ((32 - b : Nat) : Int) := by rw [w64 (by omega) (by omega)]; omega
  have hm := pow_pos2 (32 - b)
  generalize hM : (2 : Int) ^ (32 - b) = M at hm
  have hq0 : 0 ≤ F / M := Int.ediv_nonneg hF0.1 (by omega)
  have hq1 : F / M ≤ F := Int.ediv_le_self M hF0.1
  have hqm0 : 0 ≤ F / M * M := Int.mul_nonneg hq0 (by omega)
  have hqm1 : F / M * M ≤ F := Int.ediv_mul_le F (by omega)
  have ed : wrap64 (Int.tdiv F M) = F / M := by rw [Int.tdiv_eq_ediv_of_nonneg hF0.1, w64 (by omega) (by omega)]
  have e6 : wrap64 (F / M * M) = F / M * M := w64 (by omega) (by omega)
  have e7 : wrap64 (F / M * M * 64) = F / M * M * 64 := w64 (by omega) (by omega)
  have e8 : wrap64 (F / M * M * 64 + (b : Int)) = F / M * M * 64 + b := w64 (by omega) (by omega)
  refine ⟨F / M * M * 64 + b, p5, h5', fun k hk => ?_, by omega, by omega, by omega, by omega⟩
  have ep : spec_l1Pow2.f k ((32 - b : Nat) : Int) = some M := by rw [← hM]; exact pow2_eq _ (by omega) k (by omega)
  simp only [spec_l1Cur_block.f, Option.bind_some, e1, e2, e3, e4, e5, hb, hg, if_pos v0, if_pos u0, List.length_cons, List.length_nil, if_pos (show v < ((0 + 1 + 1 + 1 + 1 + 1 + 1 : Nat) : Int) by omega), if_pos (show u < ((0 + 1 + 1 + 1 + 1 : Nat) : Int) by omega), h32, ep, hw, if_neg (show ¬ M = 0 by omega), ed, e6, e7, e8]
theorem wide_l0 (s : List Int) (hs : okL okB s) (d : Nat) : ∀ (x p h : Int) (j : Nat), j + d = 8 → 0 ≤ p → p + d ≤ 900000000000 → ∃ (v p' h' : Int), (∀ k, d < k → spec_l1Cur_wide.l0 k x (j : Int) s p h = some (v, p', h')) ∧ p ≤ p' ∧ p' ≤ p + d := by
  induction d with
  | zero =>
    intro x p h j hj h0 h1
    refine ⟨x, p, h, fun k hk => ?_, by omega, by omega⟩
    obtain ⟨k, rfl⟩ : ∃ m, k = m + 1 := ⟨k - 1, by omega⟩
    rw [spec_l1Cur_wide.l0, if_neg (by omega)]
  | succ d ih =>
    intro x p h j hj h0 h1
    obtain ⟨v, h', e, v0, v1⟩ := cur_next s hs p h h0 (by omega)
    obtain ⟨w, p', h2, e2, g1, g2⟩ := ih (Go.bits .or .i64 (wrap64 (x * 256)) v) (p + 1) h' (j + 1) (by omega) (by omega) (by omega)
    refine ⟨w, p', h2, fun k hk => ?_, by omega, by omega⟩
    obtain ⟨k, rfl⟩ : ∃ m, k = m + 1 := ⟨k - 1, by omega⟩
    have ew : wrap64 ((j : Int) + 1) = ((j + 1 : Nat) : Int) := by rw [w64 (by omega) (by omega)]; rfl
    rw [spec_l1Cur_wide.l0, if_pos (by omega), e, Option.bind_some, ew]
    exact e2 k (by omega)
theorem cur_wide (s : List Int) (hs : okL okB s) (p h : Int) (h0 : 0 ≤ p) (h1 : p ≤ 800000000000) : ∃ (v p' h' : Int), (∀ k, 8 < k → spec_l1Cur_wide.f k s p h = some (v, p', h')) ∧ p ≤ p' ∧ p' ≤ p + 8 := by
  obtain ⟨v, p', h', e, g1, g2⟩ := wide_l0 s hs 8 0 p h 0 (by omega) h0 (by omega)
  exact ⟨v, p', h', fun k hk => e k hk, g1, g2⟩
theorem str_size (L : List Int) : (strOfNums L).size = L.length := by
  unfold strOfNums
  show (List.toArray _).size = _
  rw [List.size_toArray, List.length_map]
theorem printed_l0 (s : List Int) (hs : okL okB s) (d : Nat) : ∀ (x : List Int) (p h : Int), x.length + d ≤ 1000 → 0 ≤ p → p + 2 * d ≤ 900000000000 → ∃ (t : ByteArray) (p' h' : Int), (∀ k, d < k → spec_l1Cur_printed.l0 k x (d : Int) s p h = some (t, p', h')) ∧ t.size = x.length + d ∧ p ≤ p' ∧ p' ≤ p + 2 * d := by
  induction d with
  | zero =>
    intro x p h hl h0 h1
    refine ⟨strOfNums x, p, h, fun k hk => ?_, str_size x, by omega, by omega⟩
    obtain ⟨k, rfl⟩ : ∃ m, k = m + 1 := ⟨k - 1, by omega⟩
    rw [spec_l1Cur_printed.l0, if_neg (by omega)]
  | succ d ih =>
    intro x p h hl h0 h1
    obtain ⟨v, p1, h1', e, v0, v1, g1, g2⟩ := cur_pick s hs p h 18 h0 (by omega)
    obtain ⟨t, p', h', e2, ht, g3, g4⟩ := ih (x ++ [bt (⟨#[97, 98, 42, 92, 34, 44, 58, 32, 91, 93, 123, 125, 64, 49, 46, 47, 120, 126, 32]⟩ : ByteArray) v]) p1 h1' (by rw [List.length_append, List.length_singleton]; omega) (by omega) (by omega)
    refine ⟨t, p', h', fun k hk => ?_, by rw [ht, List.length_append, List.length_singleton]; omega, by omega, by omega⟩
    obtain ⟨k, rfl⟩ : ∃ m, k = m + 1 := ⟨k - 1, by omega⟩
    have ew : wrap64 (((d + 1 : Nat) : Int) - 1) = (d : Int) := by rw [w64 (by omega) (by omega)]; omega
    rw [spec_l1Cur_printed.l0, if_pos (by omega), e, Option.bind_some]
    dsimp only
    rw [if_pos v0, if_pos (by omega), if_pos (by omega), ew]
    exact e2 k (by omega)
theorem cur_printed (s : List Int) (hs : okL okB s) (p h : Int) (h0 : 0 ≤ p) (h1 : p ≤ 800000000000) : ∃ (t : ByteArray) (p' h' : Int), (∀ k, 10 < k → spec_l1Cur_printed.f k s p h = some (t, p', h')) ∧ t.size ≤ 6 ∧ p ≤ p' ∧ p' ≤ p + 14 := by
  obtain ⟨v, p1, h1', e, v0, v1, g1, g2⟩ := cur_pick s hs p h 6 h0 (by omega)
  obtain ⟨m, rfl⟩ := Int.eq_ofNat_of_zero_le v0
  obtain ⟨t, p', h', e2, ht, g3, g4⟩ := printed_l0 s hs m [] p1 h1' (by simp; omega) (by omega) (by omega)
  refine ⟨t, p', h', fun k hk => ?_, by rw [ht]; simp; omega, by omega, by omega⟩
  unfold spec_l1Cur_printed.f
  rw [e, Option.bind_some]
  exact e2 k (by omega)
/-- What is known of a drawn atom. -/
def atomOk (k n : Int) (t ty : ByteArray) : Prop := t.size ≤ 100 ∧ ty.size ≤ 100 ∧ (k = 6 → okI n)
theorem of_three (s : List Int) (hs : okL okB s) (p h : Int) (l : List ByteArray) (hl : 1 ≤ l.length) (hl2 : l.length ≤ 100) (hz : ∀ t ∈ l, t.size ≤ 50) (h0 : 0 ≤ p) (h1 : p ≤ 900000000000) : ∃ (t : ByteArray) (p' h' : Int), spec_l1Cur_of.f s p h l = some (t, p', h') ∧ t.size ≤ 50 ∧ p ≤ p' ∧ p' ≤ p + 2 := by
  obtain ⟨v, p1, h1', e, v0, v1, g1, g2⟩ := cur_pick s hs p h l.length h0 (by omega)
  obtain ⟨i, rfl⟩ := Int.eq_ofNat_of_zero_le v0
  have hi : i < l.length := by omega
  unfold spec_l1Cur_of.f
  simp only [e, Option.bind_some, if_pos v0, if_pos (show (i : Int) < (l.length : Int) by omega)]
  refine ⟨_, _, _, rfl, ?_, g1, g2⟩
  have : l.getD (Int.toNat (i : Int)) ByteArray.empty ∈ l := by
    rw [Int.toNat_natCast, List.getD_eq_getElem?_getD, List.getElem?_eq_getElem hi]
    exact List.getElem_mem hi
  exact hz _ this
theorem cur_atom (s : List Int) (hs : okL okB s) (p h : Int) (h0 : 0 ≤ p) (h1 : p ≤ 700000000000) : ∃ (k n : Int) (t ty : ByteArray) (p' h' : Int), (∀ f, 40 < f → spec_l1Cur_atom.f f s p h = some (k, n, t, ty, p', h')) ∧ atomOk k n t ty ∧ p ≤ p' ∧ p' ≤ p + 20 := by
  obtain ⟨v, p1, h1', e, v0, v1, g1, g2⟩ := cur_pick s hs p h 9 h0 (by omega)
  have hE : (⟨#[]⟩ : ByteArray).size = 0 := rfl
  by_cases c0 : v = 0
  · obtain ⟨w, p2, h2, e2, w0, w1, g3, g4⟩ := cur_pick s hs p1 h1' 2 (by omega) (by omega)
    refine ⟨_, _, _, _, p2, h2, fun f hf => by simp only [spec_l1Cur_atom.f, e, Option.bind_some, if_pos c0, e2]; rfl, ⟨by omega, by omega, fun hk => by omega⟩, by omega, by omega⟩
  by_cases c1 : v = 1
  · obtain ⟨w, p2, h2, e2, w0, w1, g3, g4⟩ := cur_pick s hs p1 h1' 7 (by omega) (by omega)
    refine ⟨_, _, _, _, p2, h2, fun f hf => by simp only [spec_l1Cur_atom.f, e, Option.bind_some, if_neg c0, if_pos c1, e2]; rfl, ⟨by omega, by omega, fun hk => by omega⟩, by omega, by omega⟩
  by_cases c2 : v = 2
  · obtain ⟨w, p2, h2, e2, g3, g4⟩ := cur_wide s hs p1 h1' (by omega) (by omega)
    refine ⟨_, _, _, _, p2, h2, fun f hf => by simp only [spec_l1Cur_atom.f, e, Option.bind_some, if_neg c0, if_neg c1, if_pos c2, e2 f (by omega)]; rfl, ⟨by omega, by omega, fun hk => by omega⟩, by omega, by omega⟩
  by_cases c3 : v = 3
  · obtain ⟨t, p2, h2, e2, ht, g3, g4⟩ := cur_printed s hs p1 h1' (by omega) (by omega)
    refine ⟨_, _, _, _, p2, h2, fun f hf => by simp only [spec_l1Cur_atom.f, e, Option.bind_some, if_neg c0, if_neg c1, if_neg c2, if_pos c3, e2 f (by omega)]; rfl, ⟨by omega, by omega, fun hk => by omega⟩, by omega, by omega⟩
  by_cases c4 : v = 4
  · obtain ⟨t, p2, h2, e2, ht, g3, g4⟩ := of_three s hs p1 h1' [(⟨#[85, 115, 101, 114]⟩ : ByteArray), (⟨#[68, 111, 99]⟩ : ByteArray), (⟨#[95, 103, 49]⟩ : ByteArray)] (by decide) (by decide) (by decide) (by omega) (by omega)
    obtain ⟨t2, p3, h3, e3, ht2, g5, g6⟩ := of_three s hs p2 h2 [(⟨#[97, 110, 110]⟩ : ByteArray), (⟨#[98, 111, 98]⟩ : ByteArray), (⟨#[97, 32, 98]⟩ : ByteArray), (⟨#[120, 34, 121]⟩ : ByteArray), (⟨#[92]⟩ : ByteArray)] (by decide) (by decide) (by decide) (by omega) (by omega)
    refine ⟨_, _, _, _, p3, h3, fun f hf => by simp only [spec_l1Cur_atom.f, e, Option.bind_some, if_neg c0, if_neg c1, if_neg c2, if_neg c3, if_pos c4, e2, e3]; rfl, ⟨by omega, by omega, fun hk => by omega⟩, by omega, by omega⟩
  by_cases c5 : v = 5
  · obtain ⟨w, p2, h2, e2, w0, w1, g3, g4⟩ := cur_pick s hs p1 h1' 40000 (by omega) (by omega)
    refine ⟨_, _, _, _, p2, h2, fun f hf => by simp only [spec_l1Cur_atom.f, e, Option.bind_some, if_neg c0, if_neg c1, if_neg c2, if_neg c3, if_neg c4, if_pos c5, e2]; rfl, ⟨by omega, by omega, fun hk => by omega⟩, by omega, by omega⟩
  by_cases c6 : v = 6
  · obtain ⟨n, p2, h2, e2, n0, n1, g3, g4⟩ := cur_block s hs p1 h1' (by omega) (by omega)
    refine ⟨_, _, _, _, p2, h2, fun f hf => by simp only [spec_l1Cur_atom.f, e, Option.bind_some, if_neg c0, if_neg c1, if_neg c2, if_neg c3, if_neg c4, if_neg c5, if_pos c6, e2 f (by omega)]; rfl, ⟨by omega, by omega, fun hk => ⟨by omega, by omega⟩⟩, by omega, by omega⟩
  by_cases c7 : v = 7
  · obtain ⟨w, p2, h2, e2, w0, w1, g3, g4⟩ := cur_pick s hs p1 h1' 1000 (by omega) (by omega)
    refine ⟨_, _, _, _, p2, h2, fun f hf => by simp only [spec_l1Cur_atom.f, e, Option.bind_some, if_neg c0, if_neg c1, if_neg c2, if_neg c3, if_neg c4, if_neg c5, if_neg c6, if_pos c7, e2]; rfl, ⟨by omega, by omega, fun hk => by omega⟩, by omega, by omega⟩
  · obtain ⟨w, p2, h2, e2, g3, g4⟩ := cur_wide s hs p1 h1' (by omega) (by omega)
    refine ⟨_, _, _, _, p2, h2, fun f hf => by simp only [spec_l1Cur_atom.f, e, Option.bind_some, if_neg c0, if_neg c1, if_neg c2, if_neg c3, if_neg c4, if_neg c5, if_neg c6, if_neg c7, e2 f (by omega)]; rfl, ⟨by omega, by omega, fun hk => by omega⟩, by omega, by omega⟩
end Go.Proofs.Ytccbjchlcelkgaa.Pr
/- The law FnBlocks, its plain part. -/
namespace Go.Proofs.Ytccbjchlcelkgaa.Pure
open Go.RowKit Go.Proofs.Ytccbjchlcelkgaa.Read Go.Proofs.YtccbjchlcelkgaaW.PrintWords Go.Proofs.Ytccbjchlcelkgaa.Pr
theorem drawAddr_ev (s : List Int) (hs : okL okB s) : ∃ (k n : Int) (t ty : ByteArray) (k2 n2 : Int) (t2 ty2 : ByteArray), Ev (fun f => spec_DrawAddrIn.f f s) (k, n, t, ty, k2, n2, t2, ty2) ∧ atomOk k n t ty ∧ atomOk k2 n2 t2 ty2 := by
  obtain ⟨n, p1, h1, e1, n0, n1, a1, b1⟩ := cur_block s hs 0 0 (by omega) (by omega)
  obtain ⟨m, p2, h2, e2, m0, m1, a2, b2⟩ := cur_block s hs p1 h1 (by omega) (by omega)
  obtain ⟨b, p3, h3, e3, a3, b3⟩ := cur_one s hs p2 h2 12 (by omega) (by omega)
  have hE : (⟨#[]⟩ : ByteArray).size = 0 := rfl
  cases b with
  | false =>
    refine ⟨6, n, ⟨#[]⟩, ⟨#[]⟩, 6, m, ⟨#[]⟩, ⟨#[]⟩, ⟨50, fun f hf => ?_⟩, ⟨by omega, by omega, fun _ => ⟨by omega, by omega⟩⟩, ⟨by omega, by omega, fun _ => ⟨by omega, by omega⟩⟩⟩
    simp only [spec_DrawAddrIn.f, newCur.f, Option.bind_some, e1 f (by omega), e2 f (by omega), e3, Bool.false_eq_true, if_false]
  | true =>
    obtain ⟨k, m, t, ty, p4, h4, e4, hok, a4, b4⟩ := cur_atom s hs p3 h3 (by omega) (by omega)
    refine ⟨6, n, ⟨#[]⟩, ⟨#[]⟩, k, m, t, ty, ⟨50, fun f hf => ?_⟩, ⟨by omega, by omega, fun _ => ⟨by omega, by omega⟩⟩, hok⟩
    simp only [spec_DrawAddrIn.f, newCur.f, Option.bind_some, e1 f (by omega), e2 f (by omega), e3, e4 f (by omega), if_true]
theorem implAddr' {k n : Int} {t ty : ByteArray} {k2 n2 : Int} {t2 ty2 : ByteArray} (h1 : atomOk k n t ty) (h2 : atomOk k2 n2 t2 ty2) : Ev (fun f => impl_AddrIn.f f k n t ty k2 n2 t2 ty2) (addrL k n t ty k2 n2 t2 ty2) := by
  obtain ⟨a1, a2, a3⟩ := h1
  obtain ⟨b1, b2, b3⟩ := h2
  exact implAddr_ev k n t ty k2 n2 t2 ty2 (by omega) (by omega) a3 (by omega) (by omega) b3
theorem specAddr' {k n : Int} {t ty : ByteArray} {k2 n2 : Int} {t2 ty2 : ByteArray} (h1 : atomOk k n t ty) (h2 : atomOk k2 n2 t2 ty2) : Ev (fun f => spec_AddrIn.f f k n t ty k2 n2 t2 ty2) (addrL k n t ty k2 n2 t2 ty2) := by
  obtain ⟨a1, a2, a3⟩ := h1
  obtain ⟨b1, b2, b3⟩ := h2
  exact specAddr_ev k n t ty k2 n2 t2 ty2 (by omega) (by omega) a3 (by omega) (by omega) b3
theorem blocks_j2 {k n : Int} {t ty : ByteArray} {k2 n2 : Int} {t2 ty2 : ByteArray} {k3 n3 : Int} {t3 ty3 : ByteArray} (h1 : atomOk k n t ty) (h2 : atomOk k2 n2 t2 ty2) (h3 : atomOk k3 n3 t3 ty3) : Ev (fun f => laws_FnBlocks.j2 f false k n t ty k2 n2 t2 ty2 k3 n3 t3 ty3) true := by
  refine Ev.upA ?_
  simp only [laws_FnBlocks.j2, Bool.false_eq_true, if_false]
  refine Ev.bind (implAddr' h1 h2) ?_
  rcases ha : addrL k n t ty k2 n2 t2 ty2 with _ | _
  · simp only [Bool.false_eq_true, if_false]; exact Ev.now _
  simp only [if_true]
  refine Ev.bind (implAddr' h2 h3) ?_
  rcases hb : addrL k2 n2 t2 ty2 k3 n3 t3 ty3 with _ | _
  · simp only [Bool.false_eq_true, if_false]; exact Ev.now _
  simp only [if_true]
  refine Ev.bind (implAddr' h1 h3) ?_
  rw [addr_trans ha hb]
  exact Ev.now _
theorem blocks_j1 {k n : Int} {t ty : ByteArray} {k2 n2 : Int} {t2 ty2 : ByteArray} {k3 n3 : Int} {t3 ty3 : ByteArray} (h1 : atomOk k n t ty) (h2 : atomOk k2 n2 t2 ty2) (h3 : atomOk k3 n3 t3 ty3) : Ev (fun f => laws_FnBlocks.j1 f false k n t ty k2 n2 t2 ty2 k3 n3 t3 ty3) true := by
  refine Ev.upA ?_
  simp only [laws_FnBlocks.j1, Bool.false_eq_true, if_false]
  refine Ev.bind (implAddr' h1 h2) ?_
  rcases ha : addrL k n t ty k2 n2 t2 ty2 with _ | _
  · simp only [Bool.false_eq_true, if_false]; exact blocks_j2 h1 h2 h3
  simp only [if_true]
  refine Ev.bind (implAddr' h2 h1) ?_
  rcases hb : addrL k2 n2 t2 ty2 k n t ty with _ | _
  · simp only [Bool.false_eq_true, if_false]; exact blocks_j2 h1 h2 h3
  simp only [if_true]
  obtain ⟨e1, e2, e3, e4⟩ := addr_same ha hb
  subst e1
  subst e2
  rw [e3, e4]
  simp only [beq_self_eq_true, Bool.not_true, Bool.or_false]
  exact blocks_j2 h1 h2 h3
theorem FnBlocks : laws_FnBlocks.Pure := by
  intro code more hc hm
  apply Ev.rounds
  have hj : ∀ b, Ev (fun f => laws_FnBlocks.j0 f code more b) true := by
    intro b
    refine Ev.upA ?_
    simp only [laws_FnBlocks.j0]
    cases b with
    | true => simp only [if_true]; exact Ev.now _
    | false =>
      simp only [Bool.false_eq_true, if_false]
      obtain ⟨k, n, t, ty, k2, n2, t2, ty2, e1, h1, h2⟩ := drawAddr_ev code hc
      obtain ⟨k3, n3, t3, ty3, k4, n4, t4, ty4, e2, h3, h4⟩ := drawAddr_ev more hm
      refine Ev.bind e1 ?_
      refine Ev.bind e2 ?_
      refine Ev.bind (implAddr' h1 h2) ?_
      refine Ev.bind (specAddr' h1 h2) ?_
      simp only [bne_self_eq_false, Bool.false_eq_true, if_false]
      refine Ev.bind (implAddr' h1 h1) ?_
      obtain ⟨a1, a2, a3⟩ := h1
      refine Ev.bind (specGoodAtom_ev k n t ty (by omega) (by omega) a3) ?_
      rw [addr_self]
      rcases hg : goodAtom k n t ty with _ | _
      · simp only [Bool.false_eq_true, if_false, Bool.false_and, bne_self_eq_false]
        exact blocks_j1 ⟨a1, a2, a3⟩ h2 h3
      · simp only [if_true, Bool.true_and]
        rw [show (decide (k = 6) != (k == 6)) = false by rw [show (k == 6) = decide (k = 6) from rfl]; simp]
        exact blocks_j1 ⟨a1, a2, a3⟩ h2 h3
  simp only [laws_FnBlocks.f]
  by_cases hbig : (code.length : Int) > 1048576
  · simp only [if_pos hbig]; exact hj _
  · simp only [if_neg hbig]; exact hj _
end Go.Proofs.Ytccbjchlcelkgaa.Pure
/- The law FnBlocks: whatever the input, the call returns true and the arguments read as before. No conditions. -/
namespace Go.Proofs.Ytccbjchlcelkgaa.fnBlocks
open Go.ChangeShapes Go.WideShapes Go.ChangeAt Go.RowKit Go.Proofs.Ytccbjchlcelkgaa.Read Go.Proofs.YtccbjchlcelkgaaW.PrintWords Go.Proofs.Ytccbjchlcelkgaa.Pr
open Go.ChangeMaps (open_string shut_string)
set_option linter.unusedVariables false
theorem own : ownKnob Try.prog.godebug = none := by kernel_rfl
theorem laidOut : laidOutB Try.prog = true := by kernel_rfl
set_option maxRecDepth 100000 in
theorem lifted (os : Os) (started : os.Started) (H : Type) (enc : TypeId × Value → H) :
    ReturnsInHanded {} Try.checked os 5 .any (Rows.fnBlocksSpec.pre6 enc Try.prog Try.f5 Rows.fnBlocksRow.domain false) (Rows.fnBlocksSpec.post enc Try.prog Try.f5 false true false false) := by
  refine returnsInHanded_of_change (C := Try.checked) own started (by kernel_rfl) Try.func5
    (ChangeSpec.witness6 (enc := enc) (C := Try.checked) false ⟨#[], #[.slice none 0 0, .slice none 0 0], []⟩ 8 (by kernel_rfl) (by kernel_rfl) (by kernel_rfl) (by kernel_rfl)) ?_
  intro W base args ds gs before hval0 hW hcnd _
  have hval : ∀ (j : Nat) t v, Try.f5.params[j]? = some t → args[j]? = some v → Value.okWide Try.prog W .any base t v := hval0
  have hW' := hW
  obtain ⟨p, q, hA0, hV, rfl, hfz, hnd⟩ := hW
  have hA : DataW.TrodAll enc Try.prog W 0 (fun _ => true) true Try.f5.params.toList args.toList ds p := hA0
  rw [Try.params5] at hA hval
  obtain ⟨v0, vs0, d0, ds0, p0, q0, hargs, rfl, rfl, h0, r0⟩ := trodAll_cons hA
  obtain ⟨v1, vs1, d1, ds1, p1, q1, rfl, rfl, rfl, h1, r1⟩ := trodAll_cons r0
  obtain ⟨rfl, rfl, rfl⟩ := trodAll_nil r1
  obtain rfl : args = #[v0, v1] := by cases args; simp_all
  obtain ⟨rfl, rfl⟩ := trodVars_none hV
  have lt0 : ∀ x ∈ p0, x.block < W.heap.size := by obtain ⟨m, hm⟩ := h0; exact DataW.trod_lt m _ _ _ hm
  have bk0 := fun {W' : World} (bel : Below W.heap.size W W') => Below.trod laidOut (by kernel_rfl) (of_decide_eq_true (by kernel_rfl)) h0 bel lt0
  obtain ⟨A0, c0, l0, rfl, hl0, hC0, o0⟩ := arg_slice Try.underlying22 (tellsL Try.underlying22 (by kernel_rfl) (tellsB Try.underlying5 (by kernel_rfl))) (hval 0 22 v0 rfl rfl) h0
  have lt1 : ∀ x ∈ p1, x.block < W.heap.size := by obtain ⟨m, hm⟩ := h1; exact DataW.trod_lt m _ _ _ hm
  have bk1 := fun {W' : World} (bel : Below W.heap.size W W') => Below.trod laidOut (by kernel_rfl) (of_decide_eq_true (by kernel_rfl)) h1 bel lt1
  obtain ⟨A1, c1, l1, rfl, hl1, hC1, o1⟩ := arg_slice Try.underlying22 (tellsL Try.underlying22 (by kernel_rfl) (tellsB Try.underlying5 (by kernel_rfl))) (hval 1 22 v1 rfl rfl) h1
  obtain ⟨k, hk⟩ := Pure.FnBlocks l0 l1 o0 o1
  refine (laws_FnBlocks.calls k _ _ l0 _ _ l1 true W hC0 hl0 hC1 hl1 hk).mono fun e W' hpost => ?_
  obtain ⟨he, hb⟩ := hpost
  have bel : Below W.heap.size W W' := hb
  subst he
  exact ⟨_, rfl, _, _, _, [], _, [], hW', trodAll_mk1 (shut_bool Try.underlying4 _), (trodAll_cons_mk (bk0 bel) (trodAll_cons_mk (bk1 bel) trodAll_mk0)), rfl, bel.frame _, fun h => by cases h⟩
theorem over : Rows.fnBlocksRow.holds Try.pinned (OpenSpec.ofChange Rows.fnBlocksSpec) :=
  OpenClaim.holds_of_wide 5 Try.f5 rfl rfl rfl rfl rfl rfl rfl ⟨rfl, rfl, rfl, rfl, rfl⟩ rfl rfl rfl rfl rfl (by kernel_rfl) Try.func5 (by kernel_rfl)
    (of_decide_eq_true (by kernel_rfl)) (by unfold Func.isWrapper; first | (rw [if_pos (by decide +kernel)]; kernel_rfl) | (rw [if_neg (by decide +kernel)]; exact ⟨rfl, rfl⟩))
    (fun os started H enc _ => lifted os started H enc)
theorem proved : Rows.FnBlocksSaid := over
#print axioms proved
end Go.Proofs.Ytccbjchlcelkgaa.fnBlocks
namespace Go.Proofs.Ytccbjchlcelkgaa
/-- The row, under a short name, for the claim. -/
theorem fnBlocks_holds : Rows.FnBlocksSaid := fnBlocks.proved
end Go.Proofs.Ytccbjchlcelkgaa
