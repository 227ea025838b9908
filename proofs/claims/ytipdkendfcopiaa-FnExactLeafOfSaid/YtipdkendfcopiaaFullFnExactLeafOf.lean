/- The law FnExactLeafOf: whatever the input, the call returns true and the arguments read as before. No conditions. -/
import Derived.Test.YtipdkendfcopiaaRead
import Derived.Test.YtipdkendfcopiaaPr5
import Derived.Test.YtipdkendfcopiaaPrgByteS
import Derived.Test.YtipdkendfcopiaaPrgS21
import Derived.Test.YtipdkendfcopiaaPrgI21
import Derived.Test.YtipdkendfcopiaaPrgLogEntry
import Derived.Test.YtipdkendfcopiaaHdigest
import Derived.Test.YtipdkendfcopiaaPrgS2
import Derived.Test.YtipdkendfcopiaaPr22
import Derived.Test.YtipdkendfcopiaaPr23
import Derived.Test.YtipdkendfcopiaaHconcat
import Derived.Test.YtipdkendfcopiaaPr76
import Derived.Test.YtipdkendfcopiaaPr28
import Derived.Test.YtipdkendfcopiaaPr29
import Derived.Test.YtipdkendfcopiaaRows
import Derived.WalkKit
import Derived.ProofKit
import Derived.OpenShut
import Derived.ShutString
import Derived.ChangeOld
import Derived.Below
/- The pure statement of the law FnExactLeafOf. -/
namespace Go.Proofs.Ytipdkendfcopiaa.Pr
open Go.RowKit Go.Proofs.Ytipdkendfcopiaa.Read Go.Proofs.YtipdkendfcopiaaW.PrintWords
set_option linter.unusedVariables false
/-- What is left of the law FnExactLeafOf: a statement about numbers and lists. -/
def laws_FnExactLeafOf.Pure : Prop := ∀ (a0_0 : Int) (a0_1 : ByteArray) (a0_2 : ByteArray) (l0_3 : (List Int)) (l0_4 : (List Int)), okI a0_0 → okS a0_1 → okS a0_2 → (okL okB) l0_3 → (okL okB) l0_4 → ∃ k, laws_FnExactLeafOf.f k a0_0 a0_1 a0_2 l0_3 l0_4 = some true
end Go.Proofs.Ytipdkendfcopiaa.Pr
/- The helpers over slices of bytes: copied, compared, marked, held: plain facts. -/
namespace Go.Proofs.Ytipdkendfcopiaa.Pr
open Go.RowKit Go.Proofs.Ytipdkendfcopiaa.Read Go.Proofs.YtipdkendfcopiaaW.PrintWords

theorem w64 {n : Int} (h0 : -9223372036854775808 ≤ n) (h1 : n ≤ 9223372036854775807) : wrap64 n = n := by unfold wrap64; omega
theorem rd_nat {l : List Int} {i : Nat} (h : i < l.length) : rd l (i : Int) = l[i] := by
  simp [rd, List.getD_eq_getElem?_getD, List.getElem?_eq_getElem h]
theorem list_rd_ext {a b : List Int} (hl : a.length = b.length) (h : ∀ i : Nat, i < a.length → rd a i = rd b i) : a = b := by
  apply List.ext_getElem hl
  intro i h1 h2
  have := h i h1
  rwa [rd_nat h1, rd_nat h2] at this

theorem szByteS_eq (l : List Int) (n : Int) : laws_szByteS.f l n = some (if wrap64 (n - l.length) < 0 then -1 else wrap64 (n - l.length)) := by
  unfold laws_szByteS.f; split <;> rfl

theorem toByteS_l0 (x0 : List Int) (hl : x0.length ≤ 281474976710656) (d : Nat) : ∀ (k i : Nat) (x3 : List Int), x0.length - i = d → i ≤ x0.length → x3.length = x0.length → d < k → laws_toByteS.l0 k x0 x3 i = some (x3.take i ++ x0.drop i) := by
  induction d with
  | zero =>
    intro k i x3 hd hi h3 hk
    obtain ⟨k, rfl⟩ : ∃ m, k = m + 1 := ⟨k - 1, by omega⟩
    simp only [laws_toByteS.l0]
    rw [if_neg (by omega), List.take_of_length_le (by omega), List.drop_of_length_le (by omega), List.append_nil]
  | succ d ih =>
    intro k i x3 hd hi h3 hk
    obtain ⟨k, rfl⟩ : ∃ m, k = m + 1 := ⟨k - 1, by omega⟩
    simp only [laws_toByteS.l0]
    rw [if_pos (by omega), if_pos (by omega), if_pos (by omega), w64 (by omega) (by omega)]
    have e := ih k (i + 1) (x3.set i (rd x0 i)) (by omega) (by omega) (by simpa using h3) (by omega)
    rw [Int.toNat_natCast]
    rw [show ((i : Int) + 1) = ((i + 1 : Nat) : Int) from rfl, e]
    congr 1
    have hlt : i < x0.length := by omega
    rw [List.take_succ_eq_append_getElem (by simp; omega), List.getElem_set_self, List.take_set_of_le (by omega), rd_nat hlt, List.append_assoc, List.singleton_append, ← List.drop_eq_getElem_cons hlt]
theorem toByteS_ev (l : List Int) (hl : l.length ≤ 281474976710656) : Ev (fun k => laws_toByteS.f k l) l :=
  ⟨l.length + 1, fun k hk => by
    show laws_toByteS.f k l = some l
    unfold laws_toByteS.f
    rw [if_pos (by omega), if_pos (by omega)]
    have := toByteS_l0 l hl l.length k 0 (List.replicate ((l.length : Int)).toNat 0) (by omega) (by omega) (by simp) (by omega)
    simpa using this⟩

theorem eqByteS_l0 (x0 x1 : List Int) (hl : x0.length = x1.length) (hm : x0.length ≤ 281474976710656) (d : Nat) : ∀ (k i : Nat), x0.length - i = d → i ≤ x0.length → d < k → laws_eqByteS.l0 k x0 x1 i = some (decide (x0.drop i = x1.drop i)) := by
  induction d with
  | zero =>
    intro k i hd hi hk
    obtain ⟨k, rfl⟩ : ∃ m, k = m + 1 := ⟨k - 1, by omega⟩
    simp only [laws_eqByteS.l0]
    rw [if_neg (by omega), List.drop_of_length_le (by omega), List.drop_of_length_le (by omega)]; simp
  | succ d ih =>
    intro k i hd hi hk
    obtain ⟨k, rfl⟩ : ∃ m, k = m + 1 := ⟨k - 1, by omega⟩
    simp only [laws_eqByteS.l0]
    have h0 : i < x0.length := by omega
    have h1 : i < x1.length := by omega
    rw [if_pos (by omega), if_pos (by omega), if_pos (by omega), w64 (by omega) (by omega), rd_nat h0, rd_nat h1, List.drop_eq_getElem_cons h0, List.drop_eq_getElem_cons h1]
    have e := ih k (i + 1) (by omega) (by omega) (by omega)
    rw [show ((i : Int) + 1) = ((i + 1 : Nat) : Int) from rfl, e]
    by_cases hx : x0[i] = x1[i]
    · rw [if_pos hx]; congr 1; rw [decide_eq_decide, hx, List.cons.injEq]; exact ⟨fun h => ⟨rfl, h⟩, fun h => h.2⟩
    · rw [if_neg hx]; congr 1; symm; rw [decide_eq_false_iff_not, List.cons.injEq]; exact fun h => hx h.1
theorem eqByteS_ev (a b : List Int) (hl : a.length ≤ 281474976710656) : Ev (fun k => laws_eqByteS.f k a b) (decide (a = b)) :=
  ⟨a.length + 1, fun k hk => by
    show laws_eqByteS.f k a b = _
    unfold laws_eqByteS.f
    by_cases h : a.length = b.length
    · rw [if_pos (by omega)]
      have := eqByteS_l0 a b h hl a.length k 0 (by omega) (by omega) (by omega)
      simpa using this
    · rw [if_neg (by omega)]
      have : a ≠ b := fun e => h (by rw [e])
      simp [this]⟩
theorem eqByteS_refl (a : List Int) (hl : a.length ≤ 281474976710656) : Ev (fun k => laws_eqByteS.f k a a) true := by
  have := eqByteS_ev a a hl
  simpa using this

/-- What a marked slice of n bytes holds, counted from k. -/
def markL : Nat → Int → List Int
  | 0, _ => []
  | n + 1, k => k % 256 :: markL n (k + 1)
theorem markL_len : ∀ (n : Nat) (k : Int), (markL n k).length = n
  | 0, _ => rfl
  | n + 1, k => by simp [markL, markL_len n]
theorem markByteS_l0 (d : Nat) : ∀ (k i : Nat) (c : Int) (x0 : List Int), x0.length - i = d → i ≤ x0.length → x0.length ≤ 281474976710656 → 0 ≤ c → c + d ≤ 9000000000000000000 → d < k → laws_markByteS.l0 k x0 c i = some (c + d, x0.take i ++ markL d c) := by
  induction d with
  | zero =>
    intro k i c x0 hd hi hl hc hc2 hk
    obtain ⟨k, rfl⟩ : ∃ m, k = m + 1 := ⟨k - 1, by omega⟩
    simp only [laws_markByteS.l0]
    rw [if_neg (by omega), List.take_of_length_le (by omega)]; simp [markL]
  | succ d ih =>
    intro k i c x0 hd hi hl hc hc2 hk
    obtain ⟨k, rfl⟩ : ∃ m, k = m + 1 := ⟨k - 1, by omega⟩
    simp only [laws_markByteS.l0]
    rw [if_pos (by omega), if_pos (by omega), w64 (by omega) (by omega), w64 (by omega) (by omega), Int.toNat_natCast]
    have e := ih k (i + 1) (c + 1) (x0.set i (c % 256)) (by simp; omega) (by simp; omega) (by simpa using hl) (by omega) (by omega) (by omega)
    rw [show ((i : Int) + 1) = ((i + 1 : Nat) : Int) from rfl, e]
    have hlt : i < x0.length := by omega
    rw [List.take_succ_eq_append_getElem (by simp; omega), List.getElem_set_self, List.take_set_of_le (by omega), List.append_assoc, List.singleton_append, markL]
    congr 2; omega
theorem markByteS_ev (l : List Int) (c : Int) (hl : l.length ≤ 281474976710656) (hc : 0 ≤ c) (hc2 : c ≤ 8000000000000000000) : Ev (fun k => laws_markByteS.f k l c) (c + l.length, markL l.length c) :=
  ⟨l.length + 1, fun k hk => by
    have := markByteS_l0 l.length k 0 c l (by omega) (by omega) hl hc (by omega) (by omega)
    simpa [laws_markByteS.f] using this⟩
theorem heldByteS_l0 (n : Nat) : ∀ (k i : Nat) (c : Int) (x0 : List Int), x0.drop i = markL n c → i ≤ x0.length → x0.length ≤ 281474976710656 → 0 ≤ c → c + n ≤ 9000000000000000000 → n < k → laws_heldByteS.l0 k x0 c i = some (c + n) := by
  induction n with
  | zero =>
    intro k i c x0 hd hi hl hc hc2 hk
    obtain ⟨k, rfl⟩ : ∃ m, k = m + 1 := ⟨k - 1, by omega⟩
    have hlen := congrArg List.length hd
    rw [List.length_drop, markL_len] at hlen
    simp only [laws_heldByteS.l0]
    rw [if_neg (by omega)]; simp
  | succ n ih =>
    intro k i c x0 hd hi hl hc hc2 hk
    obtain ⟨k, rfl⟩ : ∃ m, k = m + 1 := ⟨k - 1, by omega⟩
    have hlen := congrArg List.length hd
    rw [List.length_drop, markL_len] at hlen
    have hlt : i < x0.length := by omega
    rw [List.drop_eq_getElem_cons hlt, markL] at hd
    injection hd with h1 h2
    simp only [laws_heldByteS.l0]
    rw [if_pos (by omega), if_pos (by omega), rd_nat hlt, if_pos h1, w64 (by omega) (by omega), w64 (by omega) (by omega), show ((i : Int) + 1) = ((i + 1 : Nat) : Int) from rfl, ih k (i + 1) (c + 1) x0 h2 (by omega) hl (by omega) (by omega) (by omega)]
    congr 1; omega
theorem heldByteS_ev (n : Nat) (c : Int) (hl : n ≤ 281474976710656) (hc : 0 ≤ c) (hc2 : c ≤ 8000000000000000000) : Ev (fun k => laws_heldByteS.f k (markL n c) c) (c + n) :=
  ⟨n + 1, fun k hk => by
    have := heldByteS_l0 n k 0 c (markL n c) (by simp) (by omega) (by rw [markL_len]; exact hl) hc (by omega) (by omega)
    simpa [laws_heldByteS.f] using this⟩
end Go.Proofs.Ytipdkendfcopiaa.Pr
/- Log entries: what is good, told the same by the program and by the reference; their copies. Plain facts. -/
namespace Go.Proofs.Ytipdkendfcopiaa.Pr
open Go.RowKit Go.Proofs.Ytipdkendfcopiaa.Read Go.Proofs.YtipdkendfcopiaaW.PrintWords

/-- Are the last d bytes of s all printed ones? -/
def prtN (s : ByteArray) : Nat → Bool
  | 0 => true
  | d + 1 => if bt s ((s.size - (d + 1) : Nat) : Int) < 32 then false else if bt s ((s.size - (d + 1) : Nat) : Int) > 126 then false else prtN s d
def prt (s : ByteArray) : Bool := prtN s s.size
theorem l1Printed_l0 (s : ByteArray) (hs : s.size ≤ 9223372036854775807) (d : Nat) : ∀ (k i : Nat), s.size - i = d → i ≤ s.size → d < k → spec_l1Printed.l0 k s i = some (prtN s d) := by
  induction d with
  | zero =>
    intro k i hd hi hk
    obtain ⟨k, rfl⟩ : ∃ m, k = m + 1 := ⟨k - 1, by omega⟩
    simp only [spec_l1Printed.l0]
    rw [if_neg (by omega)]; rfl
  | succ d ih =>
    intro k i hd hi hk
    obtain ⟨k, rfl⟩ : ∃ m, k = m + 1 := ⟨k - 1, by omega⟩
    have e0 : s.size - (d + 1) = i := by omega
    simp only [spec_l1Printed.l0, prtN, e0]
    rw [if_pos (by omega), if_pos (by omega), w64 (by omega) (by omega), show ((i : Int) + 1) = ((i + 1 : Nat) : Int) from rfl, ih k (i + 1) (by omega) (by omega) (by omega)]
    split
    · rfl
    · split <;> rfl
theorem l1Printed_eq (s : ByteArray) (hs : s.size ≤ 9223372036854775807) (k : Nat) (hk : s.size < k) : spec_l1Printed.f k s = some (prt s) :=
  l1Printed_l0 s hs s.size k 0 (by omega) (by omega) hk
theorem yprinted_l0 (s : ByteArray) (hs : s.size ≤ 9223372036854775807) (d : Nat) : ∀ (k i : Nat), s.size - i = d → i ≤ s.size → d < k → impl_yprinted.l0 k s (s.size : Int) i = some (prtN s d) := by
  induction d with
  | zero =>
    intro k i hd hi hk
    obtain ⟨k, rfl⟩ : ∃ m, k = m + 1 := ⟨k - 1, by omega⟩
    simp only [impl_yprinted.l0]
    rw [if_neg (by omega)]; rfl
  | succ d ih =>
    intro k i hd hi hk
    obtain ⟨k, rfl⟩ : ∃ m, k = m + 1 := ⟨k - 1, by omega⟩
    have e0 : s.size - (d + 1) = i := by omega
    simp only [impl_yprinted.l0, prtN, e0]
    rw [if_pos (by omega), if_pos (by omega), if_pos (by omega), w64 (by omega) (by omega), show ((i : Int) + 1) = ((i + 1 : Nat) : Int) from rfl, ih k (i + 1) (by omega) (by omega) (by omega)]
    split
    · rfl
    · split <;> rfl
theorem yprinted_eq (s : ByteArray) (lo hi : Int) (hs : s.size ≤ 9223372036854775807) (k : Nat) (hk : s.size + 1 < k) : impl_yprinted.f k s lo hi = some (decide (lo ≤ s.size) && decide ((s.size : Int) ≤ hi) && prt s) := by
  obtain ⟨k, rfl⟩ : ∃ m, k = m + 1 := ⟨k - 1, by omega⟩
  unfold impl_yprinted.f
  have e := yprinted_l0 s hs s.size k 0 (by omega) (by omega) (by omega)
  by_cases h1 : (s.size : Int) < lo
  · rw [if_pos h1]
    simp only [impl_yprinted.j0, if_true]
    simp; omega
  · rw [if_neg h1]
    have h1' : decide (lo ≤ (s.size : Int)) = true := decide_eq_true (by omega)
    by_cases h2 : (s.size : Int) ≤ hi
    · have h2' : decide ((s.size : Int) > hi) = false := decide_eq_false (by omega)
      have h2'' : decide ((s.size : Int) ≤ hi) = true := decide_eq_true h2
      rw [h1', h2', h2'']
      simp only [impl_yprinted.j0, Bool.false_eq_true, if_false, Bool.true_and]
      exact e
    · have h2' : decide ((s.size : Int) > hi) = true := decide_eq_true (by omega)
      have h2'' : decide ((s.size : Int) ≤ hi) = false := decide_eq_false h2
      rw [h1', h2', h2'']
      simp [impl_yprinted.j0]

def goodEntry (t : Int) (who what : ByteArray) (salt cover : List Int) : Bool :=
  if t < 0 then false else if t > 100000000000 then false else if (who.size : Int) > 60 then false else if prt who = false then false else
  if cover.length = 0 then (decide ((what.size : Int) ≤ 200) && prt what && decide ((salt.length : Int) ≤ 20))
  else decide (cover.length = 16) && decide (what.toList = ([] : List UInt8)) && decide (salt.length = 0)
theorem specGood_eq (t : Int) (who what : ByteArray) (salt cover : List Int) (h1 : okS who) (h2 : okS what) (k : Nat) (hk : who.size + what.size + 1 < k) : spec_GoodLogEntry.f k t who what salt cover = some (goodEntry t who what salt cover) := by
  unfold okS at h1 h2
  obtain ⟨k, rfl⟩ : ∃ m, k = m + 1 := ⟨k - 1, by omega⟩
  unfold spec_GoodLogEntry.f goodEntry
  have bad : spec_GoodLogEntry.j0 (k + 1) true t who what salt cover = some false := by simp [spec_GoodLogEntry.j0]
  rw [bad]
  split; · rfl
  split; · rfl
  split; · rfl
  rw [l1Printed_eq who h1 (k + 1) (by omega)]
  simp only [Option.bind_some]
  cases prt who with
  | false => exact bad
  | true =>
    simp only [Bool.not_true, spec_GoodLogEntry.j0, Bool.false_eq_true, if_false, spec_l21Open.f, Option.bind_some, beq_iff_eq, reduceCtorEq]
    by_cases hc : cover.length = 0
    · rw [if_pos (by omega), if_pos hc]
      by_cases hw : (what.size : Int) ≤ 200
      · rw [if_pos hw, l1Printed_eq what h2 k (by omega)]
        simp only [Option.bind_some]
        cases prt what <;> simp [hw]
      · rw [if_neg hw]; simp [hw]
    · rw [if_neg (by omega), if_neg hc]
      by_cases hc2 : cover.length = 16
      · rw [if_pos (by omega)]
        by_cases hw : what.toList = []
        · rw [if_pos hw]
          simp only [hc2, hw, decide_true, Bool.true_and, Option.some.injEq]
          rw [Bool.eq_iff_iff]; simp
        · rw [if_neg hw]; simp [hw]
      · rw [if_neg (by omega)]; simp [hc2]
theorem implGood_eq (t : Int) (who what : ByteArray) (salt cover : List Int) (h1 : okS who) (h2 : okS what) (k : Nat) (hk : who.size + what.size + 3 < k) : impl_GoodLogEntry.f k t who what salt cover = some (goodEntry t who what salt cover) := by
  unfold okS at h1 h2
  obtain ⟨k, rfl⟩ : ∃ m, k = m + 1 := ⟨k - 1, by omega⟩
  unfold impl_GoodLogEntry.f goodEntry
  have bad : impl_GoodLogEntry.j0 (k + 1) true t who what salt cover = some false := by simp [impl_GoodLogEntry.j0]
  rw [bad]
  split; · rfl
  split; · rfl
  rw [yprinted_eq who 0 60 h1 (k + 1) (by omega)]
  simp only [Option.bind_some]
  by_cases h60 : (who.size : Int) > 60
  · rw [if_pos h60]
    have : decide ((who.size : Int) ≤ 60) = false := decide_eq_false (by omega)
    rw [this]
    simpa using bad
  rw [if_neg h60]
  have e60 : decide ((who.size : Int) ≤ 60) = true := decide_eq_true (by omega)
  have e0 : decide ((0 : Int) ≤ (who.size : Int)) = true := decide_eq_true (by omega)
  rw [e60, e0]
  simp only [Bool.true_and]
  cases prt who with
  | false => exact bad
  | true =>
    simp only [Bool.not_true, impl_GoodLogEntry.j0, Bool.false_eq_true, if_false, reduceCtorEq]
    by_cases hc : cover.length = 0
    · rw [if_pos (by omega), if_pos hc, yprinted_eq what 0 200 h2 k (by omega)]
      simp only [Option.bind_some]
      have e0 : decide ((0 : Int) ≤ (what.size : Int)) = true := decide_eq_true (by omega)
      rw [e0, Bool.true_and]
      cases hh : (decide ((what.size : Int) ≤ 200) && prt what) <;> simp
    · rw [if_neg (by omega), if_neg hc]
      by_cases hc2 : cover.length = 16
      · rw [if_pos (by omega)]
        by_cases hw : what.toList = []
        · rw [if_pos hw]
          simp only [hc2, hw, decide_true, Bool.true_and, Option.some.injEq]
          rw [Bool.eq_iff_iff]; simp
        · rw [if_neg hw]; simp [hw]
      · rw [if_neg (by omega)]; simp [hc2]

/-- Behind the size's test all is short. -/
theorem szLogEntry_small (t : Int) (who what : ByteArray) (salt cover : List Int) (h1 : okS who) (h2 : okS what) (h3 : okL okB salt) (h4 : okL okB cover) :
    ∃ r, laws_szLogEntry.f t who what salt cover 1048576 = some r ∧ (¬ r < 0 → who.size ≤ 1048576 ∧ what.size ≤ 1048576 ∧ salt.length ≤ 1048576 ∧ cover.length ≤ 1048576) := by
  unfold okS at h1 h2
  have h3 := h3.1
  have h4 := h4.1
  unfold laws_szLogEntry.f
  rw [w64 (by omega) (by omega)]
  by_cases e1 : (1048576 : Int) - who.size < 0
  · exact ⟨_, by rw [if_pos e1], by omega⟩
  rw [if_neg e1, w64 (by omega) (by omega)]
  by_cases e2 : (1048576 : Int) - who.size - what.size < 0
  · exact ⟨_, by rw [if_pos e2], by omega⟩
  rw [if_neg e2, szByteS_eq, w64 (by omega) (by omega)]
  simp only [Option.bind_some]
  by_cases e3 : (1048576 : Int) - who.size - what.size - salt.length < 0
  · rw [if_pos e3]; exact ⟨_, rfl, by omega⟩
  rw [if_neg e3, if_neg e3, szByteS_eq, w64 (by omega) (by omega)]
  simp only [Option.bind_some]
  by_cases e4 : (1048576 : Int) - who.size - what.size - salt.length - cover.length < 0
  · rw [if_pos e4]; exact ⟨_, rfl, by omega⟩
  rw [if_neg e4, if_neg e4]; exact ⟨_, rfl, by omega⟩
theorem toLogEntry_ev (t : Int) (who what : ByteArray) (salt cover : List Int) (h3 : salt.length ≤ 1048576) (h4 : cover.length ≤ 1048576) : Ev (fun k => laws_toLogEntry.f k t who what salt cover) (t, who, what, salt, cover) := by
  refine Ev.congr (f := fun k => (laws_toByteS.f k salt).bind fun t104 => ((laws_toByteS.f k cover).bind fun t107 => (some (t, who, what, t104, t107)))) (fun k => rfl) ?_
  refine Ev.bind (toByteS_ev salt (by omega)) ?_
  exact Ev.bind (toByteS_ev cover (by omega)) (Ev.now _)
theorem eqLogEntry_refl (t : Int) (who what : ByteArray) (salt cover : List Int) (h3 : salt.length ≤ 1048576) (h4 : cover.length ≤ 1048576) : Ev (fun k => laws_eqLogEntry.f k t who what salt cover t who what salt cover) true := by
  refine Ev.congr (f := fun k => (laws_eqByteS.f k salt salt).bind fun t103 => (if t103 = true then ((laws_eqByteS.f k cover cover).bind fun t104 => (if t104 = true then (some true) else (some false))) else (some false))) (fun k => by simp [laws_eqLogEntry.f]) ?_
  refine Ev.bind (eqByteS_refl salt (by omega)) ?_
  refine Ev.congr (fun k => if_pos rfl) ?_
  refine Ev.bind (eqByteS_refl cover (by omega)) ?_
  exact Ev.congr (fun k => if_pos rfl) (Ev.now _)
end Go.Proofs.Ytipdkendfcopiaa.Pr
/- The digest: the reference's and the program's come to one. Plain facts. -/
namespace Go.Proofs.Ytipdkendfcopiaa.Pr
open Go.RowKit Go.Proofs.Ytipdkendfcopiaa.Read Go.Proofs.YtipdkendfcopiaaW.PrintWords

def inP (a : List Int) : Prop := a.length = 4 ∧ ∀ j, j < 4 → 0 ≤ a.getD j 0 ∧ a.getD j 0 < 2147483579
theorem inP_start : inP [11, 22, 33, 44] := ⟨rfl, by decide⟩
theorem inP_mix {a : List Int} (h : inP a) (x : Int) (hx : 0 ≤ x) : inP (dgMix a x) := ⟨by rw [dgMix, mix_len, h.1], mix_bd a x hx h.1 h.2 4 (by omega)⟩
theorem inP_all : ∀ (l a : List Int), inP a → (∀ x ∈ l, 0 ≤ x) → inP (dgAll a l)
  | [], _, h, _ => h
  | x :: l, a, h, hx => inP_all l (dgMix a x) (inP_mix h x (hx x List.mem_cons_self)) (fun y hy => hx y (List.mem_cons_of_mem _ hy))
theorem dgAll_cons (a : List Int) (x : Int) (l : List Int) : dgAll a (x :: l) = dgAll (dgMix a x) l := rfl
theorem mt_at (i : Nat) (h : i < 4) : rd [1103515245, 69069, 1664525, 22695477] (i : Int) = mulT.getD i 0 := by
  match i, h with
  | 0, _ => rfl
  | 1, _ => rfl
  | 2, _ => rfl
  | 3, _ => rfl
theorem rd_getD (l : List Int) (i : Nat) : rd l (i : Int) = l.getD i 0 := by simp [rd]
theorem specMix_step (l : List Int) (h : inP l) (x : Int) (hx : 0 ≤ x ∧ x ≤ 255) (i : Nat) (hi : i < 4) (k : Nat) :
    spec_l2Mix.l0 (k + 1) (mixN l x i) x [1103515245, 69069, 1664525, 22695477] i = spec_l2Mix.l0 k (mixN l x (i + 1)) x [1103515245, 69069, 1664525, 22695477] ((i + 1 : Nat) : Int) := by
  have hlen : (mixN l x i).length = 4 := by rw [mix_len, h.1]
  have b1 := mix_bd l x hx.1 h.1 h.2 i (by omega) i hi
  have b2 := mix_bd l x hx.1 h.1 h.2 i (by omega) ((i + 1) % 4) (by omega)
  have b3 := mulOk i hi
  simp only [spec_l2Mix.l0]
  rw [w64 (n := (i : Int) + 1) (by omega) (by omega)]
  have e6 : Int.tmod ((i : Int) + 1) 4 = ((i + 1) % 4 : Nat) := by rw [Int.tmod_eq_emod_of_nonneg (by omega)]; omega
  rw [e6, mt_at i hi, rd_getD, rd_getD]
  obtain ⟨p1, e1⟩ : ∃ p, p = (mixN l x i).getD i 0 := ⟨_, rfl⟩
  obtain ⟨p2, e2⟩ : ∃ p, p = (mixN l x i).getD ((i + 1) % 4) 0 := ⟨_, rfl⟩
  obtain ⟨p3, e3⟩ : ∃ p, p = mulT.getD i 0 := ⟨_, rfl⟩
  have e5 : mixN l x (i + 1) = (mixN l x i).set i ((p1 * p3 + x + 1 + p2) % 2147483579) := by rw [e1, e2, e3]; rfl
  rw [e5, ← e1, ← e2, ← e3]
  rw [← e1] at b1; rw [← e2] at b2; rw [← e3] at b3
  have b4 := prod_bd b1.1 b1.2 b3.1 b3.2
  rw [if_pos (by omega), if_pos (by omega), if_pos (by omega), if_pos (by simp; omega), if_pos (by omega), if_pos (by omega), w64 (n := p1 * p3) (by omega) (by omega), w64 (n := p1 * p3 + x) (by omega) (by omega), w64 (n := p1 * p3 + x + 1) (by omega) (by omega), w64 (by omega) (by omega), Int.tmod_eq_emod_of_nonneg (by omega), Int.toNat_natCast]
  rfl
theorem specMix_eq (l : List Int) (h : inP l) (x : Int) (hx : 0 ≤ x ∧ x ≤ 255) (k : Nat) (hk : 5 ≤ k) : spec_l2Mix.f k l x = some (dgMix l x) := by
  obtain ⟨k, rfl⟩ : ∃ m, k = m + 5 := ⟨k - 5, by omega⟩
  unfold spec_l2Mix.f
  have e0 := specMix_step l h x hx 0 (by omega) (k + 4)
  have e1 := specMix_step l h x hx 1 (by omega) (k + 3)
  have e2 := specMix_step l h x hx 2 (by omega) (k + 2)
  have e3 := specMix_step l h x hx 3 (by omega) (k + 1)
  have e4 : spec_l2Mix.l0 (k + 1) (mixN l x 4) x [1103515245, 69069, 1664525, 22695477] ((3 + 1 : Nat) : Int) = some (mixN l x 4) := by
    simp only [spec_l2Mix.l0]; rw [if_neg (by omega)]
  exact e0.trans (e1.trans (e2.trans (e3.trans e4)))
theorem tm256 (n : Int) (h : 0 ≤ n) : Int.tmod n 256 % 256 = n % 256 := by rw [Int.tmod_eq_emod_of_nonneg h]; omega
theorem td256 (n : Int) (h : 0 ≤ n) (h2 : n ≤ 9223372036854775807) : wrap64 (Int.tdiv n 256) = n / 256 := by
  rw [Int.tdiv_eq_ediv_of_nonneg h, w64 (by omega) (by omega)]
theorem specBytes_eq (n : Int) (h : 0 ≤ n) (h2 : n ≤ 9223372036854775807) (k : Nat) (hk : 5 ≤ k) : spec_l2Bytes.f k n = some (yb n) := by
  obtain ⟨k, rfl⟩ : ∃ m, k = m + 5 := ⟨k - 5, by omega⟩
  unfold spec_l2Bytes.f
  rw [if_pos (by omega)]
  simp only [Option.bind_some, List.length_replicate]
  simp only [spec_l2Bytes.l0]
  have a1 := td256 n h h2
  have a2 := td256 (n / 256) (by omega) (by omega)
  have a3 := td256 (n / 256 / 256) (by omega) (by omega)
  have w1 : wrap64 ((0 : Int) + 1) = 1 := by unfold wrap64; omega
  have w2 : wrap64 ((1 : Int) + 1) = 2 := by unfold wrap64; omega
  have w3 : wrap64 ((2 : Int) + 1) = 3 := by unfold wrap64; omega
  have w4 : wrap64 ((3 : Int) + 1) = 4 := by unfold wrap64; omega
  rw [w1, w2, w3, w4, a1, a2, a3, tm256 n h, tm256 _ (by omega), tm256 _ (by omega), tm256 _ (by omega)]
  simp [yb, List.replicate]
  omega
theorem specDig_l3 (a : List Int) (h : inP a) : ∀ (k : Nat), 10 ≤ k → spec_l2Digest.l3 k [] a (a.length : Int) 0 = some (a.flatMap yb) := by
  intro k hk
  obtain ⟨k, rfl⟩ : ∃ m, k = m + 10 := ⟨k - 10, by omega⟩
  obtain ⟨hl, hb⟩ := h
  match a, hl with
  | [b0, b1, b2, b3], _ =>
    have h0 := hb 0 (by omega)
    have h1 := hb 1 (by omega)
    have h2 := hb 2 (by omega)
    have h3 := hb 3 (by omega)
    simp only [List.getD_cons_zero, List.getD_cons_succ] at h0 h1 h2 h3
    have w1 : wrap64 ((0 : Int) + 1) = 1 := by unfold wrap64; omega
    have w2 : wrap64 ((1 : Int) + 1) = 2 := by unfold wrap64; omega
    have w3 : wrap64 ((2 : Int) + 1) = 3 := by unfold wrap64; omega
    have w4 : wrap64 ((3 : Int) + 1) = 4 := by unfold wrap64; omega
    have r0 : rd [b0, b1, b2, b3] 0 = b0 := rfl
    have r1 : rd [b0, b1, b2, b3] 1 = b1 := rfl
    have r2 : rd [b0, b1, b2, b3] 2 = b2 := rfl
    have r3 : rd [b0, b1, b2, b3] 3 = b3 := rfl
    simp only [spec_l2Digest.l3, w1, w2, w3, w4, r0, r1, r2, r3]
    rw [specBytes_eq b0 (by omega) (by omega) _ (by omega), specBytes_eq b1 (by omega) (by omega) _ (by omega), specBytes_eq b2 (by omega) (by omega) _ (by omega), specBytes_eq b3 (by omega) (by omega) _ (by omega)]
    simp [yb]
theorem specDig_l2 (d : Nat) : ∀ (a : List Int) (k i : Nat), inP a → i + d = 8 → d + 12 ≤ k → spec_l2Digest.l2 k a i = some ((dgAll a (List.replicate d 0)).flatMap yb) := by
  induction d with
  | zero =>
    intro a k i h hi hk
    obtain ⟨k, rfl⟩ : ∃ m, k = m + 1 := ⟨k - 1, by omega⟩
    simp only [spec_l2Digest.l2]
    rw [if_neg (by omega), specDig_l3 a h k (by omega)]; rfl
  | succ d ih =>
    intro a k i h hi hk
    obtain ⟨k, rfl⟩ : ∃ m, k = m + 1 := ⟨k - 1, by omega⟩
    simp only [spec_l2Digest.l2]
    rw [if_pos (by omega), specMix_eq a h 0 (by omega) k (by omega)]
    simp only [Option.bind_some]
    rw [w64 (by omega) (by omega), show ((i : Int) + 1) = ((i + 1 : Nat) : Int) from rfl, ih (dgMix a 0) k (i + 1) (inP_mix h 0 (by omega)) (by omega) (by omega)]
    rfl
theorem wbyte {x : Int} (h : 0 ≤ x ∧ x ≤ 255) : wrap64 x = x := w64 (by omega) (by omega)
theorem drop_rd {l : List Int} {i : Nat} (h : i < l.length) : l.drop i = rd l i :: l.drop (i + 1) := by rw [List.drop_eq_getElem_cons h, rd_nat h]
theorem specDig_l1 (xs : List Int) (hx : isBytes xs) (hl : xs.length ≤ 1000000000) (d : Nat) : ∀ (a : List Int) (k i : Nat), inP a → i + d = xs.length → d + 24 ≤ k →
    spec_l2Digest.l1 k a xs (xs.length : Int) i = some ((dgAll (dgAll a (xs.drop i)) (List.replicate 8 0)).flatMap yb) := by
  induction d with
  | zero =>
    intro a k i h hi hk
    obtain ⟨k, rfl⟩ : ∃ m, k = m + 1 := ⟨k - 1, by omega⟩
    simp only [spec_l2Digest.l1]
    rw [if_neg (by omega), List.drop_of_length_le (by omega)]
    exact specDig_l2 8 a k 0 h (by omega) (by omega)
  | succ d ih =>
    intro a k i h hi hk
    obtain ⟨k, rfl⟩ : ∃ m, k = m + 1 := ⟨k - 1, by omega⟩
    have hlt : i < xs.length := by omega
    have hb := hx (rd xs i) (rd_mem hlt)
    simp only [spec_l2Digest.l1]
    rw [if_pos (by omega), if_pos (by omega), if_pos (by omega), wbyte hb, specMix_eq a h _ hb k (by omega)]
    simp only [Option.bind_some]
    rw [w64 (by omega) (by omega), show ((i : Int) + 1) = ((i + 1 : Nat) : Int) from rfl, ih _ k (i + 1) (inP_mix h _ hb.1) (by omega) (by omega), drop_rd hlt, dgAll_cons]
theorem specDig_l0 (xs ys : List Int) (hx : isBytes xs) (hl : xs.length ≤ 1000000000) (hly : ys.length ≤ 1000000000) (d : Nat) : ∀ (a : List Int) (k i : Nat), inP a → i + d = xs.length → d + 40 ≤ k →
    spec_l2Digest.l0 k ys a xs (xs.length : Int) i = some ((dgAll (dgAll (dgAll a (xs.drop i)) (yb ys.length)) (List.replicate 8 0)).flatMap yb) := by
  induction d with
  | zero =>
    intro a k i h hi hk
    obtain ⟨k, rfl⟩ : ∃ m, k = m + 1 := ⟨k - 1, by omega⟩
    simp only [spec_l2Digest.l0]
    rw [if_neg (by omega), List.drop_of_length_le (by omega), specBytes_eq _ (by omega) (by omega) k (by omega)]
    exact specDig_l1 (yb ys.length) (yb_bytes _) (by rw [yb_len]; omega) 4 a k 0 h (by rw [yb_len]) (by omega)
  | succ d ih =>
    intro a k i h hi hk
    obtain ⟨k, rfl⟩ : ∃ m, k = m + 1 := ⟨k - 1, by omega⟩
    have hlt : i < xs.length := by omega
    have hb := hx (rd xs i) (rd_mem hlt)
    simp only [spec_l2Digest.l0]
    rw [if_pos (by omega), if_pos (by omega), if_pos (by omega), wbyte hb, specMix_eq a h _ hb k (by omega)]
    simp only [Option.bind_some]
    rw [w64 (by omega) (by omega), show ((i : Int) + 1) = ((i + 1 : Nat) : Int) from rfl, ih _ k (i + 1) (inP_mix h _ hb.1) (by omega) (by omega), drop_rd hlt, dgAll_cons]
theorem specDigest_eq (l : List Int) (h : isBytes l) (hl : l.length ≤ 1000000000) (k : Nat) (hk : l.length + 40 ≤ k) : spec_l2Digest.f k l = some (dg l) := by
  have := specDig_l0 l l h hl hl l.length [11, 22, 33, 44] k 0 inP_start (by omega) hk
  simpa [spec_l2Digest.f, dg, dgS] using this
theorem specDigest_ev (l : List Int) (h : isBytes l) (hl : l.length ≤ 1000000000) : Ev (fun k => spec_l2Digest.f k l) (dg l) := ⟨_, fun k hk => specDigest_eq l h hl k hk⟩
theorem isBytes_flatMap_yb (a : List Int) : isBytes (a.flatMap yb) := by
  intro x hx
  obtain ⟨n, _, hn⟩ := List.mem_flatMap.1 hx
  exact yb_bytes n x hn
theorem dg_bytes (l : List Int) : isBytes (dg l) := isBytes_flatMap_yb _
theorem dgAll_len : ∀ (l a : List Int), (dgAll a l).length = a.length
  | [], _ => rfl
  | x :: l, a => by rw [dgAll_cons, dgAll_len l, dgMix, mix_len]
theorem dg_len (l : List Int) : (dg l).length = 16 := by
  have h : (dgS l).length = 4 := by simp [dgS, dgAll_len]
  unfold dg
  match dgS l, h with
  | [b0, b1, b2, b3], _ => rfl
theorem isBytes_append {a b : List Int} (h : isBytes a) (h2 : isBytes b) : isBytes (a ++ b) := fun x hx => (List.mem_append.1 hx).elim (h x) (h2 x)
theorem implDigest_eq (l : List Int) (h : isBytes l) (hl : l.length ≤ 20000) : impl_Digest.f l = some (dg l) := by
  unfold impl_Digest.f; rw [if_pos h, if_neg (by omega)]
theorem isBytes_okL {l : List Int} (h : okL okB l) : isBytes l := fun x hx => h.2 x hx
theorem bytesOf_isBytes (s : ByteArray) : isBytes (bytesOf s) := by
  intro x hx
  simp only [bytesOf, List.mem_map] at hx
  obtain ⟨b, _, rfl⟩ := hx
  have := b.toNat_lt
  omega
/-- The sum of a key and data. -/
def macL (key data : List Int) : List Int := dg (dg key ++ dg data)
end Go.Proofs.Ytipdkendfcopiaa.Pr
/- What covers an entry: told the same by the program and by the reference. Plain facts. -/
namespace Go.Proofs.Ytipdkendfcopiaa.Pr
open Go.RowKit Go.Proofs.Ytipdkendfcopiaa.Read Go.Proofs.YtipdkendfcopiaaW.PrintWords

theorem specTwo_ev (a b : List Int) (ha : isBytes a) (hb : isBytes b) (la : a.length ≤ 100000000) (lb : b.length ≤ 100000000) : Ev (fun k => spec_l2Two.f k a b) (dg (a ++ b)) := by
  simp only [spec_l2Two.f, List.length_nil, Nat.zero_add, List.nil_append, if_pos (show a.length < 140737488355328 by omega), Option.bind_some, if_pos (show a.length + b.length < 140737488355328 by omega)]
  exact Ev.bind (specDigest_ev _ (isBytes_append ha hb) (by simp; omega)) (Ev.now _)
theorem specMac_ev (a b : List Int) (ha : isBytes a) (hb : isBytes b) (la : a.length ≤ 100000000) (lb : b.length ≤ 100000000) : Ev (fun k => spec_l2Mac.f k a b) (macL a b) := by
  simp only [spec_l2Mac.f]
  refine Ev.bind (specDigest_ev a ha (by omega)) ?_
  refine Ev.bind (specDigest_ev b hb (by omega)) ?_
  exact Ev.bind (specTwo_ev _ _ (dg_bytes a) (dg_bytes b) (by rw [dg_len]; omega) (by rw [dg_len]; omega)) (Ev.now _)
theorem implMac_ev (a b : List Int) (ha : isBytes a) (hb : isBytes b) (la : a.length ≤ 20000) (lb : b.length ≤ 20000) : Ev (fun k => impl_Mac.f k a b) (macL a b) := by
  refine ⟨1, fun k hk => ?_⟩
  obtain ⟨k, rfl⟩ : ∃ m, k = m + 1 := ⟨k - 1, by omega⟩
  show impl_Mac.f (k + 1) a b = _
  unfold impl_Mac.f
  rw [if_neg (by omega), decide_eq_false (by omega)]
  simp only [impl_Mac.j0, Bool.false_eq_true, if_false]
  rw [implDigest_eq a ha la]
  simp only [Option.bind_some]
  rw [implDigest_eq b hb lb]
  simp only [Option.bind_some]
  rw [if_pos (by rw [dg_len, dg_len]; omega), implDigest_eq _ (isBytes_append (dg_bytes a) (dg_bytes b)) (by rw [List.length_append, dg_len, dg_len]; omega)]
  rfl
theorem bytesOfS_eq (s : ByteArray) (h : s.size ≤ 9223372036854775807) : bytesOfS.f s = some (bytesOf s) := by unfold bytesOfS.f; rw [if_pos h]

def coverL (what : ByteArray) (salt cover : List Int) : List Int := if cover.length = 0 then macL salt (bytesOf what) else cover
theorem good_open {t : Int} {who what : ByteArray} {salt cover : List Int} (h : goodEntry t who what salt cover = true) (hc : cover.length = 0) : what.size ≤ 200 ∧ salt.length ≤ 20 := by
  unfold goodEntry at h
  split at h; · cases h
  split at h; · cases h
  split at h; · cases h
  split at h; · cases h
  simp only [Bool.and_eq_true, decide_eq_true_eq] at h
  omega
theorem good_who {t : Int} {who what : ByteArray} {salt cover : List Int} (h : goodEntry t who what salt cover = true) : 0 ≤ t ∧ t ≤ 100000000000 ∧ who.size ≤ 60 := by
  unfold goodEntry at h
  split at h; · cases h
  split at h; · cases h
  split at h; · cases h
  omega
theorem good_closed {t : Int} {who what : ByteArray} {salt cover : List Int} (h : goodEntry t who what salt cover = true) (hc : cover.length ≠ 0) : cover.length = 16 := by
  unfold goodEntry at h
  split at h; · cases h
  split at h; · cases h
  split at h; · cases h
  split at h; · cases h
  simp only [Bool.and_eq_true, decide_eq_true_eq] at h
  exact h.1.1
theorem coverL_len {t : Int} {who what : ByteArray} {salt cover : List Int} (h : goodEntry t who what salt cover = true) : (coverL what salt cover).length = 16 := by
  unfold coverL
  split
  · rw [macL, dg_len]
  · exact good_closed h (by assumption)
theorem coverL_bytes (what : ByteArray) (salt : List Int) {cover : List Int} (h : isBytes cover) : isBytes (coverL what salt cover) := by
  unfold coverL
  split
  · exact dg_bytes _
  · exact h
theorem specCover_ev (t : Int) (who what : ByteArray) (salt cover : List Int) (hg : goodEntry t who what salt cover = true) (hs : isBytes salt) : Ev (fun k => spec_l21Cover.f k t who what salt cover) (coverL what salt cover) := by
  unfold coverL
  by_cases hc : cover.length = 0
  · obtain ⟨h1, h2⟩ := good_open hg hc
    simp only [spec_l21Cover.f, spec_l21Open.f, hc, Option.bind_some, bytesOfS_eq what (by omega), if_true, beq_self_eq_true, Int.natCast_zero]
    exact Ev.bind (specMac_ev salt (bytesOf what) hs (bytesOf_isBytes what) (by omega) (by rw [bytesOf_length]; omega)) (Ev.now _)
  · have h16 := good_closed hg hc
    simp only [spec_l21Cover.f, spec_l21Open.f, Option.bind_some, beq_iff_eq, List.length_nil, Nat.zero_add, List.nil_append, if_neg (show ¬ ((cover.length : Int) = 0) by omega), if_pos (show cover.length < 140737488355328 by omega), if_neg hc]
    exact Ev.now _
theorem specCoverOf_ev (t : Int) (who what : ByteArray) (salt cover : List Int) (h1 : okS who) (h2 : okS what) (hs : isBytes salt) :
    Ev (fun k => spec_CoverOf.f k t who what salt cover) (if goodEntry t who what salt cover = true then coverL what salt cover else []) := by
  simp only [spec_CoverOf.f]
  refine Ev.bind ⟨_, fun k hk => specGood_eq t who what salt cover h1 h2 k hk⟩ ?_
  by_cases hg : goodEntry t who what salt cover = true
  · simp only [if_pos hg]
    exact Ev.bind (specCover_ev t who what salt cover hg hs) (Ev.now _)
  · simp only [if_neg hg]
    exact Ev.now _
theorem implCoverOf_ev (t : Int) (who what : ByteArray) (salt cover : List Int) (h1 : okS who) (h2 : okS what) (hs : isBytes salt) :
    Ev (fun k => impl_CoverOf.f k t who what salt cover) (if goodEntry t who what salt cover = true then coverL what salt cover else []) := by
  simp only [impl_CoverOf.f]
  refine Ev.bind ⟨_, fun k hk => implGood_eq t who what salt cover h1 h2 k hk⟩ ?_
  by_cases hg : goodEntry t who what salt cover = true
  · simp only [if_pos hg]
    unfold coverL
    by_cases hc : cover.length = 0
    · obtain ⟨h3, h4⟩ := good_open hg hc
      simp only [if_pos hc, if_neg (show ¬ ((cover.length : Int) > 0) by omega), bytesOfS_eq what (by omega), Option.bind_some]
      exact Ev.bind (implMac_ev salt (bytesOf what) hs (bytesOf_isBytes what) (by omega) (by rw [bytesOf_length]; omega)) (Ev.now _)
    · have h16 := good_closed hg hc
      simp only [if_neg hc, if_pos (show (cover.length : Int) > 0 by omega), bytes_Clone.f, if_pos (show cover.length ≤ 140737488355328 by omega), Option.bind_some]
      exact Ev.now _
  · simp only [if_neg hg]
    exact Ev.now _
theorem markLogEntry_ev (t : Int) (who what : ByteArray) (salt cover : List Int) (c : Int) (h3 : salt.length ≤ 1048576) (h4 : cover.length ≤ 1048576) (hc : 0 ≤ c) (hc2 : c ≤ 1000000000) : Ev (fun k => laws_markLogEntry.f k t who what salt cover c) (c + salt.length + cover.length, markL salt.length c, markL cover.length (c + salt.length)) := by
  simp only [laws_markLogEntry.f]
  refine Ev.bind (markByteS_ev salt c (by omega) hc (by omega)) ?_
  dsimp only
  exact Ev.bind (markByteS_ev cover _ (by omega) (by omega) (by omega)) (Ev.now _)
theorem heldLogEntry_ev (t : Int) (who what : ByteArray) (n m : Nat) (c : Int) (h3 : n ≤ 1048576) (h4 : m ≤ 1048576) (hc : 0 ≤ c) (hc2 : c ≤ 1000000000) : Ev (fun k => laws_heldLogEntry.f k t who what (markL n c) (markL m (c + n)) c) (c + n + m) := by
  simp only [laws_heldLogEntry.f]
  refine Ev.bind (heldByteS_ev n c (by omega) hc (by omega)) ?_
  simp only [if_neg (show ¬ c + (n : Int) < 0 by omega)]
  refine Ev.bind (heldByteS_ev m (c + n) (by omega) (by omega) (by omega)) ?_
  simp only [if_neg (show ¬ c + (n : Int) + (m : Int) < 0 by omega)]
  exact Ev.now _
end Go.Proofs.Ytipdkendfcopiaa.Pr
/- LeafOf, plain: the program's and the reference's are one. -/
namespace Go.Proofs.Ytipdkendfcopiaa.Pr
open Go.RowKit Go.Proofs.Ytipdkendfcopiaa.Read Go.Proofs.YtipdkendfcopiaaW.PrintWords
def leafL (t : Int) (who what : ByteArray) (salt cover : List Int) : List Int := dg ([0] ++ yb t ++ yb (t / 4294967296) ++ dg (bytesOf who) ++ coverL what salt cover)
theorem leafL_len (t : Int) (who what : ByteArray) (salt cover : List Int) : (leafL t who what salt cover).length = 16 := dg_len _
theorem leafL_bytes (t : Int) (who what : ByteArray) (salt cover : List Int) : isBytes (leafL t who what salt cover) := dg_bytes _
theorem yb_bound (t : Int) : isBytes (yb t) := yb_bytes t
theorem yb_low (t : Int) (h0 : 0 ≤ t) : yb (Int.tmod t 4294967296) = yb t := by
  rw [Int.tmod_eq_emod_of_nonneg h0]
  simp only [yb, List.cons.injEq, and_true]
  omega
theorem high_eq (t : Int) (h0 : 0 ≤ t) (h1 : t ≤ 100000000000) : wrap64 (Int.tdiv t 4294967296) = t / 4294967296 := by
  rw [Int.tdiv_eq_ediv_of_nonneg h0]
  exact w64 (by omega) (by omega)
theorem zero_bytes : isBytes [0] := by
  intro x hx
  simp at hx
  omega
theorem leaf_parts (t : Int) (who what : ByteArray) {salt cover : List Int} (hc : isBytes cover) : isBytes ([0] ++ yb t ++ yb (t / 4294967296) ++ dg (bytesOf who) ++ coverL what salt cover) :=
  isBytes_append (isBytes_append (isBytes_append (isBytes_append zero_bytes (yb_bytes _)) (yb_bytes _)) (dg_bytes _)) (coverL_bytes what salt hc)
theorem specLeaf_ev (t : Int) (who what : ByteArray) (salt cover : List Int) (hg : goodEntry t who what salt cover = true) (hs : isBytes salt) (hc : isBytes cover) : Ev (fun k => spec_l21Leaf.f k t who what salt cover) (leafL t who what salt cover) := by
  obtain ⟨g0, g1, g2⟩ := good_who hg
  have hl := coverL_len hg
  have hd := dg_len (bytesOf who)
  have hy := fun n => yb_len n
  simp only [spec_l21Leaf.f, Option.bind_some, high_eq t g0 g1]
  have b1 : Ev (fun k => spec_l2Bytes.f k (Int.tmod t 4294967296)) (yb t) := ⟨5, fun k hk => by show spec_l2Bytes.f k (Int.tmod t 4294967296) = _; rw [specBytes_eq _ (by rw [Int.tmod_eq_emod_of_nonneg g0]; omega) (by rw [Int.tmod_eq_emod_of_nonneg g0]; omega) k hk, yb_low t g0]⟩
  refine Ev.bind b1 ?_
  simp only [if_pos (show ([0] : List Int).length + (yb t).length < 140737488355328 by rw [hy]; simp)]
  refine Ev.bind ⟨5, fun k hk => specBytes_eq (t / 4294967296) (by omega) (by omega) k hk⟩ ?_
  simp only [if_pos (show (([0] : List Int) ++ yb t).length + (yb (t / 4294967296)).length < 140737488355328 by rw [List.length_append, hy, hy]; simp), bytesOfS_eq who (by omega), Option.bind_some]
  refine Ev.bind (specDigest_ev (bytesOf who) (bytesOf_isBytes who) (by rw [bytesOf_length]; omega)) ?_
  simp only [if_pos (show (([0] : List Int) ++ yb t ++ yb (t / 4294967296)).length + (dg (bytesOf who)).length < 140737488355328 by simp only [List.length_append, hy, hd]; simp)]
  refine Ev.bind (specCover_ev t who what salt cover hg hs) ?_
  simp only [if_pos (show (([0] : List Int) ++ yb t ++ yb (t / 4294967296) ++ dg (bytesOf who)).length + (coverL what salt cover).length < 140737488355328 by simp only [List.length_append, hy, hd, hl]; simp)]
  exact Ev.bind (specDigest_ev _ (leaf_parts t who what hc) (by simp only [List.length_append, hy, hd, hl]; simp)) (Ev.now _)
theorem specLeafOf_ev (t : Int) (who what : ByteArray) (salt cover : List Int) (h1 : okS who) (h2 : okS what) (hs : isBytes salt) (hc : isBytes cover) :
    Ev (fun k => spec_LeafOf.f k t who what salt cover) (if goodEntry t who what salt cover = true then leafL t who what salt cover else []) := by
  simp only [spec_LeafOf.f]
  refine Ev.bind ⟨_, fun k hk => specGood_eq t who what salt cover h1 h2 k hk⟩ ?_
  by_cases hg : goodEntry t who what salt cover = true
  · simp only [if_pos hg]
    exact Ev.bind (specLeaf_ev t who what salt cover hg hs hc) (Ev.now _)
  · simp only [if_neg hg]
    exact Ev.now _
theorem concat_eq (ls : List (List Int)) (h : ls.flatten.length ≤ 140737488355328) : slices_Concat_byte_byte.f ls = some ls.flatten := by
  unfold slices_Concat_byte_byte.f
  rw [if_pos h]
theorem implLeafOf_ev (t : Int) (who what : ByteArray) (salt cover : List Int) (h1 : okS who) (h2 : okS what) (hs : isBytes salt) (hc : isBytes cover) :
    Ev (fun k => impl_LeafOf.f k t who what salt cover) (if goodEntry t who what salt cover = true then leafL t who what salt cover else []) := by
  simp only [impl_LeafOf.f]
  refine Ev.bind ⟨_, fun k hk => implGood_eq t who what salt cover h1 h2 k hk⟩ ?_
  by_cases hg : goodEntry t who what salt cover = true
  · obtain ⟨g0, g1, g2⟩ := good_who hg
    have hl := coverL_len hg
    have hd := dg_len (bytesOf who)
    have hy := fun n => yb_len n
    have y1 : ∀ n, impl_ybytes.f n = some (yb n) := fun n => rfl
    have hco := implCoverOf_ev t who what salt cover h1 h2 hs
    rw [if_pos hg] at hco
    have hfl : ([[0], yb t, yb (t / 4294967296), dg (bytesOf who), coverL what salt cover] : List (List Int)).flatten = [0] ++ yb t ++ yb (t / 4294967296) ++ dg (bytesOf who) ++ coverL what salt cover := by simp
    have hcat := concat_eq [[0], yb t, yb (t / 4294967296), dg (bytesOf who), coverL what salt cover] (by rw [hfl]; simp only [List.length_append, hy, hd, hl]; simp)
    rw [hfl] at hcat
    simp only [if_pos hg, y1, Option.bind_some, bytesOfS_eq who (by omega), implDigest_eq (bytesOf who) (bytesOf_isBytes who) (by rw [bytesOf_length]; omega)]
    refine Ev.bind hco ?_
    simp only [hcat, Option.bind_some, implDigest_eq _ (leaf_parts t who what (salt := salt) hc) (by simp only [List.length_append, hy, hd, hl]; simp)]
    exact Ev.now _
  · simp only [if_neg hg]
    exact Ev.now _
end Go.Proofs.Ytipdkendfcopiaa.Pr
/- The law FnExactLeafOf, its plain part: the program's and the reference's answers are one for every entry, and lie in memory of their own. -/
namespace Go.Proofs.Ytipdkendfcopiaa.Pure
open Go.RowKit Go.Proofs.Ytipdkendfcopiaa.Read Go.Proofs.YtipdkendfcopiaaW.PrintWords Go.Proofs.Ytipdkendfcopiaa.Pr
theorem FnExactLeafOf : laws_FnExactLeafOf.Pure := by
  intro t who what salt cover h0 h1 h2 h3 h4
  obtain ⟨r, hr, hsmall⟩ := szLogEntry_small t who what salt cover h1 h2 h3 h4
  by_cases hneg : r < 0
  · exact ⟨0, by simp only [laws_FnExactLeafOf.f, hr, Option.bind_some, if_pos hneg]⟩
  obtain ⟨s1, s2, s3, s4⟩ := hsmall hneg
  have hto := toLogEntry_ev t who what salt cover s3 s4
  have hspec := specLeafOf_ev t who what salt cover h1 h2 (isBytes_okL h3) (isBytes_okL h4)
  have himpl := implLeafOf_ev t who what salt cover h1 h2 (isBytes_okL h3) (isBytes_okL h4)
  have hlen : (if goodEntry t who what salt cover = true then leafL t who what salt cover else []).length ≤ 16 := by
    split
    · rw [leafL_len]; omega
    · simp
  generalize (if goodEntry t who what salt cover = true then leafL t who what salt cover else []) = R at hspec himpl hlen
  apply Ev.rounds
  simp only [laws_FnExactLeafOf.f, hr, Option.bind_some, if_neg hneg]
  refine Ev.bind hto ?_
  dsimp only
  refine Ev.bind hspec ?_
  refine Ev.bind hto ?_
  dsimp only
  refine Ev.bind himpl ?_
  refine Ev.bind (eqByteS_refl R (by omega)) ?_
  simp only [if_true]
  refine Ev.bind hto ?_
  dsimp only
  refine Ev.bind (eqLogEntry_refl t who what salt cover s3 s4) ?_
  simp only [if_true]
  refine Ev.bind (markLogEntry_ev t who what salt cover 1 s3 s4 (by omega) (by omega)) ?_
  simp only [if_neg (show ¬ (1 : Int) + salt.length + cover.length < 0 by omega)]
  refine Ev.bind (eqByteS_refl R (by omega)) ?_
  simp only [if_true]
  refine Ev.bind (markByteS_ev R 1 (by omega) (by omega) (by omega)) ?_
  dsimp only
  refine Ev.bind (heldByteS_ev R.length 1 (by omega) (by omega) (by omega)) ?_
  simp only [if_neg (show ¬ (1 : Int) + R.length < 0 by omega), if_true]
  refine Ev.bind hto ?_
  dsimp only
  refine Ev.bind himpl ?_
  refine Ev.bind (eqByteS_refl R (by omega)) ?_
  simp only [if_true]
  refine Ev.bind (heldByteS_ev R.length 1 (by omega) (by omega) (by omega)) ?_
  simp only [if_neg (show ¬ (1 : Int) + R.length < 0 by omega), if_true]
  exact Ev.now _
end Go.Proofs.Ytipdkendfcopiaa.Pure
/- The law FnExactLeafOf: whatever the input, the call returns true and the arguments read as before. No conditions. -/
namespace Go.Proofs.Ytipdkendfcopiaa.fnExactLeafOf
open Go.ChangeShapes Go.WideShapes Go.ChangeAt Go.RowKit Go.Proofs.Ytipdkendfcopiaa.Read Go.Proofs.YtipdkendfcopiaaW.PrintWords Go.Proofs.Ytipdkendfcopiaa.Pr
open Go.ChangeMaps (open_string shut_string)
set_option linter.unusedVariables false
theorem own : ownKnob Try.prog.godebug = none := by kernel_rfl
theorem laidOut : laidOutB Try.prog = true := by kernel_rfl
set_option maxRecDepth 100000 in
theorem lifted (os : Os) (started : os.Started) (H : Type) (enc : TypeId × Value → H) :
    ReturnsInHanded {} Try.checked os 5 .any (Rows.fnExactLeafOfSpec.pre6 enc Try.prog Try.f5 Rows.fnExactLeafOfRow.domain false) (Rows.fnExactLeafOfSpec.post enc Try.prog Try.f5 false true false false) := by
  refine returnsInHanded_of_change (C := Try.checked) own started (by kernel_rfl) Try.func5
    (ChangeSpec.witness6 (enc := enc) (C := Try.checked) false ⟨#[], #[.agg #[.int .i64 0, .string ByteArray.empty, .string ByteArray.empty, .slice none 0 0, .slice none 0 0]], []⟩ 8 (by kernel_rfl) (by kernel_rfl) (by kernel_rfl) (by kernel_rfl)) ?_
  intro W base args ds gs before hval0 hW hcnd _
  have hval : ∀ (j : Nat) t v, Try.f5.params[j]? = some t → args[j]? = some v → Value.okWide Try.prog W .any base t v := hval0
  have hW' := hW
  obtain ⟨p, q, hA0, hV, rfl, hfz, hnd⟩ := hW
  have hA : DataW.TrodAll enc Try.prog W 0 (fun _ => true) true Try.f5.params.toList args.toList ds p := hA0
  rw [Try.params5] at hA hval
  obtain ⟨v0, vs0, d0, ds0, p0, q0, hargs, rfl, rfl, h0, r0⟩ := trodAll_cons hA
  obtain ⟨rfl, rfl, rfl⟩ := trodAll_nil r0
  obtain rfl : args = #[v0] := by cases args; simp_all
  obtain ⟨rfl, rfl⟩ := trodVars_none hV
  have lt0 : ∀ x ∈ p0, x.block < W.heap.size := by obtain ⟨m, hm⟩ := h0; exact DataW.trod_lt m _ _ _ hm
  have bk0 := fun {W' : World} (bel : Below W.heap.size W W') => Below.trod laidOut (by kernel_rfl) (of_decide_eq_true (by kernel_rfl)) h0 bel lt0
  obtain ⟨⟨a0_0, ⟨a0_1, ⟨a0_2, ⟨l0_3, l0_4⟩⟩⟩⟩, cs0, hv0, hK0, ⟨o0_0, ⟨o0_1, ⟨o0_2, ⟨o0_3, o0_4⟩⟩⟩⟩⟩ := arg_struct Try.underlying24 (tells_struct Try.underlying24 (by kernel_rfl) (fs_cons rfl (tellsI Try.underlying3 (by kernel_rfl)) (fs_cons rfl (tellsS Try.underlying9 (by kernel_rfl)) (fs_cons rfl (tellsS Try.underlying9 (by kernel_rfl)) (fs_cons rfl (tellsL Try.underlying22 (by kernel_rfl) (tellsB Try.underlying5 (by kernel_rfl))) (fs_one rfl (tellsL Try.underlying22 (by kernel_rfl) (tellsB Try.underlying5 (by kernel_rfl))))))))) (hval 0 24 v0 rfl rfl) h0
  obtain ⟨_, _, rfl, rfl, ⟨_, _, rfl, rfl, ⟨_, _, rfl, rfl, ⟨_, _, rfl, ⟨A0_3, c0_3, rfl, hl0_3, hC0_3⟩, ⟨A0_4, c0_4, rfl, hl0_4, hC0_4⟩⟩⟩⟩⟩ := hK0
  simp only [List.cons_append, List.nil_append] at hv0
  subst hv0
  obtain ⟨k, hk⟩ := Pure.FnExactLeafOf a0_0 a0_1 a0_2 l0_3 l0_4 o0_0 o0_1 o0_2 o0_3 o0_4
  refine (laws_FnExactLeafOf.calls k a0_0 a0_1 a0_2 _ _ l0_3 _ _ l0_4 true W hC0_3 hl0_3 hC0_4 hl0_4 hk).mono fun e W' hpost => ?_
  obtain ⟨he, hb⟩ := hpost
  have bel : Below W.heap.size W W' := hb
  subst he
  exact ⟨_, rfl, _, _, _, [], _, [], hW', trodAll_mk1 (shut_bool Try.underlying4 _), (trodAll_cons_mk (bk0 bel) trodAll_mk0), rfl, bel.frame _, fun h => by cases h⟩
theorem over : Rows.fnExactLeafOfRow.holds Try.pinned (OpenSpec.ofChange Rows.fnExactLeafOfSpec) :=
  OpenClaim.holds_of_wide 5 Try.f5 rfl rfl rfl rfl rfl rfl rfl ⟨rfl, rfl, rfl, rfl, rfl⟩ rfl rfl rfl rfl rfl (by kernel_rfl) Try.func5 (by kernel_rfl)
    (of_decide_eq_true (by kernel_rfl)) (by unfold Func.isWrapper; first | (rw [if_pos (by decide +kernel)]; kernel_rfl) | (rw [if_neg (by decide +kernel)]; exact ⟨rfl, rfl⟩))
    (fun os started H enc _ => lifted os started H enc)
theorem proved : Rows.FnExactLeafOfSaid := over
#print axioms proved
end Go.Proofs.Ytipdkendfcopiaa.fnExactLeafOf
namespace Go.Proofs.Ytipdkendfcopiaa
/-- The row, under a short name, for the claim. -/
theorem fnExactLeafOf_holds : Rows.FnExactLeafOfSaid := fnExactLeafOf.proved
end Go.Proofs.Ytipdkendfcopiaa
