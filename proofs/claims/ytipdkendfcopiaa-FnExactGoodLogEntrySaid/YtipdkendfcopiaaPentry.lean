/- Log entries: what is good, told the same by the program and by the reference; their copies. Plain facts. -/
import Derived.Test.YtipdkendfcopiaaPbytes
import Derived.Test.YtipdkendfcopiaaPr18
import Derived.Test.YtipdkendfcopiaaPr20
import Derived.Test.YtipdkendfcopiaaPr19
import Derived.Test.YtipdkendfcopiaaPr21
import Derived.Test.YtipdkendfcopiaaPr17
import Derived.Test.YtipdkendfcopiaaPr25
namespace Go.Proofs.Ytipdkendfcopiaa.Pr
open Go.RowKit Go.Proofs.Ytipdkendfcopiaa.Read Go.Proofs.YtipdkendfcopiaaW.PrintWords

/-- Are the last d bytes of s all printed ones? -/
def prtN (s : ByteArray) : Nat → Bool
  | 0 => true
  | d + 1 => if bt s ((s.size - (d + 1) : Nat) : Int) < 32 then false else if bt s ((s.size - (d + 1) : Nat) : Int) > 126 then false else prtN s d
def prt (s : ByteArray) : Bool := prtN s s.size
theorem l1Printed_l0 (s : ByteArray) (hs : s.size ≤ 9223372036854775807) (d : Nat) : ∀ (k i : Nat), s.size - i = d → i ≤ s.size → d < k → spec_l1Printed.l0 k s i = some (prtN s d) := by
  induction d with
  | zero =>
    intro k i hd hi hk
    obtain ⟨k, rfl⟩ : ∃ m, k = m + 1 := ⟨k - 1, by omega⟩
    simp only [spec_l1Printed.l0]
    rw [if_neg (by omega)]; rfl
  | succ d ih =>
    intro k i hd hi hk
    obtain ⟨k, rfl⟩ : ∃ m, k = m + 1 := ⟨k - 1, by omega⟩
    have e0 : s.size - (d + 1) = i := by omega
    simp only [spec_l1Printed.l0, prtN, e0]
    rw [if_pos (by omega), if_pos (by omega), w64 (by omega) (by omega), show ((i : Int) + 1) = ((i + 1 : Nat) : Int) from rfl, ih k (i + 1) (by omega) (by omega) (by omega)]
    split
    · rfl
    · split <;> rfl
theorem l1Printed_eq (s : ByteArray) (hs : s.size ≤ 9223372036854775807) (k : Nat) (hk : s.size < k) : spec_l1Printed.f k s = some (prt s) :=
  l1Printed_l0 s hs s.size k 0 (by omega) (by omega) hk
theorem yprinted_l0 (s : ByteArray) (hs : s.size ≤ 9223372036854775807) (d : Nat) : ∀ (k i : Nat), s.size - i = d → i ≤ s.size → d < k → impl_yprinted.l0 k s (s.size : Int) i = some (prtN s d) := by
  induction d with
  | zero =>
    intro k i hd hi hk
    obtain ⟨k, rfl⟩ : ∃ m, k = m + 1 := ⟨k - 1, by omega⟩
    simp only [impl_yprinted.l0]
    rw [if_neg (by omega)]; rfl
  | succ d ih =>
    intro k i hd hi hk
    obtain ⟨k, rfl⟩ : ∃ m, k = m + 1 := ⟨k - 1, by omega⟩
    have e0 : s.size - (d + 1) = i := by omega
    simp only [impl_yprinted.l0, prtN, e0]
    rw [if_pos (by omega), if_pos (by omega), if_pos (by omega), w64 (by omega) (by omega), show ((i : Int) + 1) = ((i + 1 : Nat) : Int) from rfl, ih k (i + 1) (by omega) (by omega) (by omega)]
    split
    · rfl
    · split <;> rfl
theorem yprinted_eq (s : ByteArray) (lo hi : Int) (hs : s.size ≤ 9223372036854775807) (k : Nat) (hk : s.size + 1 < k) : impl_yprinted.f k s lo hi = some (decide (lo ≤ s.size) && decide ((s.size : Int) ≤ hi) && prt s) := by
  obtain ⟨k, rfl⟩ : ∃ m, k = m + 1 := ⟨k - 1, by omega⟩
  unfold impl_yprinted.f
  have e := yprinted_l0 s hs s.size k 0 (by omega) (by omega) (by omega)
  by_cases h1 : (s.size : Int) < lo
  · rw [if_pos h1]
    simp only [impl_yprinted.j0, if_true]
    simp; omega
  · rw [if_neg h1]
    have h1' : decide (lo ≤ (s.size : Int)) = true := decide_eq_true (by omega)
    by_cases h2 : (s.size : Int) ≤ hi
    · have h2' : decide ((s.size : Int) > hi) = false := decide_eq_false (by omega)
      have h2'' : decide ((s.size : Int) ≤ hi) = true := decide_eq_true h2
      rw [h1', h2', h2'']
      simp only [impl_yprinted.j0, Bool.false_eq_true, if_false, Bool.true_and]
      exact e
    · have h2' : decide ((s.size : Int) > hi) = true := decide_eq_true (by omega)
      have h2'' : decide ((s.size : Int) ≤ hi) = false := decide_eq_false h2
      rw [h1', h2', h2'']
      simp [impl_yprinted.j0]

def goodEntry (t : Int) (who what : ByteArray) (salt cover : List Int) : Bool :=
  if t < 0 then false else if t > 100000000000 then false else if (who.size : Int) > 60 then false else if prt who = false then false else
  if cover.length = 0 then (decide ((what.size : Int) ≤ 200) && prt what && decide ((salt.length : Int) ≤ 20))
  else decide (cover.length = 16) && decide (what.toList = ([] : List UInt8)) && decide (salt.length = 0)
theorem specGood_eq (t : Int) (who what : ByteArray) (salt cover : List Int) (h1 : okS who) (h2 : okS what) (k : Nat) (hk : who.size + what.size + 1 < k) : spec_GoodLogEntry.f k t who what salt cover = some (goodEntry t who what salt cover) := by
  unfold okS at h1 h2
  obtain ⟨k, rfl⟩ : ∃ m, k = m + 1 := ⟨k - 1, by omega⟩
  unfold spec_GoodLogEntry.f goodEntry
  have bad : spec_GoodLogEntry.j0 (k + 1) true t who what salt cover = some false := by simp [spec_GoodLogEntry.j0]
  rw [bad]
  split; · rfl
  split; · rfl
  split; · rfl
  rw [l1Printed_eq who h1 (k + 1) (by omega)]
  simp only [Option.bind_some]
  cases prt who with
  | false => exact bad
  | true =>
    simp only [Bool.not_true, spec_GoodLogEntry.j0, Bool.false_eq_true, if_false, spec_l21Open.f, Option.bind_some, beq_iff_eq, reduceCtorEq]
    by_cases hc : cover.length = 0
    · rw [if_pos (by omega), if_pos hc]
      by_cases hw : (what.size : Int) ≤ 200
      · rw [if_pos hw, l1Printed_eq what h2 k (by omega)]
        simp only [Option.bind_some]
        cases prt what <;> simp [hw]
      · rw [if_neg hw]; simp [hw]
    · rw [if_neg (by omega), if_neg hc]
      by_cases hc2 : cover.length = 16
      · rw [if_pos (by omega)]
        by_cases hw : what.toList = []
        · rw [if_pos hw]
          simp only [hc2, hw, decide_true, Bool.true_and, Option.some.injEq]
          rw [Bool.eq_iff_iff]; simp
        · rw [if_neg hw]; simp [hw]
      · rw [if_neg (by omega)]; simp [hc2]
theorem implGood_eq (t : Int) (who what : ByteArray) (salt cover : List Int) (h1 : okS who) (h2 : okS what) (k : Nat) (hk : who.size + what.size + 3 < k) : impl_GoodLogEntry.f k t who what salt cover = some (goodEntry t who what salt cover) := by
  unfold okS at h1 h2
  obtain ⟨k, rfl⟩ : ∃ m, k = m + 1 := ⟨k - 1, by omega⟩
  unfold impl_GoodLogEntry.f goodEntry
  have bad : impl_GoodLogEntry.j0 (k + 1) true t who what salt cover = some false := by simp [impl_GoodLogEntry.j0]
  rw [bad]
  split; · rfl
  split; · rfl
  rw [yprinted_eq who 0 60 h1 (k + 1) (by omega)]
  simp only [Option.bind_some]
  by_cases h60 : (who.size : Int) > 60
  · rw [if_pos h60]
    have : decide ((who.size : Int) ≤ 60) = false := decide_eq_false (by omega)
    rw [this]
    simpa using bad
  rw [if_neg h60]
  have e60 : decide ((who.size : Int) ≤ 60) = true := decide_eq_true (by omega)
  have e0 : decide ((0 : Int) ≤ (who.size : Int)) = true := decide_eq_true (by omega)
  rw [e60, e0]
  simp only [Bool.true_and]
  cases prt who with
  | false => exact bad
  | true =>
    simp only [Bool.not_true, impl_GoodLogEntry.j0, Bool.false_eq_true, if_false, reduceCtorEq]
    by_cases hc : cover.length = 0
    · rw [if_pos (by omega), if_pos hc, yprinted_eq what 0 200 h2 k (by omega)]
      simp only [Option.bind_some]
      have e0 : decide ((0 : Int) ≤ (what.size : Int)) = true := decide_eq_true (by omega)
      rw [e0, Bool.true_and]
      cases hh : (decide ((what.size : Int) ≤ 200) && prt what) <;> simp
    · rw [if_neg (by omega), if_neg hc]
      by_cases hc2 : cover.length = 16
      · rw [if_pos (by omega)]
        by_cases hw : what.toList = []
        · rw [if_pos hw]
          simp only [hc2, hw, decide_true, Bool.true_and, Option.some.injEq]
          rw [Bool.eq_iff_iff]; simp
        · rw [if_neg hw]; simp [hw]
      · rw [if_neg (by omega)]; simp [hc2]

/-- Behind the size's test all is short. -/
theorem szLogEntry_small (t : Int) (who what : ByteArray) (salt cover : List Int) (h1 : okS who) (h2 : okS what) (h3 : okL okB salt) (h4 : okL okB cover) :
    ∃ r, laws_szLogEntry.f t who what salt cover 1048576 = some r ∧ (¬ r < 0 → who.size ≤ 1048576 ∧ what.size ≤ 1048576 ∧ salt.length ≤ 1048576 ∧ cover.length ≤ 1048576) := by
  unfold okS at h1 h2
  have h3 := h3.1
  have h4 := h4.1
  unfold laws_szLogEntry.f
  rw [w64 (by omega) (by omega)]
  by_cases e1 : (1048576 : Int) - who.size < 0
  · exact ⟨_, by rw [if_pos e1], by omega⟩
  rw [if_neg e1, w64 (by omega) (by omega)]
  by_cases e2 : (1048576 : Int) - who.size - what.size < 0
  · exact ⟨_, by rw [if_pos e2], by omega⟩
  rw [if_neg e2, szByteS_eq, w64 (by omega) (by omega)]
  simp only [Option.bind_some]
  by_cases e3 : (1048576 : Int) - who.size - what.size - salt.length < 0
  · rw [if_pos e3]; exact ⟨_, rfl, by omega⟩
  rw [if_neg e3, if_neg e3, szByteS_eq, w64 (by omega) (by omega)]
  simp only [Option.bind_some]
  by_cases e4 : (1048576 : Int) - who.size - what.size - salt.length - cover.length < 0
  · rw [if_pos e4]; exact ⟨_, rfl, by omega⟩
  rw [if_neg e4, if_neg e4]; exact ⟨_, rfl, by omega⟩
theorem toLogEntry_ev (t : Int) (who what : ByteArray) (salt cover : List Int) (h3 : salt.length ≤ 1048576) (h4 : cover.length ≤ 1048576) : Ev (fun k => laws_toLogEntry.f k t who what salt cover) (t, who, what, salt, cover) := by
  refine Ev.congr (f := fun k => (laws_toByteS.f k salt).bind fun t104 => ((laws_toByteS.f k cover).bind fun t107 => (some (t, who, what, t104, t107)))) (fun k => rfl) ?_
  refine Ev.bind (toByteS_ev salt (by omega)) ?_
  exact Ev.bind (toByteS_ev cover (by omega)) (Ev.now _)
theorem eqLogEntry_refl (t : Int) (who what : ByteArray) (salt cover : List Int) (h3 : salt.length ≤ 1048576) (h4 : cover.length ≤ 1048576) : Ev (fun k => laws_eqLogEntry.f k t who what salt cover t who what salt cover) true := by
  refine Ev.congr (f := fun k => (laws_eqByteS.f k salt salt).bind fun t103 => (if t103 = true then ((laws_eqByteS.f k cover cover).bind fun t104 => (if t104 = true then (some true) else (some false))) else (some false))) (fun k => by simp [laws_eqLogEntry.f]) ?_
  refine Ev.bind (eqByteS_refl salt (by omega)) ?_
  refine Ev.congr (fun k => if_pos rfl) ?_
  refine Ev.bind (eqByteS_refl cover (by omega)) ?_
  exact Ev.congr (fun k => if_pos rfl) (Ev.now _)
end Go.Proofs.Ytipdkendfcopiaa.Pr
