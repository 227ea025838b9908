/- The law FnLike: whatever the input, the call returns true and the arguments read as before. No conditions. -/
import Derived.Test.YtccbjchlcelkgaaRead
import Derived.Test.YtccbjchlcelkgaaPr3
import Derived.Test.YtccbjchlcelkgaaPr13
import Derived.Test.YtccbjchlcelkgaaPr12
import Derived.Test.YtccbjchlcelkgaaPr14
import Derived.Laws.Strings
import Derived.Test.YtccbjchlcelkgaaPrcur
import Derived.Test.YtccbjchlcelkgaaPr54
import Derived.Test.YtccbjchlcelkgaaPr68
import Derived.Test.YtccbjchlcelkgaaHdigest
import Derived.Test.YtccbjchlcelkgaaPr65
import Derived.Test.YtccbjchlcelkgaaPr55
import Derived.Test.YtccbjchlcelkgaaPr75
import Derived.Test.YtccbjchlcelkgaaPr11
import Derived.Test.YtccbjchlcelkgaaRows
import Derived.WalkKit
import Derived.ProofKit
import Derived.OpenShut
import Derived.ShutString
import Derived.ChangeOld
import Derived.Below
/- The pure statement of the law FnLike. -/
namespace Go.Proofs.Ytccbjchlcelkgaa.Pr
open Go.RowKit Go.Proofs.Ytccbjchlcelkgaa.Read Go.Proofs.YtccbjchlcelkgaaW.PrintWords
set_option linter.unusedVariables false
/-- What is left of the law FnLike: a statement about numbers and lists. -/
def laws_FnLike.Pure : Prop := ∀ (l0 : (List Int)), (okL okB) l0 → ∃ k, laws_FnLike.f k l0 = some true
end Go.Proofs.Ytccbjchlcelkgaa.Pr
/- The helpers over slices of bytes: copied, compared, marked, held: plain facts. -/
namespace Go.Proofs.Ytccbjchlcelkgaa.Pr
open Go.RowKit Go.Proofs.Ytccbjchlcelkgaa.Read Go.Proofs.YtccbjchlcelkgaaW.PrintWords

theorem w64 {n : Int} (h0 : -9223372036854775808 ≤ n) (h1 : n ≤ 9223372036854775807) : wrap64 n = n := by unfold wrap64; omega
theorem rd_nat {l : List Int} {i : Nat} (h : i < l.length) : rd l (i : Int) = l[i] := by
  simp [rd, List.getD_eq_getElem?_getD, List.getElem?_eq_getElem h]
theorem list_rd_ext {a b : List Int} (hl : a.length = b.length) (h : ∀ i : Nat, i < a.length → rd a i = rd b i) : a = b := by
  apply List.ext_getElem hl
  intro i h1 h2
  have := h i h1
  rwa [rd_nat h1, rd_nat h2] at this




/-- What a marked slice of n bytes holds, counted from k. -/
def markL : Nat → Int → List Int
  | 0, _ => []
  | n + 1, k => k % 256 :: markL n (k + 1)
theorem markL_len : ∀ (n : Nat) (k : Int), (markL n k).length = n
  | 0, _ => rfl
  | n + 1, k => by simp [markL, markL_len n]
end Go.Proofs.Ytccbjchlcelkgaa.Pr
/- Texts that meet a pattern: both tables tell the same. Plain facts (the tables; tokens and draws are not done). -/
namespace Go.Proofs.Ytccbjchlcelkgaa.Pr
open Go.RowKit Go.Proofs.Ytccbjchlcelkgaa.Read Go.Proofs.YtccbjchlcelkgaaW.PrintWords
set_option linter.unusedVariables false
theorem Ev.up3 {α : Type} {g : Nat → Option α} {r : α} (h : Ev (fun k => g (k + 1)) r) : Ev g r := by
  obtain ⟨n, hn⟩ := h
  refine ⟨n + 1, fun k hk => ?_⟩
  obtain ⟨k, rfl⟩ : ∃ m, k = m + 1 := ⟨k - 1, by omega⟩
  exact hn k (by omega)
/-- Is f true somewhere up to i? -/
def upTo (f : Nat → Bool) : Nat → Bool
  | 0 => f 0
  | i + 1 => upTo f i || f (i + 1)
/-- One token more: c is a byte or, at 256, the star. -/
def stepL (t : ByteArray) (c : Int) (f : Nat → Bool) : Nat → Bool := if c = 256 then upTo f else fun i => match i with
  | 0 => false
  | i + 1 => f i && (c == bt t (i : Int))
/-- Do the first i bytes of t meet the first k tokens? -/
def meetL (t : ByteArray) (toks : List Int) : Nat → Nat → Bool
  | 0 => fun i => i == 0
  | k + 1 => stepL t (rd toks (k : Int)) (meetL t toks k)
def tab (n : Nat) (f : Nat → Bool) : List Bool := (List.range n).map f
theorem tab_len (n : Nat) (f : Nat → Bool) : (tab n f).length = n := by simp [tab]
theorem tab_get {n : Nat} (f : Nat → Bool) {i : Nat} (h : i < n) : rdOf false (tab n f) (i : Int) = f i := by
  simp [rdOf, tab, List.getD_eq_getElem?_getD, List.getElem?_map, List.getElem?_range h]
theorem tab_set (n : Nat) (f : Nat → Bool) (j : Nat) (v : Bool) : (tab n f).set j v = tab n (fun x => if x = j then v else f x) := by
  unfold tab
  apply List.ext_getElem
  · simp
  · intro i h1 h2
    simp only [List.getElem_set, List.getElem_map, List.getElem_range]
    by_cases h : j = i
    · rw [if_pos h, if_pos h.symm]
    · rw [if_neg h, if_neg (fun e => h e.symm)]
theorem tab_congr {n : Nat} {f g : Nat → Bool} (h : ∀ i, i < n → f i = g i) : tab n f = tab n g := by
  unfold tab
  apply List.map_congr_left
  intro i hi
  exact h i (List.mem_range.1 hi)
theorem tab_false (n : Nat) : List.replicate n false = tab n (fun _ => false) := by
  unfold tab
  apply List.ext_getElem
  · simp
  · intro i h1 h2
    simp
theorem upTo_true {f : Nat → Bool} {i : Nat} (h : f i = true) : ∀ {x : Nat}, i ≤ x → upTo f x = true
  | 0, hx => by
    obtain rfl : i = 0 := by omega
    exact h
  | x + 1, hx => by
    rcases Nat.lt_or_ge x i with h1 | h1
    · obtain rfl : i = x + 1 := by omega
      rw [upTo, h, Bool.or_true]
    · rw [upTo, upTo_true h h1, Bool.true_or]
theorem upTo_false {f : Nat → Bool} : ∀ {x : Nat}, (∀ i, i ≤ x → f i = false) → upTo f x = false
  | 0, h => h 0 (Nat.le_refl 0)
  | x + 1, h => by rw [upTo, upTo_false (fun i hi => h i (by omega)), h (x + 1) (Nat.le_refl _)]; rfl
theorem meet_char {t : ByteArray} {toks : List Int} {k i : Nat} (h : rd toks (k : Int) ≠ 256) : meetL t toks (k + 1) (i + 1) = (meetL t toks k i && (rd toks (k : Int) == bt t (i : Int))) := by
  show stepL t _ _ _ = _
  unfold stepL
  rw [if_neg h]
theorem meet_star {t : ByteArray} {toks : List Int} {k : Nat} (h : rd toks (k : Int) = 256) : meetL t toks (k + 1) = upTo (meetL t toks k) := by
  show stepL t _ _ = _
  unfold stepL
  rw [if_pos h]
theorem meet_zero_char {t : ByteArray} {toks : List Int} {k : Nat} (h : rd toks (k : Int) ≠ 256) : meetL t toks (k + 1) 0 = false := by
  show stepL t _ _ _ = _
  unfold stepL
  rw [if_neg h]
theorem meet_star_succ {t : ByteArray} {toks : List Int} {k i : Nat} (h : rd toks (k : Int) = 256) : meetL t toks (k + 1) (i + 1) = (meetL t toks (k + 1) i || meetL t toks k (i + 1)) := by
  rw [meet_star h]
  rfl
theorem tab_next (n j : Nat) (M : Nat → Bool) (v : Bool) (hv : v = M (j + 1)) : (tab n (fun x => if x ≤ j then M x else false)).set (j + 1) v = tab n (fun x => if x ≤ j + 1 then M x else false) := by
  rw [tab_set]
  apply tab_congr
  intro x hx
  show (if x = j + 1 then v else if x ≤ j then M x else false) = if x ≤ j + 1 then M x else false
  by_cases h : x = j + 1
  · rw [if_pos h, if_pos (by omega), hv, h]
  · rw [if_neg h]
    by_cases h2 : x ≤ j
    · rw [if_pos h2, if_pos (by omega)]
    · rw [if_neg h2, if_neg (by omega)]
theorem tab_start (n : Nat) (M : Nat → Bool) (h : M 0 = false) : List.replicate n false = tab n (fun x => if x ≤ 0 then M x else false) := by
  rw [tab_false]
  apply tab_congr
  intro x hx
  show false = if x ≤ 0 then M x else false
  by_cases h2 : x ≤ 0
  · obtain rfl : x = 0 := by omega
    rw [if_pos h2, h]
  · rw [if_neg h2]
theorem tab_full {n j : Nat} (M : Nat → Bool) (h : n ≤ j + 1) : tab n (fun x => if x ≤ j then M x else false) = tab n M := by
  apply tab_congr
  intro x hx
  show (if x ≤ j then M x else false) = M x
  rw [if_pos (by omega)]
theorem inc (j : Nat) (h : j ≤ 1000000) : wrap64 ((j : Int) + 1) = ((j + 1 : Nat) : Int) := by rw [w64 (by omega) (by omega)]; rfl
theorem sLike_l2 (t : ByteArray) (toks : List Int) (hK : toks.length ≤ 400) (i : Nat) (hi : i < t.size) (hi2 : i ≤ 1000) (r : Bool) (hnext : Ev (fun k => spec_Like.l1 k t toks (tab (toks.length + 1) fun x => meetL t toks x (i + 1)) ((i + 1 : Nat) : Int)) r) (q : Nat) : ∀ j, j + q = toks.length → Ev (fun k => spec_Like.l2 k t toks (tab (toks.length + 1) fun x => meetL t toks x i) (i : Int) (tab (toks.length + 1) fun x => if x ≤ j then meetL t toks x (i + 1) else false) toks (toks.length : Int) (j : Int)) r := by
  induction q with
  | zero =>
    intro j hj
    refine Ev.up3 ?_
    simp only [spec_Like.l2, if_neg (show ¬ ((j : Int) < (toks.length : Int)) by omega), inc i (by omega), tab_full (n := toks.length + 1) (j := j) (fun x => meetL t toks x (i + 1)) (by omega)]
    exact hnext
  | succ q ih =>
    intro j hj
    have hw := inc j (by omega)
    have hset := fun v hv => tab_next (toks.length + 1) j (fun x => meetL t toks x (i + 1)) v hv
    refine Ev.up3 ?_
    have c1 : (j : Int) < (toks.length : Int) := by omega
    have c2 : (0 : Int) ≤ (j : Int) := by omega
    have c3 : (0 : Int) ≤ ((j + 1 : Nat) : Int) := by omega
    have c4 : ((j + 1 : Nat) : Int) < ((toks.length + 1 : Nat) : Int) := by omega
    have c5 : (j : Int) < ((toks.length + 1 : Nat) : Int) := by omega
    simp only [spec_Like.l2, if_pos c1, if_pos c2, hw, if_pos c3, tab_len, if_pos c4, if_pos c5, Int.toNat_natCast]
    by_cases h256 : rd toks (j : Int) = 256
    · simp only [if_pos h256, tab_get (fun x => meetL t toks x i) (show j + 1 < toks.length + 1 by omega)]
      by_cases hn : meetL t toks (j + 1) i = true
      · simp only [if_pos hn]
        rw [hset true (by rw [meet_star_succ h256, hn]; rfl)]
        exact ih (j + 1) (by omega)
      · simp only [if_neg hn, tab_get (fun x => if x ≤ j then meetL t toks x (i + 1) else false) (show j < toks.length + 1 by omega), if_pos (Nat.le_refl j)]
        rw [hset _ (by rw [meet_star_succ h256]; simp only [Bool.not_eq_true] at hn; rw [hn]; rfl)]
        exact ih (j + 1) (by omega)
    · have hb : wrap64 (bt t (i : Int)) = bt t (i : Int) := w64 (by have := bt_range t (i : Int); omega) (by have := bt_range t (i : Int); omega)
      have d1 : (0 : Int) ≤ (i : Int) := by omega
      have d2 : (i : Int) < (t.size : Int) := by omega
      simp only [if_neg h256, tab_get (fun x => meetL t toks x i) (show j < toks.length + 1 by omega), hb, if_pos d1, if_pos d2]
      by_cases hn : meetL t toks j i = true
      · simp only [if_pos hn]
        rw [hset _ (by rw [meet_char h256, hn]; rfl)]
        exact ih (j + 1) (by omega)
      · simp only [if_neg hn]
        rw [hset false (by rw [meet_char h256]; simp only [Bool.not_eq_true] at hn; rw [hn]; rfl)]
        exact ih (j + 1) (by omega)
theorem room (n : Nat) (h : n ≤ 1000) : (0 : Int) ≤ ((n + 1 : Nat) : Int) ∧ ((n + 1 : Nat) : Int).toNat ≤ 281474976710656 ∧ ((n + 1 : Nat) : Int).toNat = n + 1 := by omega
theorem sLike_l1 (t : ByteArray) (ht : t.size ≤ 200) (toks : List Int) (hK : toks.length ≤ 400) (q : Nat) : ∀ i, i + q = t.size → Ev (fun k => spec_Like.l1 k t toks (tab (toks.length + 1) fun x => meetL t toks x i) (i : Int)) (meetL t toks toks.length t.size) := by
  induction q with
  | zero =>
    intro i hi
    obtain rfl : i = t.size := by omega
    refine Ev.up3 ?_
    simp only [spec_Like.l1, if_neg (show ¬ ((t.size : Int) < (t.size : Int)) by omega), if_pos (show (0 : Int) ≤ (toks.length : Int) by omega), tab_len, if_pos (show (toks.length : Int) < ((toks.length + 1 : Nat) : Int) by omega), tab_get (fun x => meetL t toks x t.size) (show toks.length < toks.length + 1 by omega)]
    exact Ev.now _
  | succ q ih =>
    intro i hi
    have hr := room toks.length (by omega)
    have h := sLike_l2 t toks hK i (by omega) (by omega) _ (ih (i + 1) (by omega)) toks.length 0 (by omega)
    rw [← tab_start (toks.length + 1) (fun x => meetL t toks x (i + 1)) rfl] at h
    refine Ev.up3 ?_
    simp only [spec_Like.l1, if_pos (show ((i : Int) < (t.size : Int)) by omega), inc toks.length (by omega), if_pos hr.1, hr.2.2, if_pos (show toks.length + 1 ≤ 281474976710656 by omega)]
    exact h
theorem sLike_l0 (t : ByteArray) (ht : t.size ≤ 200) (toks : List Int) (hK : toks.length ≤ 400) (q : Nat) : ∀ j, j + q = toks.length → Ev (fun k => spec_Like.l0 k t toks (tab (toks.length + 1) fun x => if x ≤ j then meetL t toks x 0 else false) toks (toks.length : Int) (j : Int)) (meetL t toks toks.length t.size) := by
  induction q with
  | zero =>
    intro j hj
    refine Ev.up3 ?_
    simp only [spec_Like.l0, if_neg (show ¬ ((j : Int) < (toks.length : Int)) by omega), tab_full (n := toks.length + 1) (j := j) (fun x => meetL t toks x 0) (by omega)]
    exact sLike_l1 t ht toks hK t.size 0 (by omega)
  | succ q ih =>
    intro j hj
    have hw := inc j (by omega)
    have hset := fun v hv => tab_next (toks.length + 1) j (fun x => meetL t toks x 0) v hv
    refine Ev.up3 ?_
    have c1 : (j : Int) < (toks.length : Int) := by omega
    have c2 : (0 : Int) ≤ (j : Int) := by omega
    have c3 : (0 : Int) ≤ ((j + 1 : Nat) : Int) := by omega
    have c4 : ((j + 1 : Nat) : Int) < ((toks.length + 1 : Nat) : Int) := by omega
    have c5 : (j : Int) < ((toks.length + 1 : Nat) : Int) := by omega
    simp only [spec_Like.l0, if_pos c1, if_pos c2, hw, if_pos c3, tab_len, if_pos c4, if_pos c5, Int.toNat_natCast, tab_get (fun x => if x ≤ j then meetL t toks x 0 else false) (show j < toks.length + 1 by omega), if_pos (Nat.le_refl j)]
    by_cases hn : meetL t toks j 0 = true
    · simp only [if_pos hn]
      rw [hset _ (by
        by_cases h256 : rd toks (j : Int) = 256
        · rw [meet_star h256, h256]; show (256 == 256 : Bool) = upTo _ 0; rw [upTo, hn]; rfl
        · rw [meet_zero_char h256]; exact beq_eq_false_iff_ne.2 h256)]
      exact ih (j + 1) (by omega)
    · simp only [if_neg hn]
      rw [hset false (by
        by_cases h256 : rd toks (j : Int) = 256
        · rw [meet_star h256]; show false = upTo _ 0; rw [upTo]; simp only [Bool.not_eq_true] at hn; exact hn.symm
        · rw [meet_zero_char h256])]
      exact ih (j + 1) (by omega)
def starI (toks : List Int) : List Int := toks.map fun c => if c = 256 then -1 else c
theorem starI_len (toks : List Int) : (starI toks).length = toks.length := by simp [starI]
theorem starI_rd {toks : List Int} {j : Nat} (h : j < toks.length) : rd (starI toks) (j : Int) = if rd toks (j : Int) = 256 then -1 else rd toks (j : Int) := by
  rw [rd_nat (by rw [starI_len]; exact h), rd_nat h]
  simp [starI]
theorem tab_skip (n i : Nat) (M : Nat → Bool) (h : i + 1 < n → M (i + 1) = false) : tab n (fun x => if x ≤ i then M x else false) = tab n (fun x => if x ≤ i + 1 then M x else false) := by
  apply tab_congr
  intro x hx
  show (if x ≤ i then M x else false) = if x ≤ i + 1 then M x else false
  by_cases h1 : x ≤ i
  · rw [if_pos h1, if_pos (by omega)]
  · rw [if_neg h1]
    by_cases h2 : x ≤ i + 1
    · obtain rfl : x = i + 1 := by omega
      rw [if_pos h2, h hx]
    · rw [if_neg h2]
theorem tab_lt_next (n m : Nat) (M : Nat → Bool) : (tab n (fun x => if x < m then M x else false)).set m (M m) = tab n (fun x => if x < m + 1 then M x else false) := by
  rw [tab_set]
  apply tab_congr
  intro x hx
  show (if x = m then M m else if x < m then M x else false) = if x < m + 1 then M x else false
  by_cases h : x = m
  · rw [if_pos h, if_pos (by omega), h]
  · rw [if_neg h]
    by_cases h2 : x < m
    · rw [if_pos h2, if_pos (by omega)]
    · rw [if_neg h2, if_neg (by omega)]
theorem tab_lt_full {n m : Nat} (M : Nat → Bool) (h : n ≤ m) : tab n (fun x => if x < m then M x else false) = tab n M := by
  apply tab_congr
  intro x hx
  show (if x < m then M x else false) = M x
  rw [if_pos (by omega)]
theorem tab_lt_none {n m : Nat} (M : Nat → Bool) (h : ∀ x, x < m → M x = false) : List.replicate n false = tab n (fun x => if x < m then M x else false) := by
  rw [tab_false]
  apply tab_congr
  intro x hx
  show false = if x < m then M x else false
  by_cases h2 : x < m
  · rw [if_pos h2, h x h2]
  · rw [if_neg h2]
theorem iLike_l2 (t : ByteArray) (ht : t.size ≤ 200) (U : Nat → Bool) (i : Nat) (hU : ∀ x, i ≤ x → U x = true) (il : List Int) (len j : Int) (r : Bool) (hnext : Ev (fun k => impl_Like.l0 k t (tab (t.size + 1) U) il len (wrap64 (j + 1))) r) (q : Nat) : ∀ m, m + q = t.size + 1 → i ≤ m → Ev (fun k => impl_Like.l2 k t (tab (t.size + 1) fun x => if x < m then U x else false) (m : Int) il len j) r := by
  induction q with
  | zero =>
    intro m hm him
    refine Ev.up3 ?_
    simp only [impl_Like.l2, if_neg (show ¬ ((m : Int) ≤ (t.size : Int)) by omega), tab_lt_full (n := t.size + 1) (m := m) U (by omega)]
    exact hnext
  | succ q ih =>
    intro m hm him
    have h := tab_lt_next (t.size + 1) m U
    rw [hU m him] at h
    refine Ev.up3 ?_
    simp only [impl_Like.l2, if_pos (show ((m : Int) ≤ (t.size : Int)) by omega), if_pos (show (0 : Int) ≤ (m : Int) by omega), tab_len, if_pos (show (m : Int) < ((t.size + 1 : Nat) : Int) by omega), Int.toNat_natCast, h, inc m (by omega)]
    exact ih (m + 1) (by omega) (by omega)
theorem iLike_star (t : ByteArray) (ht : t.size ≤ 200) (f : Nat → Bool) (il : List Int) (len j : Int) (r : Bool) (hnext : Ev (fun k => impl_Like.l0 k t (tab (t.size + 1) (upTo f)) il len (wrap64 (j + 1))) r) (q : Nat) : ∀ i, i + q = t.size + 1 → (∀ x, x < i → f x = false) → Ev (fun k => impl_Like.l1 k t (tab (t.size + 1) f) (-1) (List.replicate (t.size + 1) false) il len j ((t.size + 1 : Nat) : Int) (i : Int)) r := by
  induction q with
  | zero =>
    intro i hi hf
    refine Ev.up3 ?_
    have e : List.replicate (t.size + 1) false = tab (t.size + 1) (upTo f) := by
      rw [tab_lt_none (n := t.size + 1) (m := t.size + 1) (upTo f) (fun x hx => upTo_false fun y hy => hf y (by omega)), tab_lt_full _ (by omega)]
    simp only [impl_Like.l1, if_neg (show ¬ ((i : Int) < ((t.size + 1 : Nat) : Int)) by omega), e]
    exact hnext
  | succ q ih =>
    intro i hi hf
    refine Ev.up3 ?_
    simp only [impl_Like.l1, if_pos (show ((i : Int) < ((t.size + 1 : Nat) : Int)) by omega), if_pos (show (0 : Int) ≤ (i : Int) by omega), tab_len, tab_get f (show i < t.size + 1 by omega), if_pos (show ((-1 : Int) < 0) by omega)]
    by_cases hn : f i = true
    · simp only [if_pos hn]
      rw [tab_lt_none (n := t.size + 1) (m := i) (upTo f) (fun x hx => upTo_false fun y hy => hf y (by omega))]
      exact iLike_l2 t ht (upTo f) i (fun x hx => upTo_true hn hx) il len j r hnext (t.size + 1 - i) i (by omega) (by omega)
    · simp only [if_neg hn, inc i (by omega)]
      simp only [Bool.not_eq_true] at hn
      refine ih (i + 1) (by omega) fun x hx => ?_
      by_cases h : x = i
      · rw [h, hn]
      · exact hf x (by omega)
theorem iLike_char (t : ByteArray) (ht : t.size ≤ 200) (f M : Nat → Bool) (c : Int) (hc : 0 ≤ c) (hM : ∀ i, M (i + 1) = (f i && (c == bt t (i : Int)))) (il : List Int) (len j : Int) (r : Bool) (hnext : Ev (fun k => impl_Like.l0 k t (tab (t.size + 1) M) il len (wrap64 (j + 1))) r) (q : Nat) : ∀ i, i + q = t.size + 1 → Ev (fun k => impl_Like.l1 k t (tab (t.size + 1) f) c (tab (t.size + 1) fun x => if x ≤ i then M x else false) il len j ((t.size + 1 : Nat) : Int) (i : Int)) r := by
  induction q with
  | zero =>
    intro i hi
    refine Ev.up3 ?_
    simp only [impl_Like.l1, if_neg (show ¬ ((i : Int) < ((t.size + 1 : Nat) : Int)) by omega), tab_full (n := t.size + 1) (j := i) M (by omega)]
    exact hnext
  | succ q ih =>
    intro i hi
    refine Ev.up3 ?_
    have hb : wrap64 (bt t (i : Int)) = bt t (i : Int) := w64 (by have := bt_range t (i : Int); omega) (by have := bt_range t (i : Int); omega)
    have h := ih (i + 1) (by omega)
    simp only [impl_Like.l1, if_pos (show ((i : Int) < ((t.size + 1 : Nat) : Int)) by omega), if_pos (show (0 : Int) ≤ (i : Int) by omega), tab_len, tab_get f (show i < t.size + 1 by omega), if_neg (show ¬ (c < 0) by omega), inc i (by omega), hb]
    by_cases hn : f i = true
    · simp only [if_pos hn]
      by_cases hi2 : i < t.size
      · simp only [if_pos (show (i : Int) < (t.size : Int) by omega)]
        by_cases he : bt t (i : Int) = c
        · simp only [if_pos he, if_pos (show (0 : Int) ≤ ((i + 1 : Nat) : Int) by omega), if_pos (show ((i + 1 : Nat) : Int) < ((t.size + 1 : Nat) : Int) by omega), Int.toNat_natCast]
          rw [tab_next (t.size + 1) i M true (by rw [hM, hn, he]; simp)]
          exact h
        · simp only [if_neg he]
          rw [tab_skip (t.size + 1) i M (fun _ => by rw [hM, hn]; simp; exact fun e => he e.symm)]
          exact h
      · simp only [if_neg (show ¬ (i : Int) < (t.size : Int) by omega)]
        rw [tab_skip (t.size + 1) i M (fun e => by omega)]
        exact h
    · simp only [if_neg hn]
      rw [tab_skip (t.size + 1) i M (fun _ => by rw [hM]; simp only [Bool.not_eq_true] at hn; rw [hn]; rfl)]
      exact h
theorem iLike_l0 (t : ByteArray) (ht : t.size ≤ 200) (toks : List Int) (hK : toks.length ≤ 400) (hpos : ∀ c ∈ toks, 0 ≤ c) (q : Nat) : ∀ j, j + q = toks.length → Ev (fun k => impl_Like.l0 k t (tab (t.size + 1) (meetL t toks j)) (starI toks) (toks.length : Int) (j : Int)) (meetL t toks toks.length t.size) := by
  induction q with
  | zero =>
    intro j hj
    obtain rfl : j = toks.length := by omega
    refine Ev.up3 ?_
    simp only [impl_Like.l0, if_neg (show ¬ ((toks.length : Int) < (toks.length : Int)) by omega), if_pos (show (0 : Int) ≤ (t.size : Int) by omega), tab_len, if_pos (show (t.size : Int) < ((t.size + 1 : Nat) : Int) by omega), tab_get (meetL t toks toks.length) (show t.size < t.size + 1 by omega)]
    exact Ev.now _
  | succ q ih =>
    intro j hj
    have hr := room t.size (by omega)
    have hnext := ih (j + 1) (by omega)
    rw [← inc j (by omega)] at hnext
    refine Ev.up3 ?_
    simp only [impl_Like.l0, if_pos (show ((j : Int) < (toks.length : Int)) by omega), if_pos (show (0 : Int) ≤ (j : Int) by omega), starI_len, inc t.size (by omega), if_pos hr.1, hr.2.2, if_pos (show t.size + 1 ≤ 281474976710656 by omega), tab_len, starI_rd (show j < toks.length by omega)]
    by_cases h256 : rd toks (j : Int) = 256
    · simp only [if_pos h256]
      rw [meet_star h256] at hnext
      exact iLike_star t ht (meetL t toks j) (starI toks) _ j _ hnext (t.size + 1) 0 (by omega) (fun x hx => by omega)
    · simp only [if_neg h256]
      have h := iLike_char t ht (meetL t toks j) (meetL t toks (j + 1)) (rd toks (j : Int)) (by rw [rd_nat (show j < toks.length by omega)]; exact hpos _ (List.getElem_mem _)) (fun i => meet_char h256) (starI toks) (toks.length : Int) j _ hnext (t.size + 1) 0 (by omega)
      rw [← tab_start (t.size + 1) (meetL t toks (j + 1)) (meet_zero_char h256)] at h
      exact h
end Go.Proofs.Ytccbjchlcelkgaa.Pr
/- Patterns: their tokens, told by both; what meets what. Plain facts. -/
namespace Go.Proofs.Ytccbjchlcelkgaa.Pr
open Go.RowKit Go.Proofs.Ytccbjchlcelkgaa.Read Go.Proofs.YtccbjchlcelkgaaW.PrintWords
set_option linter.unusedVariables false
/-- The tokens of p from i on. -/
def tokF (p : ByteArray) : Nat → Nat → Option (List Int)
  | 0, _ => some []
  | n + 1, i => if p.size ≤ i then some [] else if bt p (i : Int) = 42 then (tokF p n (i + 1)).map (256 :: ·) else if bt p (i : Int) = 92 then (if p.size ≤ i + 1 then none else if bt p ((i + 1 : Nat) : Int) = 42 ∨ bt p ((i + 1 : Nat) : Int) = 92 then (tokF p n (i + 2)).map (bt p ((i + 1 : Nat) : Int) :: ·) else none) else (tokF p n (i + 1)).map (bt p (i : Int) :: ·)
def outS (acc : List Int) (o : Option (List Int)) : List Int × Bool := match o with | some l => (acc ++ l, true) | none => ([], false)
def outI (acc : List Int) (o : Option (List Int)) : List Int × Bool := match o with | some l => (acc ++ starI l, true) | none => ([], false)
theorem outS_cons (acc : List Int) (c : Int) (o : Option (List Int)) : outS acc (o.map (c :: ·)) = outS (acc ++ [c]) o := by cases o <;> simp [outS]
theorem outI_cons (acc : List Int) (c : Int) (o : Option (List Int)) : outI acc (o.map (c :: ·)) = outI (acc ++ [if c = 256 then -1 else c]) o := by cases o <;> simp [outI, starI]
theorem bt_wrap (p : ByteArray) (i : Int) : wrap64 (bt p i) = bt p i := w64 (by have := bt_range p i; omega) (by have := bt_range p i; omega)
theorem bt_star (p : ByteArray) (i : Int) : (if bt p i = 256 then (-1 : Int) else bt p i) = bt p i := if_neg (by have := bt_range p i; omega)
theorem sTok_l0 (p : ByteArray) (hp : p.size ≤ 100000) (n : Nat) : ∀ (i : Nat) (acc : List Int), p.size ≤ i + n → i ≤ p.size → acc.length ≤ i → Ev (fun k => spec_l1Tokens.l0 k p acc (i : Int)) (outS acc (tokF p n i)) := by
  induction n with
  | zero =>
    intro i acc h1 h2 h3
    refine Ev.up3 ?_
    simp only [spec_l1Tokens.l0, if_neg (show ¬ ((i : Int) < (p.size : Int)) by omega), tokF, outS, List.append_nil]
    exact Ev.now _
  | succ n ih =>
    intro i acc h1 h2 h3
    by_cases hi : p.size ≤ i
    · refine Ev.up3 ?_
      simp only [spec_l1Tokens.l0, if_neg (show ¬ ((i : Int) < (p.size : Int)) by omega), tokF, if_pos hi, outS, List.append_nil]
      exact Ev.now _
    refine Ev.up3 ?_
    have hl : acc.length < 17592186044416 := by omega
    simp only [spec_l1Tokens.l0, if_pos (show ((i : Int) < (p.size : Int)) by omega), if_pos (show (0 : Int) ≤ (i : Int) by omega), tokF, if_neg hi, inc i (by omega), bt_wrap, if_pos hl]
    by_cases c1 : bt p (i : Int) = 42
    · simp only [if_pos c1, outS_cons]
      exact ih (i + 1) _ (by omega) (by omega) (by simp; omega)
    simp only [if_neg c1]
    by_cases c2 : bt p (i : Int) = 92
    · simp only [if_pos c2]
      by_cases hi2 : p.size ≤ i + 1
      · simp only [if_pos hi2, if_pos (show ((i + 1 : Nat) : Int) = (p.size : Int) by omega), outS]
        exact Ev.now _
      simp only [if_neg hi2, if_neg (show ¬ ((i + 1 : Nat) : Int) = (p.size : Int) by omega), if_pos (show (0 : Int) ≤ ((i + 1 : Nat) : Int) by omega), if_pos (show ((i + 1 : Nat) : Int) < (p.size : Int) by omega), inc (i + 1) (by omega)]
      by_cases c3 : bt p ((i + 1 : Nat) : Int) = 42
      · simp only [if_pos c3, if_pos (Or.inl c3 : bt p ((i + 1 : Nat) : Int) = 42 ∨ bt p ((i + 1 : Nat) : Int) = 92), outS_cons]
        exact ih (i + 2) _ (by omega) (by omega) (by simp; omega)
      by_cases c4 : bt p ((i + 1 : Nat) : Int) = 92
      · simp only [if_neg c3, if_pos c4, if_pos (Or.inr c4 : bt p ((i + 1 : Nat) : Int) = 42 ∨ bt p ((i + 1 : Nat) : Int) = 92), outS_cons]
        exact ih (i + 2) _ (by omega) (by omega) (by simp; omega)
      · simp only [if_neg c3, if_neg c4, if_neg (fun e => e.elim c3 c4 : ¬ (bt p ((i + 1 : Nat) : Int) = 42 ∨ bt p ((i + 1 : Nat) : Int) = 92)), outS]
        exact Ev.now _
    · simp only [if_neg c2, outS_cons]
      exact ih (i + 1) _ (by omega) (by omega) (by simp; omega)
theorem iTok_l0 (p : ByteArray) (hp : p.size ≤ 100000) (n : Nat) : ∀ (i : Nat) (acc : List Int), p.size ≤ i + n → i ≤ p.size → acc.length ≤ i → Ev (fun k => impl_ypattern.l0 k p acc (i : Int)) (outI acc (tokF p n i)) := by
  induction n with
  | zero =>
    intro i acc h1 h2 h3
    refine Ev.up3 ?_
    simp only [impl_ypattern.l0, if_neg (show ¬ ((i : Int) < (p.size : Int)) by omega), tokF, outI, starI, List.map_nil, List.append_nil]
    exact Ev.now _
  | succ n ih =>
    intro i acc h1 h2 h3
    by_cases hi : p.size ≤ i
    · refine Ev.up3 ?_
      simp only [impl_ypattern.l0, if_neg (show ¬ ((i : Int) < (p.size : Int)) by omega), tokF, if_pos hi, outI, starI, List.map_nil, List.append_nil]
      exact Ev.now _
    refine Ev.up3 ?_
    have hl : acc.length < 17592186044416 := by omega
    simp only [impl_ypattern.l0, if_pos (show ((i : Int) < (p.size : Int)) by omega), if_pos (show (0 : Int) ≤ (i : Int) by omega), tokF, if_neg hi, inc i (by omega), bt_wrap, if_pos hl]
    by_cases c1 : bt p (i : Int) = 42
    · simp only [if_pos c1, outI_cons, if_true]
      exact ih (i + 1) _ (by omega) (by omega) (by simp; omega)
    simp only [if_neg c1]
    by_cases c2 : bt p (i : Int) = 92
    · simp only [if_pos c2]
      by_cases hi2 : p.size ≤ i + 1
      · simp only [if_pos hi2, if_pos (show ((i + 1 : Nat) : Int) ≥ (p.size : Int) by omega), outI]
        exact Ev.now _
      simp only [if_neg hi2, if_neg (show ¬ ((i + 1 : Nat) : Int) ≥ (p.size : Int) by omega), if_pos (show (0 : Int) ≤ ((i + 1 : Nat) : Int) by omega), if_pos (show ((i + 1 : Nat) : Int) < (p.size : Int) by omega), inc (i + 1) (by omega)]
      by_cases c3 : bt p ((i + 1 : Nat) : Int) = 42
      · simp only [if_pos c3, if_pos (Or.inl c3 : bt p ((i + 1 : Nat) : Int) = 42 ∨ bt p ((i + 1 : Nat) : Int) = 92), outI_cons, bt_star]
        exact ih (i + 2) _ (by omega) (by omega) (by simp; omega)
      by_cases c4 : bt p ((i + 1 : Nat) : Int) = 92
      · simp only [if_neg c3, if_pos c4, if_pos (Or.inr c4 : bt p ((i + 1 : Nat) : Int) = 42 ∨ bt p ((i + 1 : Nat) : Int) = 92), outI_cons, bt_star]
        exact ih (i + 2) _ (by omega) (by omega) (by simp; omega)
      · simp only [if_neg c3, if_neg c4, if_neg (fun e => e.elim c3 c4 : ¬ (bt p ((i + 1 : Nat) : Int) = 42 ∨ bt p ((i + 1 : Nat) : Int) = 92)), outI]
        exact Ev.now _
    · simp only [if_neg c2, outI_cons, bt_star]
      exact ih (i + 1) _ (by omega) (by omega) (by simp; omega)
theorem tok_bounds (p : ByteArray) (n : Nat) : ∀ i l, tokF p n i = some l → l.length ≤ n ∧ ∀ c ∈ l, 0 ≤ c := by
  induction n with
  | zero => intro i l h; obtain rfl : [] = l := Option.some.inj h; exact ⟨by simp, by simp⟩
  | succ n ih =>
    intro i l h
    have cons : ∀ (c : Int) (j : Nat), 0 ≤ c → (tokF p n j).map (c :: ·) = some l → l.length ≤ n + 1 ∧ ∀ c ∈ l, 0 ≤ c := by
      intro c j hc hm
      obtain ⟨l2, h2, rfl⟩ := Option.map_eq_some_iff.1 hm
      have := ih j l2 h2
      refine ⟨by simp; omega, fun x hx => ?_⟩
      rcases List.mem_cons.1 hx with rfl | hx
      · exact hc
      · exact this.2 x hx
    unfold tokF at h
    split at h
    · obtain rfl : [] = l := Option.some.inj h; exact ⟨by simp, by simp⟩
    split at h
    · exact cons _ _ (by omega) h
    split at h
    · split at h
      · cases h
      split at h
      · exact cons _ _ (bt_range p _).1 h
      · cases h
    · exact cons _ _ (bt_range p _).1 h
/-- Does t meet p? -/
def likeL (t p : ByteArray) : Bool := if t.size ≤ 200 ∧ p.size ≤ 200 then (match tokF p p.size 0 with | some l => meetL t l l.length t.size | none => false) else false
theorem start_tab (n : Nat) (M : Nat → Bool) (h : M 0 = true) : (List.replicate (n + 1) false).set 0 true = tab (n + 1) (fun x => if x ≤ 0 then M x else false) := by
  rw [tab_false, tab_set]
  apply tab_congr
  intro x hx
  show (if x = 0 then true else false) = if x ≤ 0 then M x else false
  by_cases h2 : x = 0
  · rw [if_pos h2, if_pos (by omega), h2, h]
  · rw [if_neg h2, if_neg (by omega)]
theorem specLike_ev (t p : ByteArray) (hp : p.size ≤ 100000) : Ev (fun k => spec_Like.f k t p) (likeL t p) := by
  refine Ev.up3 ?_
  simp only [spec_Like.f, spec_Like.j0, if_true]
  by_cases h1 : (t.size : Int) > 200
  · rw [show likeL t p = false from if_neg (fun h => by have := h.1; omega)]
    simp only [if_pos h1]; exact Ev.now _
  by_cases h2 : (p.size : Int) > 200
  · rw [show likeL t p = false from if_neg (fun h => by have := h.2; omega)]
    simp only [if_neg h1, decide_eq_true h2, if_true]; exact Ev.now _
  have ht := sTok_l0 p hp p.size 0 [] (by omega) (by omega) (by simp)
  simp only [if_neg h1, decide_eq_false h2, Bool.false_eq_true, if_false]
  rw [show likeL t p = (match tokF p p.size 0 with | some l => meetL t l l.length t.size | none => false) from if_pos ⟨by omega, by omega⟩]
  refine Ev.bind (show Ev (fun k => spec_l1Tokens.f k p) _ from ht) ?_
  cases htok : tokF p p.size 0 with
  | none =>
    simp only [outS, Bool.false_eq_true, if_false]
    exact Ev.now _
  | some l =>
    have hb := tok_bounds p p.size 0 l htok
    have hr := room l.length (by omega)
    have h := sLike_l0 t (by omega) l (by omega) l.length 0 (by omega)
    rw [← start_tab l.length (fun x => meetL t l x 0) rfl] at h
    simp only [outS, List.nil_append, if_true, inc l.length (by omega), if_pos hr.1, hr.2.2, if_pos (show l.length + 1 ≤ 281474976710656 by omega), Option.bind_some, List.length_replicate, if_pos (show (0 : Int) < ((l.length + 1 : Nat) : Int) by omega)]
    exact h
theorem implLike_ev (t p : ByteArray) (hp : p.size ≤ 100000) : Ev (fun k => impl_Like.f k t p) (likeL t p) := by
  refine Ev.up3 ?_
  simp only [impl_Like.f, impl_Like.j0, if_true]
  have ht := iTok_l0 p hp p.size 0 [] (by omega) (by omega) (by simp)
  refine Ev.bind (show Ev (fun k => impl_ypattern.f (k + 1) p) _ from (ht.elim fun n hn => ⟨n, fun k hk => hn (k + 1) (by omega)⟩)) ?_
  cases htok : tokF p p.size 0 with
  | none =>
    rw [show likeL t p = false by unfold likeL; rw [htok]; split <;> rfl]
    simp only [outI, Bool.false_eq_true, if_false]
    exact Ev.now _
  | some l =>
    simp only [outI, List.nil_append, if_true]
    by_cases h1 : (t.size : Int) > 200
    · rw [show likeL t p = false from if_neg (fun h => by have := h.1; omega)]
      simp only [if_pos h1]; exact Ev.now _
    by_cases h2 : (p.size : Int) > 200
    · rw [show likeL t p = false from if_neg (fun h => by have := h.2; omega)]
      simp only [if_neg h1, decide_eq_true h2, if_true]; exact Ev.now _
    have hb := tok_bounds p p.size 0 l htok
    have hr := room t.size (by omega)
    have h := iLike_l0 t (by omega) l (by omega) hb.2 l.length 0 (by omega)
    have e0 : (List.replicate (t.size + 1) false).set 0 true = tab (t.size + 1) (meetL t l 0) := by
      rw [start_tab t.size (meetL t l 0) rfl]
      apply tab_congr
      intro x hx
      show (if x ≤ 0 then (x == 0) else false) = (x == 0)
      by_cases h2 : x ≤ 0
      · rw [if_pos h2]
      · rw [if_neg h2]; symm; exact beq_eq_false_iff_ne.2 (by omega)
    rw [← e0] at h
    rw [show likeL t p = meetL t l l.length t.size from (if_pos ⟨by omega, by omega⟩).trans (by rw [htok])]
    simp only [if_neg h1, decide_eq_false h2, Bool.false_eq_true, if_false, inc t.size (by omega), if_pos hr.1, hr.2.2, if_pos (show t.size + 1 ≤ 281474976710656 by omega), Option.bind_some, List.length_replicate, if_pos (show (0 : Int) < ((t.size + 1 : Nat) : Int) by omega), starI_len]
    exact h
end Go.Proofs.Ytccbjchlcelkgaa.Pr
/- Patterns: a star behind; a text told as a pattern. Plain facts. -/
namespace Go.Proofs.Ytccbjchlcelkgaa.Pr
open Go.RowKit Go.Proofs.Ytccbjchlcelkgaa.Read Go.Proofs.YtccbjchlcelkgaaW.PrintWords Go.Proofs.YtccbjchlcelkgaaW.PrintLast Go.Proofs.YtccbjchlcelkgaaW.PrintMore
set_option linter.unusedVariables false
theorem bt_eq (s : ByteArray) (i : Nat) : bt s (i : Int) = ((s.data.toList.getD i 0).toNat : Int) := by
  unfold bt
  simp only [Int.toNat_natCast]
  split
  · rename_i h
    rw [List.getD_eq_getElem?_getD, List.getElem?_eq_getElem (by rw [data_length]; exact h)]
    rfl
  · rename_i h
    rw [List.getD_eq_getElem?_getD, List.getElem?_eq_none (by rw [data_length]; omega)]
    rfl
theorem bt_left (a b : ByteArray) {i : Nat} (h : i < a.size) : bt (a ++ b) (i : Int) = bt a (i : Int) := by
  rw [bt_eq, bt_eq, ByteArray.toList_data_append, List.getD_eq_getElem?_getD, List.getElem?_append_left (by rw [data_length]; exact h), ← List.getD_eq_getElem?_getD]
theorem bt_right (a b : ByteArray) (i : Nat) : bt (a ++ b) ((a.size + i : Nat) : Int) = bt b (i : Int) := by
  rw [bt_eq, bt_eq, ByteArray.toList_data_append, List.getD_eq_getElem?_getD, List.getElem?_append_right (by rw [data_length]; omega), data_length, Nat.add_sub_cancel_left, ← List.getD_eq_getElem?_getD]
def starB : ByteArray := ⟨#[42]⟩
theorem star_size (p : ByteArray) : (p ++ starB).size = p.size + 1 := by rw [ByteArray.size_append]; rfl
theorem tok_star (p : ByteArray) (n : Nat) : ∀ i l, i ≤ p.size → p.size ≤ i + n → tokF p n i = some l → tokF (p ++ starB) (n + 1) i = some (l ++ [256]) := by
  have hend : ∀ n, tokF (p ++ starB) (n + 1) p.size = some [256] := fun n => by
    have e : bt (p ++ starB) (p.size : Int) = 42 := by
      have := bt_right p starB 0
      rw [Nat.add_zero] at this
      rw [this]; rfl
    have h2 : tokF (p ++ starB) n (p.size + 1) = some [] := by
      cases n with
      | zero => rfl
      | succ n => rw [tokF, if_pos (by rw [star_size]; omega)]
    rw [tokF, if_neg (by rw [star_size]; omega), if_pos e, h2]
    rfl
  induction n with
  | zero =>
    intro i l h1 h2 h
    obtain rfl : i = p.size := by omega
    obtain rfl : [] = l := Option.some.inj h
    exact hend 0
  | succ n ih =>
    intro i l h1 h2 h
    by_cases hi : p.size ≤ i
    · obtain rfl : i = p.size := by omega
      rw [tokF, if_pos hi] at h
      obtain rfl : [] = l := Option.some.inj h
      exact hend (n + 1)
    have e1 := bt_left p starB (i := i) (by omega)
    rw [tokF, if_neg hi] at h
    rw [tokF, if_neg (by rw [star_size]; omega), e1]
    have cons : ∀ (c : Int) (j : Nat), j ≤ p.size → p.size ≤ j + n → (tokF p n j).map (c :: ·) = some l → (tokF (p ++ starB) (n + 1) j).map (c :: ·) = some (l ++ [256]) := by
      intro c j hj1 hj2 hm
      obtain ⟨l2, h2, rfl⟩ := Option.map_eq_some_iff.1 hm
      rw [ih j l2 hj1 hj2 h2]
      rfl
    by_cases c1 : bt p (i : Int) = 42
    · rw [if_pos c1] at h ⊢
      exact cons _ _ (by omega) (by omega) h
    rw [if_neg c1] at h ⊢
    by_cases c2 : bt p (i : Int) = 92
    · rw [if_pos c2] at h ⊢
      by_cases hi2 : p.size ≤ i + 1
      · rw [if_pos hi2] at h; cases h
      have e2 := bt_left p starB (i := i + 1) (by omega)
      rw [if_neg hi2] at h
      rw [if_neg (by rw [star_size]; omega), e2]
      by_cases c3 : bt p ((i + 1 : Nat) : Int) = 42 ∨ bt p ((i + 1 : Nat) : Int) = 92
      · rw [if_pos c3] at h ⊢
        exact cons _ _ (by omega) (by omega) h
      · rw [if_neg c3] at h; cases h
    · rw [if_neg c2] at h ⊢
      exact cons _ _ (by omega) (by omega) h
theorem upTo_congr {f g : Nat → Bool} : ∀ {i : Nat}, (∀ x, x ≤ i → f x = g x) → upTo f i = upTo g i
  | 0, h => h 0 (Nat.le_refl 0)
  | i + 1, h => by rw [upTo, upTo, upTo_congr (fun x hx => h x (by omega)), h (i + 1) (Nat.le_refl _)]
theorem meet_pre (t t' : ByteArray) (l l' : List Int) (k : Nat) : (∀ j : Nat, j < k → rd l (j : Int) = rd l' (j : Int)) → ∀ i : Nat, (∀ j : Nat, j < i → bt t (j : Int) = bt t' (j : Int)) → meetL t l k i = meetL t' l' k i := by
  induction k with
  | zero => intro _ i _; rfl
  | succ k ih =>
    intro hl i ht
    have ihk := ih (fun j hj => hl j (by omega))
    by_cases h : rd l (k : Int) = 256
    · rw [meet_star h, meet_star (by rw [← hl k (by omega)]; exact h)]
      exact upTo_congr fun x hx => ihk x fun j hj => ht j (by omega)
    · have h' : rd l' (k : Int) ≠ 256 := by rw [← hl k (by omega)]; exact h
      cases i with
      | zero => rw [meet_zero_char h, meet_zero_char h']
      | succ i => rw [meet_char h, meet_char h', ihk i (fun j hj => ht j (by omega)), hl k (by omega), ht i (by omega)]
theorem meet_lit (t : ByteArray) (l : List Int) (S : Nat) (hl : ∀ j : Nat, j < S → rd l (j : Int) = bt t (j : Int)) (k : Nat) (hk : k ≤ S) : ∀ i, meetL t l k i = (i == k) := by
  induction k with
  | zero => intro i; rfl
  | succ k ih =>
    intro i
    have hne : rd l (k : Int) ≠ 256 := by rw [hl k (by omega)]; have := bt_range t (k : Int); omega
    cases i with
    | zero => rw [meet_zero_char hne]; symm; exact beq_eq_false_iff_ne.2 (by omega)
    | succ i =>
      rw [meet_char hne, ih (by omega) i, hl k (by omega)]
      by_cases h : i = k
      · subst h; simp
      · rw [beq_eq_false_iff_ne.2 h, Bool.false_and]; symm; exact beq_eq_false_iff_ne.2 (by omega)
theorem rd_snoc {l : List Int} {c : Int} {j : Nat} (h : j < l.length) : rd (l ++ [c]) (j : Int) = rd l (j : Int) := by
  rw [rd_nat h, rd_nat (by simp; omega), List.getElem_append_left h]
theorem rd_last (l : List Int) (c : Int) : rd (l ++ [c]) (l.length : Int) = c := by
  rw [rd_nat (by simp)]
  simp
/-- What meets p meets p and a star, whatever stands behind. -/
theorem like_more (t u p : ByteArray) (h : likeL t p = true) (ht : (t ++ u).size ≤ 200) (hp : p.size + 1 ≤ 200) : likeL (t ++ u) (p ++ starB) = true := by
  unfold likeL at h
  split at h
  · rename_i hs
    cases htok : tokF p p.size 0 with
    | none => rw [htok] at h; cases h
    | some l =>
      rw [htok] at h
      have h2 := tok_star p p.size 0 l (by omega) (by omega) htok
      have hsz := star_size p
      unfold likeL
      rw [if_pos ⟨ht, by omega⟩, hsz, h2]
      show meetL (t ++ u) (l ++ [256]) (l ++ [256]).length (t ++ u).size = true
      rw [show (l ++ [(256 : Int)]).length = l.length + 1 by simp, meet_star (rd_last l 256)]
      refine upTo_true (i := t.size) ?_ (by rw [ByteArray.size_append]; omega)
      rw [meet_pre (t ++ u) t (l ++ [256]) l l.length (fun j hj => rd_snoc hj) t.size (fun j hj => bt_left t u hj)]
      exact h
  · cases h
/-- A byte told in a pattern. -/
def eU (b : UInt8) : List UInt8 := if b = 42 then [92, 42] else if b = 92 then [92, 92] else [b]
def escU (t : ByteArray) : Nat → List UInt8
  | 0 => []
  | i + 1 => escU t i ++ eU (t.data.toList.getD i 0)
def nums (l : List UInt8) : List Int := l.map fun u => (u.toNat : Int)
theorem nums_str (l : List UInt8) : strOfNums (nums l) = ⟨l.toArray⟩ := by
  unfold strOfNums nums
  congr 1
  congr 1
  rw [List.map_map]
  conv => rhs; rw [← List.map_id l]
  congr 1
  funext u
  simp
def escS (t : ByteArray) : ByteArray := ⟨(escU t t.size).toArray⟩
theorem esc_l0 (t : ByteArray) (ht : t.size ≤ 100000) (q : Nat) : ∀ i, i + q = t.size → (escU t i).length ≤ 2 * i → Ev (fun k => spec_l3Escaped.l0 k t (⟨#[42, 92]⟩ : ByteArray) (nums (escU t i)) (i : Int)) (escS t) := by
  induction q with
  | zero =>
    intro i hi hl
    obtain rfl : i = t.size := by omega
    refine Ev.up3 ?_
    simp only [spec_l3Escaped.l0, if_neg (show ¬ ((t.size : Int) < (t.size : Int)) by omega), nums_str]
    exact Ev.now _
  | succ q ih =>
    intro i hi hl
    have hb := bt_eq t i
    obtain ⟨b, eb⟩ : ∃ b, b = t.data.toList.getD i 0 := ⟨_, rfl⟩
    rw [← eb] at hb
    have hlen : (eU b).length ≤ 2 := by
      unfold eU
      split
      · simp
      · split <;> simp
    have hnext := ih (i + 1) (by omega) (by rw [escU, List.length_append, ← eb]; omega)
    have en : nums (escU t (i + 1)) = nums (escU t i) ++ nums (eU b) := by rw [escU, ← eb]; simp [nums]
    rw [en] at hnext
    have s2 : ((⟨#[42, 92]⟩ : ByteArray).size : Int) = 2 := rfl
    have b0 : bt (⟨#[42, 92]⟩ : ByteArray) 0 = 42 := rfl
    have b1 : bt (⟨#[42, 92]⟩ : ByteArray) 1 = 92 := rfl
    have w1 : wrap64 ((0 : Int) + 1) = 1 := w64 (by omega) (by omega)
    have w2 : Aside0 (wrap64 ((1 : Int) + 1) = 2) := ⟨w64 (by omega) (by omega)⟩
    have nl : (nums (escU t i)).length ≤ 2 * i := by simpa [nums] using hl
    have l1 : (nums (escU t i)).length < 140737488355328 := by omega
    have l2 : (nums (escU t i) ++ [92]).length < 140737488355328 := by simp; omega
    refine Ev.up3 (Ev.up3 (Ev.up3 (Ev.up3 ?_)))
    simp only [spec_l3Escaped.l0, if_pos (show ((i : Int) < (t.size : Int)) by omega), spec_l3Escaped.l1, s2, if_pos (show (0 : Int) < 2 by omega), if_pos (show (0 : Int) ≤ (i : Int) by omega), if_pos (show (0 : Int) ≤ 0 by omega), b0, w1, if_pos (show (1 : Int) < 2 by omega), if_pos (show (0 : Int) ≤ 1 by omega), b1, w2.out, if_neg (show ¬ ((2 : Int) < 2) by omega), if_pos l1, if_pos l2, inc i (by omega), hb]
    by_cases c1 : b = 42
    · subst c1
      have e : nums (escU t i) ++ nums (eU 42) = nums (escU t i) ++ [92] ++ [42] := by rw [List.append_assoc]; rfl
      rw [e] at hnext
      simp only [show ((UInt8.toNat 42 : Nat) : Int) = 42 from rfl, if_true, if_neg (show ¬ ((42 : Int) = 92) by omega)]
      exact hnext
    · by_cases c2 : b = 92
      · subst c2
        have e : nums (escU t i) ++ nums (eU 92) = nums (escU t i) ++ [92] ++ [92] := by rw [List.append_assoc]; rfl
        rw [e] at hnext
        simp only [show ((UInt8.toNat 92 : Nat) : Int) = 92 from rfl, if_true, if_neg (show ¬ ((92 : Int) = 42) by omega)]
        exact hnext
      · have d1 : ¬ ((b.toNat : Int) = 42) := fun e => c1 (UInt8.toNat_inj.1 (by simpa using (by omega : b.toNat = 42)))
        have d2 : ¬ ((b.toNat : Int) = 92) := fun e => c2 (UInt8.toNat_inj.1 (by simpa using (by omega : b.toNat = 92)))
        simp only [if_neg d1, if_neg d2]
        have : nums (eU b) = [(b.toNat : Int)] := by unfold eU; rw [if_neg c1, if_neg c2]; rfl
        rw [this] at hnext
        exact hnext
end Go.Proofs.Ytccbjchlcelkgaa.Pr
/- The cursor that draws: each draw gives something, within its bound. -/
namespace Go.Proofs.Ytccbjchlcelkgaa.Pr
open Go.RowKit Go.Proofs.Ytccbjchlcelkgaa.Read Go.Proofs.YtccbjchlcelkgaaW.PrintWords
theorem and255 (X : Int) : 0 ≤ Go.bits .and .u64 X 255 ∧ Go.bits .and .u64 X 255 ≤ 255 := by
  have h : ((BitVec.ofInt 64 X) &&& (BitVec.ofInt 64 255)).toNat ≤ 255 := by
    rw [BitVec.toNat_and]
    exact Nat.le_trans Nat.and_le_right (by decide)
  have e : Go.bits .and .u64 X 255 = IntKind.u64.wrap ((((BitVec.ofInt 64 X) &&& (BitVec.ofInt 64 255)).toNat : Nat) : Int) := rfl
  rw [e, IntKind.wrap_u64]
  omega
theorem cur_next (s : List Int) (hs : okL okB s) (p h : Int) (h0 : 0 ≤ p) (h1 : p ≤ 1000000000000) : ∃ v h', spec_l1Cur_next.f s p h = some (v, p + 1, h') ∧ 0 ≤ v ∧ v ≤ 255 := by
  have e : wrap64 (p + 1) = p + 1 := w64 (by omega) (by omega)
  unfold spec_l1Cur_next.f
  simp only [e]
  by_cases hp : p < (s.length : Int)
  · rw [if_pos hp, if_pos h0, if_pos (by omega)]
    have hm : rd s p ∈ s := by
      have : p.toNat < s.length := by omega
      simp [rd, List.getD_eq_getElem?_getD, List.getElem?_eq_getElem this]
    have hb : 0 ≤ rd s p ∧ rd s p ≤ 255 := hs.2 _ hm
    exact ⟨_, _, rfl, by rw [w64 (by omega) (by omega)]; exact hb.1, by rw [w64 (by omega) (by omega)]; exact hb.2⟩
  · rw [if_neg hp, if_neg (by omega)]
    have hb := and255 ((IntKind.u64.wrap ((IntKind.u64.wrap (IntKind.u64.wrap (h * 6364136223846793005))) + 1442695040888963407)) / 1099511627776)
    exact ⟨_, _, rfl, by rw [w64 (by omega) (by omega)]; exact hb.1, by rw [w64 (by omega) (by omega)]; exact hb.2⟩
theorem cur_pick (s : List Int) (hs : okL okB s) (p h n : Int) (h0 : 0 ≤ p) (h1 : p ≤ 999999999999) : ∃ v p' h', spec_l1Cur_pick.f s p h n = some (v, p', h') ∧ 0 ≤ v ∧ (v < n ∨ v = 0) ∧ p ≤ p' ∧ p' ≤ p + 2 := by
  unfold spec_l1Cur_pick.f
  by_cases hn : n ≤ 1
  · rw [if_pos hn]
    exact ⟨_, _, _, rfl, by omega, .inr rfl, by omega, by omega⟩
  · rw [if_neg hn]
    obtain ⟨v, h', e, v0, v1⟩ := cur_next s hs p h h0 (by omega)
    simp only [e, Option.bind_some]
    by_cases h2 : n > 200
    · rw [if_pos h2]
      obtain ⟨v2, h2', e2, v20, v21⟩ := cur_next s hs (p + 1) h' (by omega) (by omega)
      simp only [e2, Option.bind_some, if_neg (show ¬ n = 0 by omega), w64 (show -9223372036854775808 ≤ v * 256 by omega) (show v * 256 ≤ 9223372036854775807 by omega), w64 (show -9223372036854775808 ≤ v * 256 + v2 by omega) (show v * 256 + v2 ≤ 9223372036854775807 by omega)]
      refine ⟨_, _, _, rfl, ?_, .inl ?_, by omega, by omega⟩
      · rw [Int.tmod_eq_emod_of_nonneg (by omega)]; exact Int.emod_nonneg _ (by omega)
      · rw [Int.tmod_eq_emod_of_nonneg (by omega)]; exact Int.emod_lt_of_pos _ (by omega)
    · rw [if_neg h2, if_neg (show ¬ n = 0 by omega)]
      refine ⟨_, _, _, rfl, ?_, .inl ?_, by omega, by omega⟩
      · rw [Int.tmod_eq_emod_of_nonneg (by omega)]; exact Int.emod_nonneg _ (by omega)
      · rw [Int.tmod_eq_emod_of_nonneg (by omega)]; exact Int.emod_lt_of_pos _ (by omega)
theorem cur_one (s : List Int) (hs : okL okB s) (p h n : Int) (h0 : 0 ≤ p) (h1 : p ≤ 999999999999) : ∃ b p' h', spec_l1Cur_one.f s p h n = some (b, p', h') ∧ p ≤ p' ∧ p' ≤ p + 2 := by
  obtain ⟨v, p', h', e, _, _, g1, g2⟩ := cur_pick s hs p h n h0 h1
  unfold spec_l1Cur_one.f
  simp only [e, Option.bind_some]
  exact ⟨_, _, _, rfl, g1, g2⟩
end Go.Proofs.Ytccbjchlcelkgaa.Pr
/- More draws: bytes, one of a list's texts, a rare place, a secret. -/
namespace Go.Proofs.Ytccbjchlcelkgaa.Pr
open Go.RowKit Go.Proofs.Ytccbjchlcelkgaa.Read Go.Proofs.YtccbjchlcelkgaaW.PrintWords
set_option linter.unusedVariables false
theorem bytes_l0 (s : List Int) (hs : okL okB s) (d : Nat) : ∀ (x5 : List Int) (p h : Int), 0 ≤ p → p + d ≤ 900000000000 → x5.length + d ≤ 1000000 → ∃ (L : List Int) (p' h' : Int), (∀ k, d < k → spec_l1Cur_bytes.l0 k x5 d s p h = some (x5 ++ L, p', h')) ∧ isBytes L ∧ L.length = d ∧ p ≤ p' ∧ p' ≤ p + d := by
  induction d with
  | zero =>
    intro x5 p h h0 h1 hl
    refine ⟨[], p, h, fun k hk => ?_, (by simp [isBytes]), rfl, by omega, by omega⟩
    obtain ⟨k, rfl⟩ : ∃ m, k = m + 1 := ⟨k - 1, by omega⟩
    simp only [spec_l1Cur_bytes.l0, if_neg (show ¬ (((0 : Nat) : Int) > 0) by omega), List.append_nil]
  | succ d ih =>
    intro x5 p h h0 h1 hl
    obtain ⟨v, h', e, v0, v1⟩ := cur_next s hs p h h0 (by omega)
    obtain ⟨L, p2, h2, hL, hb, hlen, g1, g2⟩ := ih (x5 ++ [v % 256]) (p + 1) h' (by omega) (by omega) (by rw [List.length_append, List.length_singleton]; omega)
    refine ⟨v % 256 :: L, p2, h2, fun k hk => ?_, ?_, by rw [List.length_cons, hlen], by omega, by omega⟩
    · obtain ⟨k, rfl⟩ : ∃ m, k = m + 1 := ⟨k - 1, by omega⟩
      have ed : wrap64 (((d + 1 : Nat) : Int) - 1) = (d : Int) := by rw [w64 (by omega) (by omega)]; omega
      simp only [spec_l1Cur_bytes.l0, if_pos (show (((d + 1 : Nat) : Int) > 0) by omega), e, Option.bind_some, if_pos (show x5.length < 140737488355328 by omega), ed]
      rw [hL k (by omega), List.append_assoc]
      rfl
    · intro x hx
      rcases List.mem_cons.1 hx with rfl | hx
      · omega
      · exact hb x hx
theorem cur_bytes (s : List Int) (hs : okL okB s) (p h : Int) (n : Nat) (hn : n ≤ 1000) (h0 : 0 ≤ p) (h1 : p ≤ 800000000000) : ∃ (L : List Int) (p' h' : Int), (∀ k, n < k → spec_l1Cur_bytes.f k s p h n = some (L, p', h')) ∧ isBytes L ∧ L.length ≤ n ∧ p ≤ p' ∧ p' ≤ p + 2 + n := by
  obtain ⟨v, p1, h1', e, v0, v1, g1, g2⟩ := cur_pick s hs p h n h0 (by omega)
  obtain ⟨m, rfl⟩ : ∃ m : Nat, v = m := ⟨v.toNat, by omega⟩
  obtain ⟨L, p2, h2, hL, hb, hlen, g3, g4⟩ := bytes_l0 s hs m [] p1 h1' (by omega) (by omega) (by simp; omega)
  refine ⟨L, p2, h2, fun k hk => ?_, hb, by omega, by omega, by omega⟩
  unfold spec_l1Cur_bytes.f
  simp only [e, Option.bind_some]
  rw [hL k (by omega)]
  rfl
theorem cur_of (s : List Int) (hs : okL okB s) (p h : Int) (l : List ByteArray) (hl : 1 ≤ l.length) (hl2 : l.length ≤ 1000000) (h0 : 0 ≤ p) (h1 : p ≤ 999999999999) : ∃ (t : ByteArray) (p' h' : Int), spec_l1Cur_of.f s p h l = some (t, p', h') ∧ p ≤ p' ∧ p' ≤ p + 2 := by
  obtain ⟨v, p1, h1', e, v0, v1, g1, g2⟩ := cur_pick s hs p h l.length h0 h1
  unfold spec_l1Cur_of.f
  simp only [e, Option.bind_some, if_pos v0, if_pos (show v < (l.length : Int) by omega)]
  exact ⟨_, _, _, rfl, g1, g2⟩
theorem cur_secret (s : List Int) (hs : okL okB s) (p h : Int) (h0 : 0 ≤ p) (h1 : p ≤ 999999999000) : ∃ (x p' h' : Int), spec_l1Cur_secret.f s p h = some (x, p', h') ∧ p ≤ p' ∧ p' ≤ p + 6 := by
  obtain ⟨b, p1, h1', e, g1, g2⟩ := cur_one s hs p h 16 h0 (by omega)
  unfold spec_l1Cur_secret.f
  simp only [e, Option.bind_some]
  cases b with
  | true =>
    obtain ⟨v, p2, h2', e2, v0, v1, g3, g4⟩ := cur_pick s hs p1 h1' 6 (by omega) (by omega)
    simp only [if_true, e2, Option.bind_some, if_pos v0, List.length_cons, List.length_nil]
    rw [if_pos (by omega)]
    exact ⟨_, _, _, rfl, by omega, by omega⟩
  | false =>
    obtain ⟨v, p2, h2', e2, v0, v1, g3, g4⟩ := cur_pick s hs p1 h1' 60000 (by omega) (by omega)
    obtain ⟨v3, p3, h3', e3, v03, v13, g5, g6⟩ := cur_pick s hs p2 h2' 60000 (by omega) (by omega)
    simp only [Bool.false_eq_true, if_false, e2, e3, Option.bind_some]
    exact ⟨_, _, _, rfl, by omega, by omega⟩
end Go.Proofs.Ytccbjchlcelkgaa.Pr
/- A text told as a pattern meets it; what is drawn for Like comes to an end. Plain facts. -/
namespace Go.Proofs.Ytccbjchlcelkgaa.Pr
open Go.RowKit Go.Proofs.Ytccbjchlcelkgaa.Read Go.Proofs.YtccbjchlcelkgaaW.PrintWords Go.Proofs.YtccbjchlcelkgaaW.PrintLast Go.Proofs.YtccbjchlcelkgaaW.PrintMore
set_option linter.unusedVariables false
def sufU (t : ByteArray) : Nat → Nat → List UInt8
  | 0, _ => []
  | n + 1, i => eU (t.data.toList.getD i 0) ++ sufU t n (i + 1)
theorem esc_suf (t : ByteArray) : ∀ n i, escU t (i + n) = escU t i ++ sufU t n i
  | 0, i => by rw [Nat.add_zero, sufU, List.append_nil]
  | n + 1, i => by rw [show i + (n + 1) = (i + 1) + n by omega, esc_suf t n (i + 1), escU, sufU, List.append_assoc]
def litF (t : ByteArray) : Nat → Nat → List Int
  | 0, _ => []
  | n + 1, i => bt t (i : Int) :: litF t n (i + 1)
theorem litF_len (t : ByteArray) : ∀ n i, (litF t n i).length = n
  | 0, _ => rfl
  | n + 1, i => by rw [litF, List.length_cons, litF_len t n (i + 1)]
theorem litF_rd (t : ByteArray) : ∀ (n i j : Nat), j < n → rd (litF t n i) (j : Int) = bt t ((i + j : Nat) : Int)
  | 0, _, j, h => by omega
  | n + 1, i, 0, _ => rfl
  | n + 1, i, j + 1, h => by
    have e := litF_rd t n (i + 1) j (by omega)
    rw [show i + 1 + j = i + (j + 1) by omega] at e
    rw [← e]
    simp only [rd, litF, Int.toNat_natCast, List.getD_cons_succ]
theorem bt_at_list {own : ByteArray} {pre suf : List UInt8} {x : UInt8} (h : own.data.toList = pre ++ x :: suf) : bt own (pre.length : Int) = (x.toNat : Int) := by
  rw [bt_eq, h]
  simp [List.getD_eq_getElem?_getD]
theorem tok_esc (t : ByteArray) (n : Nat) : ∀ (i : Nat) (pre : List UInt8) (own : ByteArray), own.data.toList = pre ++ sufU t n i → ∀ fuel, (sufU t n i).length ≤ fuel → tokF own fuel pre.length = some (litF t n i) := by
  induction n with
  | zero =>
    intro i pre own h fuel hf
    have hs : own.size = pre.length := by rw [← data_length, h]; simp [sufU]
    cases fuel with
    | zero => rfl
    | succ f => rw [tokF, if_pos (by omega)]; rfl
  | succ n ih =>
    intro i pre own h fuel hf
    have hbt := bt_eq t i
    obtain ⟨b, eb⟩ : ∃ b, b = t.data.toList.getD i 0 := ⟨_, rfl⟩
    rw [← eb] at hbt
    rw [sufU, ← eb] at h hf
    rw [litF, hbt]
    have hs : own.size = pre.length + ((eU b).length + (sufU t n (i + 1)).length) := by rw [← data_length, h]; simp
    by_cases c1 : b = 42
    · subst c1
      have he : eU 42 = [92, 42] := rfl
      rw [he] at h hf hs
      simp only [List.cons_append, List.nil_append, List.length_cons] at h hf hs
      obtain ⟨f, rfl⟩ : ∃ f, fuel = f + 1 := ⟨fuel - 1, by omega⟩
      have b1 := bt_at_list h
      have h2 : own.data.toList = (pre ++ [92]) ++ 42 :: sufU t n (i + 1) := by rw [h]; simp
      have b2 := bt_at_list h2
      have h3 : own.data.toList = (pre ++ [92, 42]) ++ sufU t n (i + 1) := by rw [h]; simp
      have e3 := ih (i + 1) (pre ++ [92, 42]) own h3 f (by omega)
      rw [show (pre ++ [(92 : UInt8)]).length = pre.length + 1 by simp] at b2
      rw [show (pre ++ [(92 : UInt8), 42]).length = pre.length + 2 by simp] at e3
      rw [tokF, if_neg (by simp at hs; omega), b1, if_neg (by decide), if_pos (by rfl), if_neg (by simp at hs; omega), b2, if_pos (show ((UInt8.toNat 42 : Nat) : Int) = 42 ∨ ((UInt8.toNat 42 : Nat) : Int) = 92 from Or.inl rfl), e3]
      rfl
    by_cases c2 : b = 92
    · subst c2
      have he : eU 92 = [92, 92] := rfl
      rw [he] at h hf hs
      simp only [List.cons_append, List.nil_append, List.length_cons] at h hf hs
      obtain ⟨f, rfl⟩ : ∃ f, fuel = f + 1 := ⟨fuel - 1, by omega⟩
      have b1 := bt_at_list h
      have h2 : own.data.toList = (pre ++ [92]) ++ 92 :: sufU t n (i + 1) := by rw [h]; simp
      have b2 := bt_at_list h2
      have h3 : own.data.toList = (pre ++ [92, 92]) ++ sufU t n (i + 1) := by rw [h]; simp
      have e3 := ih (i + 1) (pre ++ [92, 92]) own h3 f (by omega)
      rw [show (pre ++ [(92 : UInt8)]).length = pre.length + 1 by simp] at b2
      rw [show (pre ++ [(92 : UInt8), 92]).length = pre.length + 2 by simp] at e3
      rw [tokF, if_neg (by simp at hs; omega), b1, if_neg (by decide), if_pos (by rfl), if_neg (by simp at hs; omega), b2, if_pos (show ((UInt8.toNat 92 : Nat) : Int) = 42 ∨ ((UInt8.toNat 92 : Nat) : Int) = 92 from Or.inr rfl), e3]
      rfl
    · have he : eU b = [b] := by unfold eU; rw [if_neg c1, if_neg c2]
      rw [he] at h hf hs
      simp only [List.cons_append, List.nil_append, List.length_cons] at h hf hs
      obtain ⟨f, rfl⟩ : ∃ f, fuel = f + 1 := ⟨fuel - 1, by omega⟩
      have d1 : ¬ ((b.toNat : Int) = 42) := fun e => c1 (UInt8.toNat_inj.1 (by simpa using (by omega : b.toNat = 42)))
      have d2 : ¬ ((b.toNat : Int) = 92) := fun e => c2 (UInt8.toNat_inj.1 (by simpa using (by omega : b.toNat = 92)))
      have b1 := bt_at_list h
      have h3 : own.data.toList = (pre ++ [b]) ++ sufU t n (i + 1) := by rw [h]; simp
      have e3 := ih (i + 1) (pre ++ [b]) own h3 f (by omega)
      rw [show (pre ++ [b]).length = pre.length + 1 by simp] at e3
      rw [tokF, if_neg (by simp at hs; omega), b1, if_neg d1, if_neg d2, e3]
      rfl
theorem eU_len (b : UInt8) : 1 ≤ (eU b).length ∧ (eU b).length ≤ 2 := by
  unfold eU
  split
  · simp
  · split <;> simp
theorem escU_len (t : ByteArray) : ∀ i, i ≤ (escU t i).length ∧ (escU t i).length ≤ 2 * i
  | 0 => by simp [escU]
  | i + 1 => by
    have := escU_len t i
    have := eU_len (t.data.toList.getD i 0)
    rw [escU, List.length_append]
    omega
theorem esc_size (t : ByteArray) : t.size ≤ (escS t).size ∧ (escS t).size ≤ 2 * t.size := by
  have e : (escS t).size = (escU t t.size).length := by
    show (escU t t.size).toArray.size = _
    rw [List.size_toArray]
  rw [e]
  exact escU_len t t.size
theorem tok_own (t : ByteArray) : tokF (escS t) (escS t).size 0 = some (litF t t.size 0) := by
  have e : escU t t.size = sufU t t.size 0 := by
    have := esc_suf t t.size 0
    rw [Nat.zero_add] at this
    rw [this]; rfl
  have hd : (escS t).data.toList = [] ++ sufU t t.size 0 := by
    show (escU t t.size).toArray.toList = _
    rw [e]; rfl
  exact tok_esc t t.size 0 [] (escS t) hd (escS t).size (by have h := data_length (escS t); rw [hd] at h; simp at h; omega)
theorem like_own (t : ByteArray) (h : (escS t).size ≤ 200) : likeL t (escS t) = true := by
  have hs := esc_size t
  unfold likeL
  rw [if_pos ⟨by omega, h⟩, tok_own t]
  show meetL t (litF t t.size 0) (litF t t.size 0).length t.size = true
  rw [litF_len, meet_lit t (litF t t.size 0) t.size (fun j hj => by rw [litF_rd t t.size 0 j hj, Nat.zero_add]) t.size (Nat.le_refl _)]
  simp
theorem like_longer (t : ByteArray) (h : (escS t).size ≤ 200) : likeL (t ++ (⟨#[120]⟩ : ByteArray)) (escS t) = false := by
  have hs := esc_size t
  have hz : (t ++ (⟨#[120]⟩ : ByteArray)).size = t.size + 1 := by rw [ByteArray.size_append]; rfl
  unfold likeL
  split
  · rw [tok_own t]
    show meetL (t ++ (⟨#[120]⟩ : ByteArray)) (litF t t.size 0) (litF t t.size 0).length (t ++ (⟨#[120]⟩ : ByteArray)).size = false
    rw [litF_len, hz, meet_lit (t ++ (⟨#[120]⟩ : ByteArray)) (litF t t.size 0) t.size (fun j hj => by rw [litF_rd t t.size 0 j hj, Nat.zero_add, bt_left t _ hj]) t.size (Nat.le_refl _)]
    exact beq_eq_false_iff_ne.2 (by omega)
  · rfl
theorem patternOf_ev (t : ByteArray) (ht : t.size ≤ 100000) : Ev (fun k => spec_PatternOf.f k t) (escS t) := by
  simp only [spec_PatternOf.f]
  exact Ev.bind (show Ev (fun k => spec_l3Escaped.f k t (⟨#[42, 92]⟩ : ByteArray)) (escS t) from esc_l0 t ht t.size 0 (by omega) (by simp [escU])) (Ev.now _)
end Go.Proofs.Ytccbjchlcelkgaa.Pr
/- What is drawn for Like: short texts. Plain facts. -/
namespace Go.Proofs.Ytccbjchlcelkgaa.Pr
open Go.RowKit Go.Proofs.Ytccbjchlcelkgaa.Read Go.Proofs.YtccbjchlcelkgaaW.PrintWords Go.Proofs.YtccbjchlcelkgaaW.PrintLast Go.Proofs.YtccbjchlcelkgaaW.PrintMore
set_option linter.unusedVariables false
theorem cur_ofsz (s : List Int) (hs : okL okB s) (p h : Int) (l : List ByteArray) (b : Nat) (hb : ∀ x ∈ l, x.size ≤ b) (hl : 1 ≤ l.length) (h0 : 0 ≤ p) (h1 : p ≤ 999999999999) : ∃ (t : ByteArray) (p' h' : Int), spec_l1Cur_of.f s p h l = some (t, p', h') ∧ t.size ≤ b ∧ p ≤ p' ∧ p' ≤ p + 2 := by
  obtain ⟨v, p1, h1', e, v0, v1, g1, g2⟩ := cur_pick s hs p h l.length h0 h1
  unfold spec_l1Cur_of.f
  simp only [e, Option.bind_some, if_pos v0, if_pos (show v < (l.length : Int) by omega)]
  refine ⟨_, _, _, rfl, ?_, g1, g2⟩
  have hv : v.toNat < l.length := by omega
  show (l.getD v.toNat ByteArray.empty).size ≤ b
  rw [List.getD_eq_getElem?_getD, List.getElem?_eq_getElem hv]
  exact hb _ (List.getElem_mem hv)
theorem Ev.upD {α : Type} {f : Nat → Option α} {r : α} (h : Ev (fun k => f (k + 1)) r) : Ev f r := h.elim fun n hn => ⟨n + 1, fun k hk => by
  obtain ⟨k, rfl⟩ : ∃ m, k = m + 1 := ⟨k - 1, by omega⟩
  exact hn k (by omega)⟩
def okD (f : Nat → Option (ByteArray × ByteArray)) : Prop := ∃ (T P : ByteArray), T.size ≤ 1000 ∧ P.size ≤ 1000 ∧ Ev f (T, P)
theorem okD_up {f : Nat → Option (ByteArray × ByteArray)} (h : okD fun k => f (k + 1)) : okD f := by
  obtain ⟨T, P, a, b, e⟩ := h
  exact ⟨T, P, a, b, Ev.upD e⟩
theorem ext_size (w : ByteArray) (i : Nat) (h : i < w.size) : (w.extract ((i : Nat) : Int).toNat (((i + 1 : Nat) : Nat) : Int).toNat).size = 1 := by
  rw [ByteArray.size_extract]; omega
theorem draw_l1 (s : List Int) (p h : Int) (M : Nat) (hM : M ≤ 1000) (w x5 : ByteArray) (hw : w.size ≤ 1000) (x7 : Int) (hc : ∀ x6 : ByteArray, x6.size ≤ M → okD (fun k => spec_DrawLike.l0 k x5 x6 (wrap64 (x7 - 1)) s p h)) (q : Nat) : ∀ (i : Nat) (x6 : ByteArray), i + q = w.size → x6.size + 2 * q ≤ M → okD (fun k => spec_DrawLike.l1 k x5 x6 x7 w (i : Int) s p h) := by
  induction q with
  | zero =>
    intro i x6 hi hx
    apply okD_up
    simp only [spec_DrawLike.l1, if_neg (show ¬ ((i : Int) < (w.size : Int)) by omega)]
    exact hc x6 (by omega)
  | succ q ih =>
    intro i x6 hi hx
    apply okD_up
    have hsz := ext_size w i (by omega)
    have s1 : (x6 ++ (⟨#[92]⟩ : ByteArray)).size = x6.size + 1 := by rw [ByteArray.size_append]; rfl
    have next := fun x6' (h6 : x6'.size ≤ x6.size + 2) => ih (i + 1) x6' (by omega) (by omega)
    simp only [spec_DrawLike.l1, inc i (by omega), if_pos (show ((i : Int) < (w.size : Int)) by omega), if_pos (show (0 : Int) ≤ (i : Int) by omega), if_pos (show x6.size + 1 ≤ 9223372036854775807 by omega), if_pos (show (i : Int) ≤ ((i + 1 : Nat) : Int) by omega), if_pos (show ((i + 1 : Nat) : Int) ≤ (w.size : Int) by omega), s1, hsz, if_pos (show x6.size + 1 + 1 ≤ 9223372036854775807 by omega)]
    have e1 := next ((x6 ++ (⟨#[92]⟩ : ByteArray)) ++ w.extract ((i : Nat) : Int).toNat (((i + 1 : Nat) : Nat) : Int).toNat) (by rw [ByteArray.size_append, s1, hsz]; omega)
    have e2 := next (x6 ++ w.extract ((i : Nat) : Int).toNat (((i + 1 : Nat) : Nat) : Int).toNat) (by rw [ByteArray.size_append, hsz]; omega)
    by_cases c1 : bt w (i : Int) = 42
    · simp only [if_pos c1]; exact e1
    by_cases c2 : bt w (i : Int) = 92
    · simp only [if_neg c1, if_pos c2]; exact e1
    · simp only [if_neg c1, if_neg c2]; exact e2
theorem draw_l0 (s : List Int) (hs : okL okB s) (d : Nat) : ∀ (x5 x6 : ByteArray) (p h : Int), 0 ≤ p → p + 100 * d ≤ 900000000000 → x5.size + 2 * d ≤ 1000 → x6.size + 4 * d ≤ 1000 → okD (fun k => spec_DrawLike.l0 k x5 x6 (d : Int) s p h) := by
  induction d with
  | zero =>
    intro x5 x6 p h h0 h1 h5 h6
    apply okD_up
    simp only [spec_DrawLike.l0, if_neg (show ¬ (((0 : Nat) : Int) > 0) by omega)]
    exact ⟨x5, x6, by omega, by omega, Ev.now _⟩
  | succ d ih =>
    intro x5 x6 p h h0 h1 h5 h6
    apply okD_up
    have ed : wrap64 (((d + 1 : Nat) : Int) - 1) = (d : Int) := by rw [w64 (by omega) (by omega)]; omega
    obtain ⟨w, p1, h1', e1, hw, g1, g2⟩ := cur_ofsz s hs p h [(⟨#[97]⟩ : ByteArray), (⟨#[98]⟩ : ByteArray), (⟨#[97, 98]⟩ : ByteArray), (⟨#[42]⟩ : ByteArray), (⟨#[92]⟩ : ByteArray), (⟨#[97, 97]⟩ : ByteArray)] 2 (by decide) (by simp) h0 (by omega)
    obtain ⟨v, p2, h2, e2, v0, v1, g3, g4⟩ := cur_pick s hs p1 h1' 4 (by omega) (by omega)
    obtain ⟨u, p3, h3, e3, hu, g5, g6⟩ := cur_ofsz s hs p2 h2 [(⟨#[42]⟩ : ByteArray), (⟨#[97]⟩ : ByteArray), (⟨#[98]⟩ : ByteArray), (⟨#[92, 42]⟩ : ByteArray), (⟨#[92, 92]⟩ : ByteArray), (⟨#[92]⟩ : ByteArray), (⟨#[92, 97]⟩ : ByteArray)] 2 (by decide) (by simp) (by omega) (by omega)
    have s5 : (x5 ++ w).size = x5.size + w.size := ByteArray.size_append
    have s6 : (x6 ++ u).size = x6.size + u.size := ByteArray.size_append
    have s7 : (x6 ++ (⟨#[42]⟩ : ByteArray)).size = x6.size + 1 := by rw [ByteArray.size_append]; rfl
    simp only [spec_DrawLike.l0, if_pos (show (((d + 1 : Nat) : Int) > 0) by omega), e1, e2, e3, Option.bind_some, if_pos (show x5.size + w.size ≤ 9223372036854775807 by omega), if_pos (show x6.size + u.size ≤ 9223372036854775807 by omega), if_pos (show x6.size + 1 ≤ 9223372036854775807 by omega)]
    by_cases c0 : v = 0
    · simp only [if_pos c0, ed]
      exact ih _ _ _ _ (by omega) (by omega) (by omega) (by omega)
    by_cases c1 : v = 1
    · simp only [if_neg c0, if_pos c1, ed]
      exact ih _ _ _ _ (by omega) (by omega) (by omega) (by omega)
    · simp only [if_neg c0, if_neg c1]
      refine draw_l1 s p2 h2 (x6.size + 4) (by omega) w (x5 ++ w) (by omega) ((d + 1 : Nat) : Int) (fun x6' hx => ?_) w.size 0 x6 (by omega) (by omega)
      simp only [ed]
      exact ih _ _ _ _ (by omega) (by omega) (by omega) (by omega)
theorem drawLike_ev (s : List Int) (hs : okL okB s) : okD (fun k => spec_DrawLike.f k s) := by
  obtain ⟨v, p1, h1, e, v0, v1, g1, g2⟩ := cur_pick s hs 0 0 9 (by omega) (by omega)
  obtain ⟨m, rfl⟩ : ∃ m : Nat, v = m := ⟨v.toNat, by omega⟩
  simp only [spec_DrawLike.f, newCur.f, Option.bind_some, e]
  exact draw_l0 s hs m _ _ p1 h1 (by omega) (by omega) (by show 0 + 2 * m ≤ 1000; omega) (by show 0 + 4 * m ≤ 1000; omega)
end Go.Proofs.Ytccbjchlcelkgaa.Pr
/- The law FnLike, its plain part. -/
namespace Go.Proofs.Ytccbjchlcelkgaa.Pure
open Go.RowKit Go.Proofs.Ytccbjchlcelkgaa.Read Go.Proofs.YtccbjchlcelkgaaW.PrintWords Go.Proofs.Ytccbjchlcelkgaa.Pr
theorem FnLike : laws_FnLike.Pure := by
  intro code hc
  by_cases hbig : (code.length : Int) > 1048576
  · exact ⟨0, by simp only [laws_FnLike.f, if_pos hbig]⟩
  obtain ⟨t, p, ht, hp, hev⟩ := drawLike_ev code hc
  apply Ev.rounds
  simp only [laws_FnLike.f, if_neg hbig]
  refine Ev.bind hev ?_
  refine Ev.bind (implLike_ev t p (by omega)) ?_
  refine Ev.bind (specLike_ev t p (by omega)) ?_
  simp only [bne_self_eq_false, Bool.false_eq_true, if_false]
  refine Ev.bind (patternOf_ev t (by omega)) ?_
  have hs := esc_size t
  have hw : Aside0 (wrap64 (((escS t).size : Int) + 1) = ((escS t).size : Int) + 1) := ⟨w64 (by omega) (by omega)⟩
  rw [hw.out]
  by_cases h1 : ((escS t).size : Int) + 1 > 200
  · simp only [if_pos h1]; exact Ev.now _
  simp only [if_neg h1]
  refine Ev.bind (implLike_ev t (escS t) (by omega)) ?_
  have sx : (t ++ (⟨#[120]⟩ : ByteArray)).size = t.size + 1 := by rw [ByteArray.size_append]; rfl
  have syz : (t ++ (⟨#[121, 122]⟩ : ByteArray)).size = t.size + 2 := by rw [ByteArray.size_append]; rfl
  have se := star_size (escS t)
  have sp := star_size p
  simp only [like_own t (by omega), if_true, if_pos (show t.size + 1 ≤ 9223372036854775807 by omega)]
  refine Ev.bind (implLike_ev (t ++ (⟨#[120]⟩ : ByteArray)) (escS t) (by omega)) ?_
  simp only [like_longer t (by omega), Bool.false_eq_true, if_false, if_pos (show (escS t).size + 1 ≤ 9223372036854775807 by omega)]
  refine Ev.bind (implLike_ev (t ++ (⟨#[120]⟩ : ByteArray)) (escS t ++ starB) (by omega)) ?_
  simp only [like_more t (⟨#[120]⟩ : ByteArray) (escS t) (like_own t (by omega)) (by omega) (by omega), if_true]
  by_cases hy : likeL t p = true
  case neg => simp only [if_neg hy]; exact Ev.now _
  have w1 : Aside0 (wrap64 ((p.size : Int) + 1) = (p.size : Int) + 1) := ⟨w64 (by omega) (by omega)⟩
  have w2 : Aside0 (wrap64 ((t.size : Int) + 2) = (t.size : Int) + 2) := ⟨w64 (by omega) (by omega)⟩
  rw [w1.out, w2.out]
  simp only [if_pos hy]
  by_cases h2 : (p.size : Int) + 1 > 200
  · simp only [if_pos h2]; exact Ev.now _
  by_cases h3 : (t.size : Int) + 2 > 200
  · simp only [if_neg h2, if_pos h3]; exact Ev.now _
  simp only [if_neg h2, if_neg h3, if_pos (show t.size + 2 ≤ 9223372036854775807 by omega), if_pos (show p.size + 1 ≤ 9223372036854775807 by omega)]
  refine Ev.bind (implLike_ev (t ++ (⟨#[121, 122]⟩ : ByteArray)) (p ++ starB) (by omega)) ?_
  rw [like_more t (⟨#[121, 122]⟩ : ByteArray) p hy (by omega) (by omega)]
  exact Ev.now _
end Go.Proofs.Ytccbjchlcelkgaa.Pure
/- The law FnLike: whatever the input, the call returns true and the arguments read as before. No conditions. -/
namespace Go.Proofs.Ytccbjchlcelkgaa.fnLike
open Go.ChangeShapes Go.WideShapes Go.ChangeAt Go.RowKit Go.Proofs.Ytccbjchlcelkgaa.Read Go.Proofs.YtccbjchlcelkgaaW.PrintWords Go.Proofs.Ytccbjchlcelkgaa.Pr
open Go.ChangeMaps (open_string shut_string)
set_option linter.unusedVariables false
theorem own : ownKnob Try.prog.godebug = none := by kernel_rfl
theorem laidOut : laidOutB Try.prog = true := by kernel_rfl
set_option maxRecDepth 100000 in
theorem lifted (os : Os) (started : os.Started) (H : Type) (enc : TypeId × Value → H) :
    ReturnsInHanded {} Try.checked os 3 .any (Rows.fnLikeSpec.pre6 enc Try.prog Try.f3 Rows.fnLikeRow.domain false) (Rows.fnLikeSpec.post enc Try.prog Try.f3 false true false false) := by
  refine returnsInHanded_of_change (C := Try.checked) own started (by kernel_rfl) Try.func3
    (ChangeSpec.witness6 (enc := enc) (C := Try.checked) false ⟨#[], #[.slice none 0 0], []⟩ 8 (by kernel_rfl) (by kernel_rfl) (by kernel_rfl) (by kernel_rfl)) ?_
  intro W base args ds gs before hval0 hW hcnd _
  have hval : ∀ (j : Nat) t v, Try.f3.params[j]? = some t → args[j]? = some v → Value.okWide Try.prog W .any base t v := hval0
  have hW' := hW
  obtain ⟨p, q, hA0, hV, rfl, hfz, hnd⟩ := hW
  have hA : DataW.TrodAll enc Try.prog W 0 (fun _ => true) true Try.f3.params.toList args.toList ds p := hA0
  rw [Try.params3] at hA hval
  obtain ⟨v0, vs0, d0, ds0, p0, q0, hargs, rfl, rfl, h0, r0⟩ := trodAll_cons hA
  obtain ⟨rfl, rfl, rfl⟩ := trodAll_nil r0
  obtain rfl : args = #[v0] := by cases args; simp_all
  obtain ⟨rfl, rfl⟩ := trodVars_none hV
  have lt0 : ∀ x ∈ p0, x.block < W.heap.size := by obtain ⟨m, hm⟩ := h0; exact DataW.trod_lt m _ _ _ hm
  have bk0 := fun {W' : World} (bel : Below W.heap.size W W') => Below.trod laidOut (by kernel_rfl) (of_decide_eq_true (by kernel_rfl)) h0 bel lt0
  obtain ⟨A0, c0, l0, rfl, hl0, hC0, o0⟩ := arg_slice Try.underlying22 (tellsL Try.underlying22 (by kernel_rfl) (tellsB Try.underlying5 (by kernel_rfl))) (hval 0 22 v0 rfl rfl) h0
  obtain ⟨k, hk⟩ := Pure.FnLike l0 o0
  refine (laws_FnLike.calls k _ _ l0 true W hC0 hl0 hk).mono fun e W' hpost => ?_
  obtain ⟨he, hb⟩ := hpost
  have bel : Below W.heap.size W W' := hb
  subst he
  exact ⟨_, rfl, _, _, _, [], _, [], hW', trodAll_mk1 (shut_bool Try.underlying4 _), (trodAll_cons_mk (bk0 bel) trodAll_mk0), rfl, bel.frame _, fun h => by cases h⟩
theorem over : Rows.fnLikeRow.holds Try.pinned (OpenSpec.ofChange Rows.fnLikeSpec) :=
  OpenClaim.holds_of_wide 3 Try.f3 rfl rfl rfl rfl rfl rfl rfl ⟨rfl, rfl, rfl, rfl, rfl⟩ rfl rfl rfl rfl rfl (by kernel_rfl) Try.func3 (by kernel_rfl)
    (of_decide_eq_true (by kernel_rfl)) (by unfold Func.isWrapper; first | (rw [if_pos (by decide +kernel)]; kernel_rfl) | (rw [if_neg (by decide +kernel)]; exact ⟨rfl, rfl⟩))
    (fun os started H enc _ => lifted os started H enc)
theorem proved : Rows.FnLikeSaid := over
#print axioms proved
end Go.Proofs.Ytccbjchlcelkgaa.fnLike
namespace Go.Proofs.Ytccbjchlcelkgaa
/-- The row, under a short name, for the claim. -/
theorem fnLike_holds : Rows.FnLikeSaid := fnLike.proved
end Go.Proofs.Ytccbjchlcelkgaa
