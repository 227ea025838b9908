/- The helpers over slices of bytes: copied, compared, marked, held: plain facts. -/
import Derived.Test.YtgolcojhnklfdaaPrgByteS
import Derived.Test.YtgolcojhnklfdaaRead
namespace Go.Proofs.Ytgolcojhnklfdaa.Pr
open Go.RowKit Go.Proofs.Ytgolcojhnklfdaa.Read Go.Proofs.YtgolcojhnklfdaaW.PrintWords

theorem w64 {n : Int} (h0 : -9223372036854775808 ≤ n) (h1 : n ≤ 9223372036854775807) : wrap64 n = n := by unfold wrap64; omega
theorem rd_nat {l : List Int} {i : Nat} (h : i < l.length) : rd l (i : Int) = l[i] := by
  simp [rd, List.getD_eq_getElem?_getD, List.getElem?_eq_getElem h]
theorem list_rd_ext {a b : List Int} (hl : a.length = b.length) (h : ∀ i : Nat, i < a.length → rd a i = rd b i) : a = b := by
  apply List.ext_getElem hl
  intro i h1 h2
  have := h i h1
  rwa [rd_nat h1, rd_nat h2] at this

theorem szByteS_eq (l : List Int) (n : Int) : laws_szByteS.f l n = some (if wrap64 (n - l.length) < 0 then -1 else wrap64 (n - l.length)) := by
  unfold laws_szByteS.f; split <;> rfl

theorem toByteS_l0 (x0 : List Int) (hl : x0.length ≤ 281474976710656) (d : Nat) : ∀ (k i : Nat) (x3 : List Int), x0.length - i = d → i ≤ x0.length → x3.length = x0.length → d < k → laws_toByteS.l0 k x0 x3 i = some (x3.take i ++ x0.drop i) := by
  induction d with
  | zero =>
    intro k i x3 hd hi h3 hk
    obtain ⟨k, rfl⟩ : ∃ m, k = m + 1 := ⟨k - 1, by omega⟩
    simp only [laws_toByteS.l0]
    rw [if_neg (by omega), List.take_of_length_le (by omega), List.drop_of_length_le (by omega), List.append_nil]
  | succ d ih =>
    intro k i x3 hd hi h3 hk
    obtain ⟨k, rfl⟩ : ∃ m, k = m + 1 := ⟨k - 1, by omega⟩
    simp only [laws_toByteS.l0]
    rw [if_pos (by omega), if_pos (by omega), if_pos (by omega), w64 (by omega) (by omega)]
    have e := ih k (i + 1) (x3.set i (rd x0 i)) (by omega) (by omega) (by simpa using h3) (by omega)
    rw [Int.toNat_natCast]
    rw [show ((i : Int) + 1) = ((i + 1 : Nat) : Int) from rfl, e]
    congr 1
    have hlt : i < x0.length := by omega
    rw [List.take_succ_eq_append_getElem (by simp; omega), List.getElem_set_self, List.take_set_of_le (by omega), rd_nat hlt, List.append_assoc, List.singleton_append, ← List.drop_eq_getElem_cons hlt]
theorem toByteS_ev (l : List Int) (hl : l.length ≤ 281474976710656) : Ev (fun k => laws_toByteS.f k l) l :=
  ⟨l.length + 1, fun k hk => by
    show laws_toByteS.f k l = some l
    unfold laws_toByteS.f
    rw [if_pos (by omega), if_pos (by omega)]
    have := toByteS_l0 l hl l.length k 0 (List.replicate ((l.length : Int)).toNat 0) (by omega) (by omega) (by simp) (by omega)
    simpa using this⟩

theorem eqByteS_l0 (x0 x1 : List Int) (hl : x0.length = x1.length) (hm : x0.length ≤ 281474976710656) (d : Nat) : ∀ (k i : Nat), x0.length - i = d → i ≤ x0.length → d < k → laws_eqByteS.l0 k x0 x1 i = some (decide (x0.drop i = x1.drop i)) := by
  induction d with
  | zero =>
    intro k i hd hi hk
    obtain ⟨k, rfl⟩ : ∃ m, k = m + 1 := ⟨k - 1, by omega⟩
    simp only [laws_eqByteS.l0]
    rw [if_neg (by omega), List.drop_of_length_le (by omega), List.drop_of_length_le (by omega)]; simp
  | succ d ih =>
    intro k i hd hi hk
    obtain ⟨k, rfl⟩ : ∃ m, k = m + 1 := ⟨k - 1, by omega⟩
    simp only [laws_eqByteS.l0]
    have h0 : i < x0.length := by omega
    have h1 : i < x1.length := by omega
    rw [if_pos (by omega), if_pos (by omega), if_pos (by omega), w64 (by omega) (by omega), rd_nat h0, rd_nat h1, List.drop_eq_getElem_cons h0, List.drop_eq_getElem_cons h1]
    have e := ih k (i + 1) (by omega) (by omega) (by omega)
    rw [show ((i : Int) + 1) = ((i + 1 : Nat) : Int) from rfl, e]
    by_cases hx : x0[i] = x1[i]
    · rw [if_pos hx]; congr 1; rw [decide_eq_decide, hx, List.cons.injEq]; exact ⟨fun h => ⟨rfl, h⟩, fun h => h.2⟩
    · rw [if_neg hx]; congr 1; symm; rw [decide_eq_false_iff_not, List.cons.injEq]; exact fun h => hx h.1
theorem eqByteS_ev (a b : List Int) (hl : a.length ≤ 281474976710656) : Ev (fun k => laws_eqByteS.f k a b) (decide (a = b)) :=
  ⟨a.length + 1, fun k hk => by
    show laws_eqByteS.f k a b = _
    unfold laws_eqByteS.f
    by_cases h : a.length = b.length
    · rw [if_pos (by omega)]
      have := eqByteS_l0 a b h hl a.length k 0 (by omega) (by omega) (by omega)
      simpa using this
    · rw [if_neg (by omega)]
      have : a ≠ b := fun e => h (by rw [e])
      simp [this]⟩
theorem eqByteS_refl (a : List Int) (hl : a.length ≤ 281474976710656) : Ev (fun k => laws_eqByteS.f k a a) true := by
  have := eqByteS_ev a a hl
  simpa using this

/-- What a marked slice of n bytes holds, counted from k. -/
def markL : Nat → Int → List Int
  | 0, _ => []
  | n + 1, k => k % 256 :: markL n (k + 1)
theorem markL_len : ∀ (n : Nat) (k : Int), (markL n k).length = n
  | 0, _ => rfl
  | n + 1, k => by simp [markL, markL_len n]
theorem markByteS_l0 (d : Nat) : ∀ (k i : Nat) (c : Int) (x0 : List Int), x0.length - i = d → i ≤ x0.length → x0.length ≤ 281474976710656 → 0 ≤ c → c + d ≤ 9000000000000000000 → d < k → laws_markByteS.l0 k x0 c i = some (c + d, x0.take i ++ markL d c) := by
  induction d with
  | zero =>
    intro k i c x0 hd hi hl hc hc2 hk
    obtain ⟨k, rfl⟩ : ∃ m, k = m + 1 := ⟨k - 1, by omega⟩
    simp only [laws_markByteS.l0]
    rw [if_neg (by omega), List.take_of_length_le (by omega)]; simp [markL]
  | succ d ih =>
    intro k i c x0 hd hi hl hc hc2 hk
    obtain ⟨k, rfl⟩ : ∃ m, k = m + 1 := ⟨k - 1, by omega⟩
    simp only [laws_markByteS.l0]
    rw [if_pos (by omega), if_pos (by omega), w64 (by omega) (by omega), w64 (by omega) (by omega), Int.toNat_natCast]
    have e := ih k (i + 1) (c + 1) (x0.set i (c % 256)) (by simp; omega) (by simp; omega) (by simpa using hl) (by omega) (by omega) (by omega)
    rw [show ((i : Int) + 1) = ((i + 1 : Nat) : Int) from rfl, e]
    have hlt : i < x0.length := by omega
    rw [List.take_succ_eq_append_getElem (by simp; omega), List.getElem_set_self, List.take_set_of_le (by omega), List.append_assoc, List.singleton_append, markL]
    congr 2; omega
theorem markByteS_ev (l : List Int) (c : Int) (hl : l.length ≤ 281474976710656) (hc : 0 ≤ c) (hc2 : c ≤ 8000000000000000000) : Ev (fun k => laws_markByteS.f k l c) (c + l.length, markL l.length c) :=
  ⟨l.length + 1, fun k hk => by
    have := markByteS_l0 l.length k 0 c l (by omega) (by omega) hl hc (by omega) (by omega)
    simpa [laws_markByteS.f] using this⟩
theorem heldByteS_l0 (n : Nat) : ∀ (k i : Nat) (c : Int) (x0 : List Int), x0.drop i = markL n c → i ≤ x0.length → x0.length ≤ 281474976710656 → 0 ≤ c → c + n ≤ 9000000000000000000 → n < k → laws_heldByteS.l0 k x0 c i = some (c + n) := by
  induction n with
  | zero =>
    intro k i c x0 hd hi hl hc hc2 hk
    obtain ⟨k, rfl⟩ : ∃ m, k = m + 1 := ⟨k - 1, by omega⟩
    have hlen := congrArg List.length hd
    rw [List.length_drop, markL_len] at hlen
    simp only [laws_heldByteS.l0]
    rw [if_neg (by omega)]; simp
  | succ n ih =>
    intro k i c x0 hd hi hl hc hc2 hk
    obtain ⟨k, rfl⟩ : ∃ m, k = m + 1 := ⟨k - 1, by omega⟩
    have hlen := congrArg List.length hd
    rw [List.length_drop, markL_len] at hlen
    have hlt : i < x0.length := by omega
    rw [List.drop_eq_getElem_cons hlt, markL] at hd
    injection hd with h1 h2
    simp only [laws_heldByteS.l0]
    rw [if_pos (by omega), if_pos (by omega), rd_nat hlt, if_pos h1, w64 (by omega) (by omega), w64 (by omega) (by omega), show ((i : Int) + 1) = ((i + 1 : Nat) : Int) from rfl, ih k (i + 1) (c + 1) x0 h2 (by omega) hl (by omega) (by omega) (by omega)]
    congr 1; omega
theorem heldByteS_ev (n : Nat) (c : Int) (hl : n ≤ 281474976710656) (hc : 0 ≤ c) (hc2 : c ≤ 8000000000000000000) : Ev (fun k => laws_heldByteS.f k (markL n c) c) (c + n) :=
  ⟨n + 1, fun k hk => by
    have := heldByteS_l0 n k 0 c (markL n c) (by simp) (by omega) (by rw [markL_len]; exact hl) hc (by omega) (by omega)
    simpa [laws_heldByteS.f] using this⟩
end Go.Proofs.Ytgolcojhnklfdaa.Pr
