/- The law FnThrottled: whatever the input, the call returns true and the arguments read as before. No conditions. -/
import Derived.Test.YtgolcojhnklfdaaRead
import Derived.Test.YtgolcojhnklfdaaPr6
import Derived.Test.YtgolcojhnklfdaaPrgByteS
import Derived.Test.YtgolcojhnklfdaaPrcur
import Derived.Test.YtgolcojhnklfdaaPr88
import Derived.Test.YtgolcojhnklfdaaPr90
import Derived.Test.YtgolcojhnklfdaaPr38
import Derived.Test.YtgolcojhnklfdaaPr91
import Derived.Test.YtgolcojhnklfdaaPr35
import Derived.Test.YtgolcojhnklfdaaPr37
import Derived.Test.YtgolcojhnklfdaaPr34
import Derived.Test.YtgolcojhnklfdaaRows
import Derived.WalkKit
import Derived.ProofKit
import Derived.OpenShut
import Derived.ShutString
import Derived.ChangeOld
import Derived.Below
/- The pure statement of the law FnThrottled. -/
namespace Go.Proofs.Ytgolcojhnklfdaa.Pr
open Go.RowKit Go.Proofs.Ytgolcojhnklfdaa.Read Go.Proofs.YtgolcojhnklfdaaW.PrintWords
set_option linter.unusedVariables false
/-- What is left of the law FnThrottled: a statement about numbers and lists. -/
def laws_FnThrottled.Pure : Prop := ∀ (l0 : (List Int)), (okL okB) l0 → ∃ k, laws_FnThrottled.f k l0 = some true
end Go.Proofs.Ytgolcojhnklfdaa.Pr
/- The helpers over slices of bytes: copied, compared, marked, held: plain facts. -/
namespace Go.Proofs.Ytgolcojhnklfdaa.Pr
open Go.RowKit Go.Proofs.Ytgolcojhnklfdaa.Read Go.Proofs.YtgolcojhnklfdaaW.PrintWords

theorem w64 {n : Int} (h0 : -9223372036854775808 ≤ n) (h1 : n ≤ 9223372036854775807) : wrap64 n = n := by unfold wrap64; omega
theorem rd_nat {l : List Int} {i : Nat} (h : i < l.length) : rd l (i : Int) = l[i] := by
  simp [rd, List.getD_eq_getElem?_getD, List.getElem?_eq_getElem h]
theorem list_rd_ext {a b : List Int} (hl : a.length = b.length) (h : ∀ i : Nat, i < a.length → rd a i = rd b i) : a = b := by
  apply List.ext_getElem hl
  intro i h1 h2
  have := h i h1
  rwa [rd_nat h1, rd_nat h2] at this

theorem szByteS_eq (l : List Int) (n : Int) : laws_szByteS.f l n = some (if wrap64 (n - l.length) < 0 then -1 else wrap64 (n - l.length)) := by
  unfold laws_szByteS.f; split <;> rfl

theorem toByteS_l0 (x0 : List Int) (hl : x0.length ≤ 281474976710656) (d : Nat) : ∀ (k i : Nat) (x3 : List Int), x0.length - i = d → i ≤ x0.length → x3.length = x0.length → d < k → laws_toByteS.l0 k x0 x3 i = some (x3.take i ++ x0.drop i) := by
  induction d with
  | zero =>
    intro k i x3 hd hi h3 hk
    obtain ⟨k, rfl⟩ : ∃ m, k = m + 1 := ⟨k - 1, by omega⟩
    simp only [laws_toByteS.l0]
    rw [if_neg (by omega), List.take_of_length_le (by omega), List.drop_of_length_le (by omega), List.append_nil]
  | succ d ih =>
    intro k i x3 hd hi h3 hk
    obtain ⟨k, rfl⟩ : ∃ m, k = m + 1 := ⟨k - 1, by omega⟩
    simp only [laws_toByteS.l0]
    rw [if_pos (by omega), if_pos (by omega), if_pos (by omega), w64 (by omega) (by omega)]
    have e := ih k (i + 1) (x3.set i (rd x0 i)) (by omega) (by omega) (by simpa using h3) (by omega)
    rw [Int.toNat_natCast]
    rw [show ((i : Int) + 1) = ((i + 1 : Nat) : Int) from rfl, e]
    congr 1
    have hlt : i < x0.length := by omega
    rw [List.take_succ_eq_append_getElem (by simp; omega), List.getElem_set_self, List.take_set_of_le (by omega), rd_nat hlt, List.append_assoc, List.singleton_append, ← List.drop_eq_getElem_cons hlt]
theorem toByteS_ev (l : List Int) (hl : l.length ≤ 281474976710656) : Ev (fun k => laws_toByteS.f k l) l :=
  ⟨l.length + 1, fun k hk => by
    show laws_toByteS.f k l = some l
    unfold laws_toByteS.f
    rw [if_pos (by omega), if_pos (by omega)]
    have := toByteS_l0 l hl l.length k 0 (List.replicate ((l.length : Int)).toNat 0) (by omega) (by omega) (by simp) (by omega)
    simpa using this⟩

theorem eqByteS_l0 (x0 x1 : List Int) (hl : x0.length = x1.length) (hm : x0.length ≤ 281474976710656) (d : Nat) : ∀ (k i : Nat), x0.length - i = d → i ≤ x0.length → d < k → laws_eqByteS.l0 k x0 x1 i = some (decide (x0.drop i = x1.drop i)) := by
  induction d with
  | zero =>
    intro k i hd hi hk
    obtain ⟨k, rfl⟩ : ∃ m, k = m + 1 := ⟨k - 1, by omega⟩
    simp only [laws_eqByteS.l0]
    rw [if_neg (by omega), List.drop_of_length_le (by omega), List.drop_of_length_le (by omega)]; simp
  | succ d ih =>
    intro k i hd hi hk
    obtain ⟨k, rfl⟩ : ∃ m, k = m + 1 := ⟨k - 1, by omega⟩
    simp only [laws_eqByteS.l0]
    have h0 : i < x0.length := by omega
    have h1 : i < x1.length := by omega
    rw [if_pos (by omega), if_pos (by omega), if_pos (by omega), w64 (by omega) (by omega), rd_nat h0, rd_nat h1, List.drop_eq_getElem_cons h0, List.drop_eq_getElem_cons h1]
    have e := ih k (i + 1) (by omega) (by omega) (by omega)
    rw [show ((i : Int) + 1) = ((i + 1 : Nat) : Int) from rfl, e]
    by_cases hx : x0[i] = x1[i]
    · rw [if_pos hx]; congr 1; rw [decide_eq_decide, hx, List.cons.injEq]; exact ⟨fun h => ⟨rfl, h⟩, fun h => h.2⟩
    · rw [if_neg hx]; congr 1; symm; rw [decide_eq_false_iff_not, List.cons.injEq]; exact fun h => hx h.1
theorem eqByteS_ev (a b : List Int) (hl : a.length ≤ 281474976710656) : Ev (fun k => laws_eqByteS.f k a b) (decide (a = b)) :=
  ⟨a.length + 1, fun k hk => by
    show laws_eqByteS.f k a b = _
    unfold laws_eqByteS.f
    by_cases h : a.length = b.length
    · rw [if_pos (by omega)]
      have := eqByteS_l0 a b h hl a.length k 0 (by omega) (by omega) (by omega)
      simpa using this
    · rw [if_neg (by omega)]
      have : a ≠ b := fun e => h (by rw [e])
      simp [this]⟩
theorem eqByteS_refl (a : List Int) (hl : a.length ≤ 281474976710656) : Ev (fun k => laws_eqByteS.f k a a) true := by
  have := eqByteS_ev a a hl
  simpa using this

/-- What a marked slice of n bytes holds, counted from k. -/
def markL : Nat → Int → List Int
  | 0, _ => []
  | n + 1, k => k % 256 :: markL n (k + 1)
theorem markL_len : ∀ (n : Nat) (k : Int), (markL n k).length = n
  | 0, _ => rfl
  | n + 1, k => by simp [markL, markL_len n]
theorem markByteS_l0 (d : Nat) : ∀ (k i : Nat) (c : Int) (x0 : List Int), x0.length - i = d → i ≤ x0.length → x0.length ≤ 281474976710656 → 0 ≤ c → c + d ≤ 9000000000000000000 → d < k → laws_markByteS.l0 k x0 c i = some (c + d, x0.take i ++ markL d c) := by
  induction d with
  | zero =>
    intro k i c x0 hd hi hl hc hc2 hk
    obtain ⟨k, rfl⟩ : ∃ m, k = m + 1 := ⟨k - 1, by omega⟩
    simp only [laws_markByteS.l0]
    rw [if_neg (by omega), List.take_of_length_le (by omega)]; simp [markL]
  | succ d ih =>
    intro k i c x0 hd hi hl hc hc2 hk
    obtain ⟨k, rfl⟩ : ∃ m, k = m + 1 := ⟨k - 1, by omega⟩
    simp only [laws_markByteS.l0]
    rw [if_pos (by omega), if_pos (by omega), w64 (by omega) (by omega), w64 (by omega) (by omega), Int.toNat_natCast]
    have e := ih k (i + 1) (c + 1) (x0.set i (c % 256)) (by simp; omega) (by simp; omega) (by simpa using hl) (by omega) (by omega) (by omega)
    rw [show ((i : Int) + 1) = ((i + 1 : Nat) : Int) from rfl, e]
    have hlt : i < x0.length := by omega
    rw [List.take_succ_eq_append_getElem (by simp; omega), List.getElem_set_self, List.take_set_of_le (by omega), List.append_assoc, List.singleton_append, markL]
    congr 2; omega
theorem markByteS_ev (l : List Int) (c : Int) (hl : l.length ≤ 281474976710656) (hc : 0 ≤ c) (hc2 : c ≤ 8000000000000000000) : Ev (fun k => laws_markByteS.f k l c) (c + l.length, markL l.length c) :=
  ⟨l.length + 1, fun k hk => by
    have := markByteS_l0 l.length k 0 c l (by omega) (by omega) hl hc (by omega) (by omega)
    simpa [laws_markByteS.f] using this⟩
theorem heldByteS_l0 (n : Nat) : ∀ (k i : Nat) (c : Int) (x0 : List Int), x0.drop i = markL n c → i ≤ x0.length → x0.length ≤ 281474976710656 → 0 ≤ c → c + n ≤ 9000000000000000000 → n < k → laws_heldByteS.l0 k x0 c i = some (c + n) := by
  induction n with
  | zero =>
    intro k i c x0 hd hi hl hc hc2 hk
    obtain ⟨k, rfl⟩ : ∃ m, k = m + 1 := ⟨k - 1, by omega⟩
    have hlen := congrArg List.length hd
    rw [List.length_drop, markL_len] at hlen
    simp only [laws_heldByteS.l0]
    rw [if_neg (by omega)]; simp
  | succ n ih =>
    intro k i c x0 hd hi hl hc hc2 hk
    obtain ⟨k, rfl⟩ : ∃ m, k = m + 1 := ⟨k - 1, by omega⟩
    have hlen := congrArg List.length hd
    rw [List.length_drop, markL_len] at hlen
    have hlt : i < x0.length := by omega
    rw [List.drop_eq_getElem_cons hlt, markL] at hd
    injection hd with h1 h2
    simp only [laws_heldByteS.l0]
    rw [if_pos (by omega), if_pos (by omega), rd_nat hlt, if_pos h1, w64 (by omega) (by omega), w64 (by omega) (by omega), show ((i : Int) + 1) = ((i + 1 : Nat) : Int) from rfl, ih k (i + 1) (c + 1) x0 h2 (by omega) hl (by omega) (by omega) (by omega)]
    congr 1; omega
theorem heldByteS_ev (n : Nat) (c : Int) (hl : n ≤ 281474976710656) (hc : 0 ≤ c) (hc2 : c ≤ 8000000000000000000) : Ev (fun k => laws_heldByteS.f k (markL n c) c) (c + n) :=
  ⟨n + 1, fun k hk => by
    have := heldByteS_l0 n k 0 c (markL n c) (by simp) (by omega) (by rw [markL_len]; exact hl) hc (by omega) (by omega)
    simpa [laws_heldByteS.f] using this⟩
end Go.Proofs.Ytgolcojhnklfdaa.Pr
/- The cursor that draws: each draw gives something, within its bound. -/
namespace Go.Proofs.Ytgolcojhnklfdaa.Pr
open Go.RowKit Go.Proofs.Ytgolcojhnklfdaa.Read Go.Proofs.YtgolcojhnklfdaaW.PrintWords
theorem and255 (X : Int) : 0 ≤ Go.bits .and .u64 X 255 ∧ Go.bits .and .u64 X 255 ≤ 255 := by
  have h : ((BitVec.ofInt 64 X) &&& (BitVec.ofInt 64 255)).toNat ≤ 255 := by
    rw [BitVec.toNat_and]
    exact Nat.le_trans Nat.and_le_right (by decide)
  have e : Go.bits .and .u64 X 255 = IntKind.u64.wrap ((((BitVec.ofInt 64 X) &&& (BitVec.ofInt 64 255)).toNat : Nat) : Int) := rfl
  rw [e, IntKind.wrap_u64]
  omega
theorem cur_next (s : List Int) (hs : okL okB s) (p h : Int) (h0 : 0 ≤ p) (h1 : p ≤ 1000000000000) : ∃ v h', spec_l1Cur_next.f s p h = some (v, p + 1, h') ∧ 0 ≤ v ∧ v ≤ 255 := by
  have e : wrap64 (p + 1) = p + 1 := w64 (by omega) (by omega)
  unfold spec_l1Cur_next.f
  simp only [e]
  by_cases hp : p < (s.length : Int)
  · rw [if_pos hp, if_pos h0, if_pos (by omega)]
    have hm : rd s p ∈ s := by
      have : p.toNat < s.length := by omega
      simp [rd, List.getD_eq_getElem?_getD, List.getElem?_eq_getElem this]
    have hb : 0 ≤ rd s p ∧ rd s p ≤ 255 := hs.2 _ hm
    exact ⟨_, _, rfl, by rw [w64 (by omega) (by omega)]; exact hb.1, by rw [w64 (by omega) (by omega)]; exact hb.2⟩
  · rw [if_neg hp, if_neg (by omega)]
    have hb := and255 ((IntKind.u64.wrap ((IntKind.u64.wrap (IntKind.u64.wrap (h * 6364136223846793005))) + 1442695040888963407)) / 1099511627776)
    exact ⟨_, _, rfl, by rw [w64 (by omega) (by omega)]; exact hb.1, by rw [w64 (by omega) (by omega)]; exact hb.2⟩
theorem cur_pick (s : List Int) (hs : okL okB s) (p h n : Int) (h0 : 0 ≤ p) (h1 : p ≤ 999999999999) : ∃ v p' h', spec_l1Cur_pick.f s p h n = some (v, p', h') ∧ 0 ≤ v ∧ (v < n ∨ v = 0) ∧ p ≤ p' ∧ p' ≤ p + 2 := by
  unfold spec_l1Cur_pick.f
  by_cases hn : n ≤ 1
  · rw [if_pos hn]
    exact ⟨_, _, _, rfl, by omega, .inr rfl, by omega, by omega⟩
  · rw [if_neg hn]
    obtain ⟨v, h', e, v0, v1⟩ := cur_next s hs p h h0 (by omega)
    simp only [e, Option.bind_some]
    by_cases h2 : n > 200
    · rw [if_pos h2]
      obtain ⟨v2, h2', e2, v20, v21⟩ := cur_next s hs (p + 1) h' (by omega) (by omega)
      simp only [e2, Option.bind_some, if_neg (show ¬ n = 0 by omega), w64 (show -9223372036854775808 ≤ v * 256 by omega) (show v * 256 ≤ 9223372036854775807 by omega), w64 (show -9223372036854775808 ≤ v * 256 + v2 by omega) (show v * 256 + v2 ≤ 9223372036854775807 by omega)]
      refine ⟨_, _, _, rfl, ?_, .inl ?_, by omega, by omega⟩
      · rw [Int.tmod_eq_emod_of_nonneg (by omega)]; exact Int.emod_nonneg _ (by omega)
      · rw [Int.tmod_eq_emod_of_nonneg (by omega)]; exact Int.emod_lt_of_pos _ (by omega)
    · rw [if_neg h2, if_neg (show ¬ n = 0 by omega)]
      refine ⟨_, _, _, rfl, ?_, .inl ?_, by omega, by omega⟩
      · rw [Int.tmod_eq_emod_of_nonneg (by omega)]; exact Int.emod_nonneg _ (by omega)
      · rw [Int.tmod_eq_emod_of_nonneg (by omega)]; exact Int.emod_lt_of_pos _ (by omega)
theorem cur_one (s : List Int) (hs : okL okB s) (p h n : Int) (h0 : 0 ≤ p) (h1 : p ≤ 999999999999) : ∃ b p' h', spec_l1Cur_one.f s p h n = some (b, p', h') ∧ p ≤ p' ∧ p' ≤ p + 2 := by
  obtain ⟨v, p', h', e, _, _, g1, g2⟩ := cur_pick s hs p h n h0 h1
  unfold spec_l1Cur_one.f
  simp only [e, Option.bind_some]
  exact ⟨_, _, _, rfl, g1, g2⟩
end Go.Proofs.Ytgolcojhnklfdaa.Pr
/- Tries and their throttle: the program's and the reference's are one; what it says of each try. -/
namespace Go.Proofs.Ytgolcojhnklfdaa.Pr
open Go.RowKit Go.Proofs.Ytgolcojhnklfdaa.Read Go.Proofs.YtgolcojhnklfdaaW.PrintWords
set_option linter.unusedVariables false
def tryBad (f u l t : Int) : Prop := f < 0 ∨ f > 1000000 ∨ u < 0 ∨ u > 100000003600 ∨ l < 0 ∨ l > 100000003600 ∨ t < l ∨ t > 100000000000
instance (f u l t : Int) : Decidable (tryBad f u l t) := by unfold tryBad; infer_instance
def tryG (f : Int) : Int := mn (f + 1) 1000000
def tryM (f : Int) : Int := mn 3600 (10 * 2 ^ (mn (tryG f - 3) 20).toNat)
def tryL (f u l t : Int) (r : Bool) : Int × Int × Int × Int :=
  if tryBad f u l t then (0, 0, 0, -1) else if t < u then (f, u, l, 2) else if r = true then (0, 0, t, 0) else if tryG f ≥ 3 then (tryG f, t + tryM f, t, 1) else (tryG f, 0, t, 1)
theorem pow20 : ∀ n : Nat, n ≤ 20 → (1 : Int) ≤ 2 ^ n ∧ (2 : Int) ^ n ≤ 1048576 := by
  intro n hn
  have : ∀ n : Fin 21, (1 : Int) ≤ 2 ^ n.val ∧ (2 : Int) ^ n.val ≤ 1048576 := by decide
  exact this ⟨n, by omega⟩
theorem mn_le (a b : Int) : mn a b ≤ a ∧ mn a b ≤ b ∧ (mn a b = a ∨ mn a b = b) := by unfold mn; split <;> omega
theorem tryM_range {f : Int} (h0 : 0 ≤ f) (h : tryG f ≥ 3) : 0 ≤ mn (tryG f - 3) 20 ∧ mn (tryG f - 3) 20 ≤ 20 ∧ 1 ≤ tryM f ∧ tryM f ≤ 3600 ∧ (1 : Int) ≤ 2 ^ (mn (tryG f - 3) 20).toNat ∧ (2 : Int) ^ (mn (tryG f - 3) 20).toNat ≤ 1048576 := by
  have h1 := mn_le (tryG f - 3) 20
  have h2 := pow20 (mn (tryG f - 3) 20).toNat (by omega)
  have h3 := mn_le 3600 (10 * 2 ^ (mn (tryG f - 3) 20).toNat)
  refine ⟨by omega, by omega, ?_, ?_, h2.1, h2.2⟩
  · unfold tryM; omega
  · unfold tryM; omega
theorem tryG_range {f : Int} (h0 : 0 ≤ f) : 1 ≤ tryG f ∧ tryG f ≤ 1000000 := by
  have := mn_le (f + 1) 1000000
  unfold tryG; omega
theorem implTry_eq (f u l t : Int) (r : Bool) (k : Nat) (hk : 1 ≤ k) : impl_TryOnce.f k f u l t r = some (tryL f u l t r) := by
  obtain ⟨k, rfl⟩ : ∃ m, k = m + 1 := ⟨k - 1, by omega⟩
  have bad : tryBad f u l t → impl_TryOnce.j0 (k + 1) t r true f u l = some (tryL f u l t r) := fun h => by
    simp only [impl_TryOnce.j0, if_true, tryL, if_pos h]
  unfold impl_TryOnce.f
  by_cases hb : tryBad f u l t
  · have b1 := bad hb
    have hb' := hb
    unfold tryBad at hb
    repeat (split; exact b1)
    rw [decide_eq_true (by omega)]
    exact b1
  · have hb' := hb
    unfold tryBad at hb
    rw [if_neg (by omega), if_neg (by omega), if_neg (by omega), if_neg (by omega), if_neg (by omega), if_neg (by omega), if_neg (by omega), decide_eq_false (by omega)]
    simp only [impl_TryOnce.j0, tryL, if_neg hb', Bool.false_eq_true, if_false]
    have e1 : wrap64 (f + 1) = f + 1 := w64 (by omega) (by omega)
    rw [e1]
    change (if t < u then _ else if r = true then _ else if tryG f ≥ 3 then (if 0 ≤ mn (wrap64 (tryG f - 3)) 20 then some (tryG f, wrap64 (t + mn 3600 (wrap64 (10 * 2 ^ (mn (wrap64 (tryG f - 3)) 20).toNat))), t, 1) else none) else some (tryG f, 0, t, 1)) = _
    have hg := tryG_range (f := f) (by omega)
    by_cases h1 : t < u
    · simp only [if_pos h1]
    · simp only [if_neg h1]
      by_cases h2 : r = true
      · simp only [if_pos h2]
      · simp only [if_neg h2]
        by_cases h3 : tryG f ≥ 3
        · obtain ⟨m0, m1, m2, m3, m4, m5⟩ := tryM_range (f := f) (by omega) h3
          have e2 : wrap64 (tryG f - 3) = tryG f - 3 := w64 (by omega) (by omega)
          rw [if_pos h3, if_pos h3, e2, if_pos m0, w64 (n := 10 * 2 ^ (mn (tryG f - 3) 20).toNat) (by omega) (by omega)]
          change some (tryG f, wrap64 (t + tryM f), t, 1) = _
          rw [w64 (by omega) (by omega)]
        · rw [if_neg h3, if_neg h3]
theorem lesser_eq (a b : Int) : spec_l15Lesser.f a b = some (mn a b) := by
  unfold spec_l15Lesser.f mn
  by_cases h : a < b
  · rw [if_pos h, if_neg (by omega)]
  · rw [if_neg h]
    by_cases h2 : b < a
    · rw [if_pos h2]
    · rw [if_neg h2, show a = b by omega]
theorem pow2_l0 (n : Nat) (hn : n ≤ 20) (d : Nat) : ∀ (k i : Nat), i + d = n → d < k → spec_l1Pow2.l0 k n (2 ^ i) i = some (2 ^ n) := by
  induction d with
  | zero =>
    intro k i hi hk
    obtain ⟨k, rfl⟩ : ∃ m, k = m + 1 := ⟨k - 1, by omega⟩
    obtain rfl : i = n := by omega
    simp only [spec_l1Pow2.l0, if_neg (show ¬ ((i : Int) < i) by omega)]
  | succ d ih =>
    intro k i hi hk
    obtain ⟨k, rfl⟩ : ∃ m, k = m + 1 := ⟨k - 1, by omega⟩
    have hp := pow20 i (by omega)
    have e1 : wrap64 ((2 : Int) ^ i * 2) = 2 ^ (i + 1) := by rw [w64 (by omega) (by omega)]; rfl
    have e2 : wrap64 ((i : Int) + 1) = ((i + 1 : Nat) : Int) := by rw [w64 (by omega) (by omega)]; rfl
    simp only [spec_l1Pow2.l0, if_pos (show ((i : Int) < n) by omega), e1, e2]
    exact ih k (i + 1) (by omega) (by omega)
theorem pow2_eq (n : Int) (h0 : 0 ≤ n) (h1 : n ≤ 20) (k : Nat) (hk : 21 ≤ k) : spec_l1Pow2.f k n = some (2 ^ n.toNat) := by
  have := pow2_l0 n.toNat (by omega) n.toNat k 0 (by omega) (by omega)
  rw [show ((n.toNat : Nat) : Int) = n by omega] at this
  exact this
theorem specTry_eq (f u l t : Int) (r : Bool) (k : Nat) (hk : 30 ≤ k) : spec_TryOnce.f k f u l t r = some (tryL f u l t r) := by
  obtain ⟨k, rfl⟩ : ∃ m, k = m + 1 := ⟨k - 1, by omega⟩
  have bad : tryBad f u l t → spec_TryOnce.j0 (k + 1) t r true f u l = some (tryL f u l t r) := fun h => by
    simp only [spec_TryOnce.j0, if_true, tryL, if_pos h]
  unfold spec_TryOnce.f
  by_cases hb : tryBad f u l t
  · have b1 := bad hb
    unfold tryBad at hb
    repeat (split; exact b1)
    rw [decide_eq_true (by omega)]
    exact b1
  · have hb' := hb
    unfold tryBad at hb
    rw [if_neg (by omega), if_neg (by omega), if_neg (by omega), if_neg (by omega), if_neg (by omega), if_neg (by omega), if_neg (by omega), decide_eq_false (by omega)]
    simp only [spec_TryOnce.j0, tryL, if_neg hb', Bool.false_eq_true, if_false, lesser_eq, Option.bind_some]
    have e1 : wrap64 (f + 1) = f + 1 := w64 (by omega) (by omega)
    rw [e1]
    change (if t < u then _ else if r = true then _ else if tryG f ≥ 3 then ((spec_l1Pow2.f k (mn (wrap64 (tryG f - 3)) 20)).bind fun t106 => some (tryG f, wrap64 (t + mn 3600 (wrap64 (10 * t106))), t, 1)) else some (tryG f, 0, t, 1)) = _
    have hg := tryG_range (f := f) (by omega)
    by_cases h1 : t < u
    · simp only [if_pos h1]
    · simp only [if_neg h1]
      by_cases h2 : r = true
      · simp only [if_pos h2]
      · simp only [if_neg h2]
        by_cases h3 : tryG f ≥ 3
        · obtain ⟨m0, m1, m2, m3, m4, m5⟩ := tryM_range (f := f) (by omega) h3
          have e2 : wrap64 (tryG f - 3) = tryG f - 3 := w64 (by omega) (by omega)
          rw [if_pos h3, if_pos h3, e2, pow2_eq _ m0 m1 k (by omega)]
          simp only [Option.bind_some]
          rw [w64 (n := 10 * 2 ^ (mn (tryG f - 3) 20).toNat) (by omega) (by omega)]
          change some (tryG f, wrap64 (t + tryM f), t, 1) = _
          rw [w64 (by omega) (by omega)]
        · rw [if_neg h3, if_neg h3]
theorem try_cases (f u l t : Int) (r : Bool) : tryL f u l t r = (0, 0, 0, -1) ∨ tryL f u l t r = (f, u, l, 2) ∨ (r = true ∧ tryL f u l t r = (0, 0, t, 0)) ∨
    (∃ g m, tryL f u l t r = (g, m, t, 1) ∧ (g ≥ 3 → tryL g m t t true = (g, m, t, 2))) := by
  by_cases hb : tryBad f u l t
  · exact .inl (by simp only [tryL, if_pos hb])
  · by_cases h1 : t < u
    · exact .inr (.inl (by simp only [tryL, if_neg hb, if_pos h1]))
    · by_cases h2 : r = true
      · exact .inr (.inr (.inl ⟨h2, by simp only [tryL, if_neg hb, if_neg h1, if_pos h2]⟩))
      · have hb' := hb
        unfold tryBad at hb
        have hg := tryG_range (f := f) (by omega)
        by_cases h3 : tryG f ≥ 3
        · obtain ⟨m0, m1, m2, m3, m4, m5⟩ := tryM_range (f := f) (by omega) h3
          refine .inr (.inr (.inr ⟨tryG f, t + tryM f, by simp only [tryL, if_neg hb', if_neg h1, if_neg h2, if_pos h3], fun _ => ?_⟩))
          have hn : ¬ tryBad (tryG f) (t + tryM f) t t := by unfold tryBad; omega
          simp only [tryL, if_neg hn, if_pos (show t < t + tryM f by omega)]
        · refine .inr (.inr (.inr ⟨tryG f, 0, by simp only [tryL, if_neg hb', if_neg h1, if_neg h2, if_neg h3], fun h => absurd h h3⟩))
def runL : List S70 → Int → Int → Int → List Int
  | [], _, _, _ => []
  | x :: xs, f, u, l => (tryL f u l x.f0 x.f1).2.2.2 :: (if (tryL f u l x.f0 x.f1).2.2.2 ≥ 0 then runL xs (tryL f u l x.f0 x.f1).1 (tryL f u l x.f0 x.f1).2.1 (tryL f u l x.f0 x.f1).2.2.1 else runL xs f u l)
theorem runL_len : ∀ (xs : List S70) (f u l : Int), (runL xs f u l).length = xs.length
  | [], _, _, _ => rfl
  | x :: xs, f, u, l => by
    unfold runL
    split <;> simp [runL_len xs]
theorem drop_T {xs : List S70} {i : Nat} (h : i < xs.length) : xs.drop i = rd_T70 xs i :: xs.drop (i + 1) := by
  rw [List.drop_eq_getElem_cons h]; simp [rd_T70, List.getD_eq_getElem?_getD, List.getElem?_eq_getElem h]
theorem implRun_l0 (xs : List S70) (hx : xs.length ≤ 1000) (d : Nat) : ∀ (k i : Nat) (out : List Int) (f u l : Int), i + d = xs.length → out.length = i → d + 40 ≤ k → impl_RunTries.l0 k out xs (xs.length : Int) i f u l = some (out ++ runL (xs.drop i) f u l) := by
  induction d with
  | zero =>
    intro k i out f u l hi ho hk
    obtain ⟨k, rfl⟩ : ∃ m, k = m + 1 := ⟨k - 1, by omega⟩
    simp only [impl_RunTries.l0, if_neg (show ¬ ((i : Int) < xs.length) by omega), List.drop_eq_nil_of_le (show xs.length ≤ i by omega), runL, List.append_nil]
  | succ d ih =>
    intro k i out f u l hi ho hk
    obtain ⟨k, rfl⟩ : ∃ m, k = m + 1 := ⟨k - 1, by omega⟩
    have e2 : wrap64 ((i : Int) + 1) = ((i + 1 : Nat) : Int) := by rw [w64 (by omega) (by omega)]; rfl
    simp only [impl_RunTries.l0, if_pos (show ((i : Int) < xs.length) by omega), if_pos (show (0 : Int) ≤ i by omega), implTry_eq _ _ _ _ _ k (by omega), Option.bind_some, e2, if_pos (show out.length < 17592186044416 by omega)]
    rw [drop_T (show i < xs.length by omega)]
    simp only [runL]
    split
    · rw [ih k (i + 1) _ _ _ _ (by omega) (by simp [ho]) (by omega)]; simp
    · rw [ih k (i + 1) _ _ _ _ (by omega) (by simp [ho]) (by omega)]; simp
theorem specRun_l0 (xs : List S70) (hx : xs.length ≤ 1000) (d : Nat) : ∀ (k i : Nat) (out : List Int) (f u l : Int), i + d = xs.length → out.length = i → d + 40 ≤ k → spec_RunTries.l0 k out xs (xs.length : Int) i f u l = some (out ++ runL (xs.drop i) f u l) := by
  induction d with
  | zero =>
    intro k i out f u l hi ho hk
    obtain ⟨k, rfl⟩ : ∃ m, k = m + 1 := ⟨k - 1, by omega⟩
    simp only [spec_RunTries.l0, if_neg (show ¬ ((i : Int) < xs.length) by omega), List.drop_eq_nil_of_le (show xs.length ≤ i by omega), runL, List.append_nil]
  | succ d ih =>
    intro k i out f u l hi ho hk
    obtain ⟨k, rfl⟩ : ∃ m, k = m + 1 := ⟨k - 1, by omega⟩
    have e2 : wrap64 ((i : Int) + 1) = ((i + 1 : Nat) : Int) := by rw [w64 (by omega) (by omega)]; rfl
    simp only [spec_RunTries.l0, if_pos (show ((i : Int) < xs.length) by omega), if_pos (show (0 : Int) ≤ i by omega), specTry_eq _ _ _ _ _ k (by omega), Option.bind_some, e2, if_pos (show out.length < 17592186044416 by omega)]
    rw [drop_T (show i < xs.length by omega)]
    simp only [runL]
    split
    · rw [ih k (i + 1) _ _ _ _ (by omega) (by simp [ho]) (by omega)]; simp
    · rw [ih k (i + 1) _ _ _ _ (by omega) (by simp [ho]) (by omega)]; simp
theorem implRun_ev (xs : List S70) (hx : xs.length ≤ 1000) : Ev (fun k => impl_RunTries.f k xs) (runL xs 0 0 0) :=
  ⟨xs.length + 40, fun k hk => by
    show impl_RunTries.f k xs = _
    unfold impl_RunTries.f
    rw [if_neg (by omega)]
    exact implRun_l0 xs hx xs.length k 0 [] 0 0 0 (by omega) rfl hk⟩
theorem specRun_ev (xs : List S70) (hx : xs.length ≤ 1000) : Ev (fun k => spec_RunTries.f k xs) (runL xs 0 0 0) :=
  ⟨xs.length + 40, fun k hk => by
    show spec_RunTries.f k xs = _
    unfold spec_RunTries.f
    rw [if_neg (by omega)]
    exact specRun_l0 xs hx xs.length k 0 [] 0 0 0 (by omega) rfl hk⟩
theorem drawTries_l0 (s : List Int) (hs : okL okB s) (d : Nat) : ∀ (k : Nat) (x4 : List S70) (x5 p h : Int), d < k → 0 ≤ p → p + 6 * d ≤ 900000000000 → x4.length + d ≤ 1000 → ∃ L : List S70, L.length = x4.length + d ∧ spec_DrawRunTries.l0 k x4 x5 d s p h = some L := by
  induction d with
  | zero =>
    intro k x4 x5 p h hk h0 h1 hl
    obtain ⟨k, rfl⟩ : ∃ m, k = m + 1 := ⟨k - 1, by omega⟩
    exact ⟨x4, rfl, by simp only [spec_DrawRunTries.l0, if_neg (show ¬ (((0 : Nat) : Int) > 0) by omega)]⟩
  | succ d ih =>
    intro k x4 x5 p h hk h0 h1 hl
    obtain ⟨k, rfl⟩ : ∃ m, k = m + 1 := ⟨k - 1, by omega⟩
    obtain ⟨v, p1, h1', e1, _, _, g1, g1'⟩ := cur_pick s hs p h 40 h0 (by omega)
    obtain ⟨b2, p2, h2', e2, g2, g2'⟩ := cur_one s hs p1 h1' 20 (by omega) (by omega)
    obtain ⟨b3, p3, h3', e3, g3, g3'⟩ := cur_one s hs p2 h2' 6 (by omega) (by omega)
    have ed : wrap64 (((d + 1 : Nat) : Int) - 1) = (d : Int) := by rw [w64 (by omega) (by omega)]; omega
    simp only [spec_DrawRunTries.l0, if_pos (show (((d + 1 : Nat) : Int) > 0) by omega), e1, e2, e3, Option.bind_some, if_pos (show x4.length < 8796093022208 by omega), ed]
    split
    · obtain ⟨L, hL, eL⟩ := ih k (x4 ++ [(⟨wrap64 ((wrap64 (x5 + v)) - 60), b3⟩ : S70)]) (wrap64 ((wrap64 (x5 + v)) - 60)) p3 h3' (by omega) (by omega) (by omega) (by rw [List.length_append]; simp only [List.length_singleton]; omega)
      exact ⟨L, by rw [hL, List.length_append]; simp only [List.length_singleton]; omega, eL⟩
    · obtain ⟨L, hL, eL⟩ := ih k (x4 ++ [(⟨wrap64 (x5 + v), b3⟩ : S70)]) (wrap64 (x5 + v)) p3 h3' (by omega) (by omega) (by omega) (by rw [List.length_append]; simp only [List.length_singleton]; omega)
      exact ⟨L, by rw [hL, List.length_append]; simp only [List.length_singleton]; omega, eL⟩
theorem drawTries_ev (s : List Int) (hs : okL okB s) : ∃ L : List S70, L.length ≤ 50 ∧ Ev (fun k => spec_DrawRunTries.f k s) L := by
  obtain ⟨t, ht0, ht1, et⟩ : ∃ t : Int, 0 ≤ t ∧ t ≤ 30 ∧ spec_l1Many.f s 10 30 = some t := by
    have hl := hs.1
    unfold spec_l1Many.f
    rw [if_neg (by omega), w64 (by omega) (by omega)]
    split
    · exact ⟨30, by omega, by omega, rfl⟩
    · exact ⟨_, by omega, by omega, rfl⟩
  obtain ⟨v, p1, h1, e1, v0, v1, g1, g1'⟩ := cur_pick s hs 0 0 (12 + t) (by omega) (by omega)
  obtain ⟨n, rfl⟩ : ∃ n : Nat, v = n := ⟨v.toNat, by omega⟩
  obtain ⟨L, hL, eL⟩ := drawTries_l0 s hs n 60 [] 0 p1 h1 (by omega) (by omega) (by omega) (by simp; omega)
  refine ⟨L, by rw [hL]; simp; omega, 60, fun k hk => ?_⟩
  obtain ⟨L2, hL2, eL2⟩ := drawTries_l0 s hs n k [] 0 p1 h1 (by omega) (by omega) (by omega) (by simp; omega)
  have : L = L2 := by
    obtain ⟨j, rfl⟩ : ∃ j, k = 60 + j := ⟨k - 60, by omega⟩
    have hm : ∀ j, spec_DrawRunTries.l0 (60 + j) [] 0 n s p1 h1 = some L := by
      intro j
      induction j with
      | zero => exact eL
      | succ j ih => exact spec_DrawRunTries.mono_l _ _ _ _ _ _ _ _ ih
    rw [hm j] at eL2
    exact Option.some.inj eL2
  show spec_DrawRunTries.f k s = some L
  unfold spec_DrawRunTries.f
  simp only [newCur.f, Option.bind_some, et, w64 (show -9223372036854775808 ≤ 12 + t by omega) (show 12 + t ≤ 9223372036854775807 by omega), e1]
  rw [this]
  exact eL2
end Go.Proofs.Ytgolcojhnklfdaa.Pr
/- The law FnThrottled, its plain part. -/
namespace Go.Proofs.Ytgolcojhnklfdaa.Pure
open Go.RowKit Go.Proofs.Ytgolcojhnklfdaa.Read Go.Proofs.YtgolcojhnklfdaaW.PrintWords Go.Proofs.Ytgolcojhnklfdaa.Pr
theorem drop_rd0 {l : List Int} {i : Nat} (h : i < l.length) : l.drop i = rd l i :: l.drop (i + 1) := by rw [List.drop_eq_getElem_cons h, rd_nat h]
theorem zInts_l0 (a : List Int) (ha : a.length ≤ 1000000) (d : Nat) : ∀ (k i : Nat), i + d = a.length → d < k → laws_zInts.l0 k a a (a.length : Int) i = some true := by
  induction d with
  | zero =>
    intro k i hi hk
    obtain ⟨k, rfl⟩ : ∃ m, k = m + 1 := ⟨k - 1, by omega⟩
    simp only [laws_zInts.l0, if_neg (show ¬ ((i : Int) < a.length) by omega)]
  | succ d ih =>
    intro k i hi hk
    obtain ⟨k, rfl⟩ : ∃ m, k = m + 1 := ⟨k - 1, by omega⟩
    have e2 : wrap64 ((i : Int) + 1) = ((i + 1 : Nat) : Int) := by rw [w64 (by omega) (by omega)]; rfl
    simp only [laws_zInts.l0, if_pos (show ((i : Int) < a.length) by omega), if_pos (show (0 : Int) ≤ i by omega), if_true, e2]
    exact ih k (i + 1) (by omega) (by omega)
theorem zInts_ev (a : List Int) (ha : a.length ≤ 1000000) : Ev (fun k => laws_zInts.f k a a) true :=
  ⟨a.length + 1, fun k hk => by
    show laws_zInts.f k a a = _
    unfold laws_zInts.f
    rw [if_pos rfl]
    exact zInts_l0 a ha a.length k 0 (by omega) (by omega)⟩
theorem thr_l0 (xs : List S70) (hx : xs.length ≤ 1000) (out : List Int) (hl : out.length = xs.length) (d : Nat) : ∀ (k i : Nat) (f u l : Int), i + d = xs.length → out.drop i = runL (xs.drop i) f u l → d + 40 ≤ k → laws_FnThrottled.l0 k out xs (xs.length : Int) i f u l = some true := by
  induction d with
  | zero =>
    intro k i f u l hi ho hk
    obtain ⟨k, rfl⟩ : ∃ m, k = m + 1 := ⟨k - 1, by omega⟩
    simp only [laws_FnThrottled.l0, if_neg (show ¬ ((i : Int) < xs.length) by omega)]
  | succ d ih =>
    intro k i f u l hi ho hk
    obtain ⟨k, rfl⟩ : ∃ m, k = m + 1 := ⟨k - 1, by omega⟩
    have e2 : wrap64 ((i : Int) + 1) = ((i + 1 : Nat) : Int) := by rw [w64 (by omega) (by omega)]; rfl
    rw [drop_rd0 (show i < out.length by omega), drop_T (show i < xs.length by omega)] at ho
    simp only [runL, List.cons.injEq] at ho
    obtain ⟨hr, ho⟩ := ho
    simp only [laws_FnThrottled.l0, if_pos (show ((i : Int) < xs.length) by omega), if_pos (show ((i : Int) < out.length) by omega), if_pos (show (0 : Int) ≤ i by omega), implTry_eq _ _ _ _ _ k (show 1 ≤ k by omega), Option.bind_some, e2, hr, if_true]
    rcases try_cases f u l (rd_T70 xs i).f0 (rd_T70 xs i).f1 with e | e | ⟨er, e⟩ | ⟨g, m, e, em⟩
    · rw [e] at ho ⊢
      simp only [show ¬ ((-1 : Int) ≥ 0) by omega, if_false] at ho
      simp only [show ((-1 : Int) < 0) by omega, if_true]
      exact ih k (i + 1) _ _ _ (by omega) ho (by omega)
    · rw [e] at ho ⊢
      simp only [show ((2 : Int) ≥ 0) by omega, if_true] at ho
      simp only [show ¬ ((2 : Int) < 0) by omega, show ¬ ((2 : Int) = 1) by omega, show ¬ ((2 : Int) = 0) by omega, if_false]
      exact ih k (i + 1) _ _ _ (by omega) ho (by omega)
    · rw [e] at ho ⊢
      simp only [show ((0 : Int) ≥ 0) by omega, if_true] at ho
      simp only [show ¬ ((0 : Int) < 0) by omega, show ¬ ((0 : Int) = 1) by omega, if_false, if_true, er]
      exact ih k (i + 1) _ _ _ (by omega) ho (by omega)
    · rw [e] at ho ⊢
      simp only [show ((1 : Int) ≥ 0) by omega, if_true] at ho
      simp only [show ¬ ((1 : Int) < 0) by omega, show ¬ ((1 : Int) = 0) by omega, if_false, if_true]
      by_cases h3 : g ≥ 3
      · simp only [if_pos h3, em h3, if_true]
        exact ih k (i + 1) _ _ _ (by omega) ho (by omega)
      · simp only [if_neg h3]
        exact ih k (i + 1) _ _ _ (by omega) ho (by omega)
theorem FnThrottled : laws_FnThrottled.Pure := by
  intro code hc
  by_cases hbig : (code.length : Int) > 1048576
  · exact ⟨0, by simp only [laws_FnThrottled.f, if_pos hbig]⟩
  obtain ⟨L, hL, hev⟩ := drawTries_ev code hc
  apply Ev.rounds
  simp only [laws_FnThrottled.f, if_neg hbig]
  refine Ev.bind hev ?_
  refine Ev.bind (implRun_ev L (by omega)) ?_
  refine Ev.bind (specRun_ev L (by omega)) ?_
  refine Ev.bind (zInts_ev _ (by rw [runL_len]; omega)) ?_
  simp only [if_true]
  exact ⟨L.length + 40, fun k hk => thr_l0 L (by omega) _ (runL_len _ _ _ _) L.length k 0 0 0 0 (by omega) rfl hk⟩
end Go.Proofs.Ytgolcojhnklfdaa.Pure
/- The law FnThrottled: whatever the input, the call returns true and the arguments read as before. No conditions. -/
namespace Go.Proofs.Ytgolcojhnklfdaa.fnThrottled
open Go.ChangeShapes Go.WideShapes Go.ChangeAt Go.RowKit Go.Proofs.Ytgolcojhnklfdaa.Read Go.Proofs.YtgolcojhnklfdaaW.PrintWords Go.Proofs.Ytgolcojhnklfdaa.Pr
open Go.ChangeMaps (open_string shut_string)
set_option linter.unusedVariables false
theorem own : ownKnob Try.prog.godebug = none := by kernel_rfl
theorem laidOut : laidOutB Try.prog = true := by kernel_rfl
set_option maxRecDepth 100000 in
theorem lifted (os : Os) (started : os.Started) (H : Type) (enc : TypeId × Value → H) :
    ReturnsInHanded {} Try.checked os 6 .any (Rows.fnThrottledSpec.pre6 enc Try.prog Try.f6 Rows.fnThrottledRow.domain false) (Rows.fnThrottledSpec.post enc Try.prog Try.f6 false true false false) := by
  refine returnsInHanded_of_change (C := Try.checked) own started (by kernel_rfl) Try.func6
    (ChangeSpec.witness6 (enc := enc) (C := Try.checked) false ⟨#[], #[.slice none 0 0], []⟩ 8 (by kernel_rfl) (by kernel_rfl) (by kernel_rfl) (by kernel_rfl)) ?_
  intro W base args ds gs before hval0 hW hcnd _
  have hval : ∀ (j : Nat) t v, Try.f6.params[j]? = some t → args[j]? = some v → Value.okWide Try.prog W .any base t v := hval0
  have hW' := hW
  obtain ⟨p, q, hA0, hV, rfl, hfz, hnd⟩ := hW
  have hA : DataW.TrodAll enc Try.prog W 0 (fun _ => true) true Try.f6.params.toList args.toList ds p := hA0
  rw [Try.params6] at hA hval
  obtain ⟨v0, vs0, d0, ds0, p0, q0, hargs, rfl, rfl, h0, r0⟩ := trodAll_cons hA
  obtain ⟨rfl, rfl, rfl⟩ := trodAll_nil r0
  obtain rfl : args = #[v0] := by cases args; simp_all
  obtain ⟨rfl, rfl⟩ := trodVars_none hV
  have lt0 : ∀ x ∈ p0, x.block < W.heap.size := by obtain ⟨m, hm⟩ := h0; exact DataW.trod_lt m _ _ _ hm
  have bk0 := fun {W' : World} (bel : Below W.heap.size W W') => Below.trod laidOut (by kernel_rfl) (of_decide_eq_true (by kernel_rfl)) h0 bel lt0
  obtain ⟨A0, c0, l0, rfl, hl0, hC0, o0⟩ := arg_slice Try.underlying26 (tellsL Try.underlying26 (by kernel_rfl) (tellsB Try.underlying5 (by kernel_rfl))) (hval 0 26 v0 rfl rfl) h0
  obtain ⟨k, hk⟩ := Pure.FnThrottled l0 o0
  refine (laws_FnThrottled.calls k _ _ l0 true W hC0 hl0 hk).mono fun e W' hpost => ?_
  obtain ⟨he, hb⟩ := hpost
  have bel : Below W.heap.size W W' := hb
  subst he
  exact ⟨_, rfl, _, _, _, [], _, [], hW', trodAll_mk1 (shut_bool Try.underlying4 _), (trodAll_cons_mk (bk0 bel) trodAll_mk0), rfl, bel.frame _, fun h => by cases h⟩
theorem over : Rows.fnThrottledRow.holds Try.pinned (OpenSpec.ofChange Rows.fnThrottledSpec) :=
  OpenClaim.holds_of_wide 6 Try.f6 rfl rfl rfl rfl rfl rfl rfl ⟨rfl, rfl, rfl, rfl, rfl⟩ rfl rfl rfl rfl rfl (by kernel_rfl) Try.func6 (by kernel_rfl)
    (of_decide_eq_true (by kernel_rfl)) (by unfold Func.isWrapper; first | (rw [if_pos (by decide +kernel)]; kernel_rfl) | (rw [if_neg (by decide +kernel)]; exact ⟨rfl, rfl⟩))
    (fun os started H enc _ => lifted os started H enc)
theorem proved : Rows.FnThrottledSaid := over
#print axioms proved
end Go.Proofs.Ytgolcojhnklfdaa.fnThrottled
namespace Go.Proofs.Ytgolcojhnklfdaa
/-- The row, under a short name, for the claim. -/
theorem fnThrottled_holds : Rows.FnThrottledSaid := fnThrottled.proved
end Go.Proofs.Ytgolcojhnklfdaa
