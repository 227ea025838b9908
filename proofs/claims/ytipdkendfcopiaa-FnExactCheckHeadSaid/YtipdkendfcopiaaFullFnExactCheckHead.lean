/- The law FnExactCheckHead: whatever the input, the call returns true and the arguments read as before. No conditions. -/
import Derived.Test.YtipdkendfcopiaaRead
import Derived.Test.YtipdkendfcopiaaPr12
import Derived.Test.YtipdkendfcopiaaPrgByteS
import Derived.Test.YtipdkendfcopiaaPr127
import Derived.Test.YtipdkendfcopiaaPr110
import Derived.Test.YtipdkendfcopiaaHdigest
import Derived.Test.YtipdkendfcopiaaPrgS2
import Derived.Test.YtipdkendfcopiaaPr130
import Derived.Test.YtipdkendfcopiaaPr128
import Derived.Test.YtipdkendfcopiaaPr100
import Derived.Test.YtipdkendfcopiaaPr129
import Derived.Test.YtipdkendfcopiaaPr126
import Derived.Test.YtipdkendfcopiaaPr97
import Derived.Test.YtipdkendfcopiaaRows
import Derived.WalkKit
import Derived.ProofKit
import Derived.OpenShut
import Derived.ShutString
import Derived.ChangeOld
import Derived.Below
/- The pure statement of the law FnExactCheckHead. -/
namespace Go.Proofs.Ytipdkendfcopiaa.Pr
open Go.RowKit Go.Proofs.Ytipdkendfcopiaa.Read Go.Proofs.YtipdkendfcopiaaW.PrintWords
set_option linter.unusedVariables false
/-- What is left of the law FnExactCheckHead: a statement about numbers and lists. -/
def laws_FnExactCheckHead.Pure : Prop := ∀ (a0 : Int) (a1_0 : Int) (l1_1 : (List Int)) (a1_2 : Int) (a1_3 : Int), okI a0 → okI a1_0 → (okL okB) l1_1 → okI a1_2 → okI a1_3 → ∃ k, laws_FnExactCheckHead.f k a0 a1_0 l1_1 a1_2 a1_3 = some true
end Go.Proofs.Ytipdkendfcopiaa.Pr
/- The helpers over slices of bytes: copied, compared, marked, held: plain facts. -/
namespace Go.Proofs.Ytipdkendfcopiaa.Pr
open Go.RowKit Go.Proofs.Ytipdkendfcopiaa.Read Go.Proofs.YtipdkendfcopiaaW.PrintWords

theorem w64 {n : Int} (h0 : -9223372036854775808 ≤ n) (h1 : n ≤ 9223372036854775807) : wrap64 n = n := by unfold wrap64; omega
theorem rd_nat {l : List Int} {i : Nat} (h : i < l.length) : rd l (i : Int) = l[i] := by
  simp [rd, List.getD_eq_getElem?_getD, List.getElem?_eq_getElem h]
theorem list_rd_ext {a b : List Int} (hl : a.length = b.length) (h : ∀ i : Nat, i < a.length → rd a i = rd b i) : a = b := by
  apply List.ext_getElem hl
  intro i h1 h2
  have := h i h1
  rwa [rd_nat h1, rd_nat h2] at this

theorem szByteS_eq (l : List Int) (n : Int) : laws_szByteS.f l n = some (if wrap64 (n - l.length) < 0 then -1 else wrap64 (n - l.length)) := by
  unfold laws_szByteS.f; split <;> rfl

theorem toByteS_l0 (x0 : List Int) (hl : x0.length ≤ 281474976710656) (d : Nat) : ∀ (k i : Nat) (x3 : List Int), x0.length - i = d → i ≤ x0.length → x3.length = x0.length → d < k → laws_toByteS.l0 k x0 x3 i = some (x3.take i ++ x0.drop i) := by
  induction d with
  | zero =>
    intro k i x3 hd hi h3 hk
    obtain ⟨k, rfl⟩ : ∃ m, k = m + 1 := ⟨k - 1, by omega⟩
    simp only [laws_toByteS.l0]
    rw [if_neg (by omega), List.take_of_length_le (by omega), List.drop_of_length_le (by omega), List.append_nil]
  | succ d ih =>
    intro k i x3 hd hi h3 hk
    obtain ⟨k, rfl⟩ : ∃ m, k = m + 1 := ⟨k - 1, by omega⟩
    simp only [laws_toByteS.l0]
    rw [if_pos (by omega), if_pos (by omega), if_pos (by omega), w64 (by omega) (by omega)]
    have e := ih k (i + 1) (x3.set i (rd x0 i)) (by omega) (by omega) (by simpa using h3) (by omega)
    rw [Int.toNat_natCast]
    rw [show ((i : Int) + 1) = ((i + 1 : Nat) : Int) from rfl, e]
    congr 1
    have hlt : i < x0.length := by omega
    rw [List.take_succ_eq_append_getElem (by simp; omega), List.getElem_set_self, List.take_set_of_le (by omega), rd_nat hlt, List.append_assoc, List.singleton_append, ← List.drop_eq_getElem_cons hlt]
theorem toByteS_ev (l : List Int) (hl : l.length ≤ 281474976710656) : Ev (fun k => laws_toByteS.f k l) l :=
  ⟨l.length + 1, fun k hk => by
    show laws_toByteS.f k l = some l
    unfold laws_toByteS.f
    rw [if_pos (by omega), if_pos (by omega)]
    have := toByteS_l0 l hl l.length k 0 (List.replicate ((l.length : Int)).toNat 0) (by omega) (by omega) (by simp) (by omega)
    simpa using this⟩

theorem eqByteS_l0 (x0 x1 : List Int) (hl : x0.length = x1.length) (hm : x0.length ≤ 281474976710656) (d : Nat) : ∀ (k i : Nat), x0.length - i = d → i ≤ x0.length → d < k → laws_eqByteS.l0 k x0 x1 i = some (decide (x0.drop i = x1.drop i)) := by
  induction d with
  | zero =>
    intro k i hd hi hk
    obtain ⟨k, rfl⟩ : ∃ m, k = m + 1 := ⟨k - 1, by omega⟩
    simp only [laws_eqByteS.l0]
    rw [if_neg (by omega), List.drop_of_length_le (by omega), List.drop_of_length_le (by omega)]; simp
  | succ d ih =>
    intro k i hd hi hk
    obtain ⟨k, rfl⟩ : ∃ m, k = m + 1 := ⟨k - 1, by omega⟩
    simp only [laws_eqByteS.l0]
    have h0 : i < x0.length := by omega
    have h1 : i < x1.length := by omega
    rw [if_pos (by omega), if_pos (by omega), if_pos (by omega), w64 (by omega) (by omega), rd_nat h0, rd_nat h1, List.drop_eq_getElem_cons h0, List.drop_eq_getElem_cons h1]
    have e := ih k (i + 1) (by omega) (by omega) (by omega)
    rw [show ((i : Int) + 1) = ((i + 1 : Nat) : Int) from rfl, e]
    by_cases hx : x0[i] = x1[i]
    · rw [if_pos hx]; congr 1; rw [decide_eq_decide, hx, List.cons.injEq]; exact ⟨fun h => ⟨rfl, h⟩, fun h => h.2⟩
    · rw [if_neg hx]; congr 1; symm; rw [decide_eq_false_iff_not, List.cons.injEq]; exact fun h => hx h.1
theorem eqByteS_ev (a b : List Int) (hl : a.length ≤ 281474976710656) : Ev (fun k => laws_eqByteS.f k a b) (decide (a = b)) :=
  ⟨a.length + 1, fun k hk => by
    show laws_eqByteS.f k a b = _
    unfold laws_eqByteS.f
    by_cases h : a.length = b.length
    · rw [if_pos (by omega)]
      have := eqByteS_l0 a b h hl a.length k 0 (by omega) (by omega) (by omega)
      simpa using this
    · rw [if_neg (by omega)]
      have : a ≠ b := fun e => h (by rw [e])
      simp [this]⟩
theorem eqByteS_refl (a : List Int) (hl : a.length ≤ 281474976710656) : Ev (fun k => laws_eqByteS.f k a a) true := by
  have := eqByteS_ev a a hl
  simpa using this

/-- What a marked slice of n bytes holds, counted from k. -/
def markL : Nat → Int → List Int
  | 0, _ => []
  | n + 1, k => k % 256 :: markL n (k + 1)
theorem markL_len : ∀ (n : Nat) (k : Int), (markL n k).length = n
  | 0, _ => rfl
  | n + 1, k => by simp [markL, markL_len n]
theorem markByteS_l0 (d : Nat) : ∀ (k i : Nat) (c : Int) (x0 : List Int), x0.length - i = d → i ≤ x0.length → x0.length ≤ 281474976710656 → 0 ≤ c → c + d ≤ 9000000000000000000 → d < k → laws_markByteS.l0 k x0 c i = some (c + d, x0.take i ++ markL d c) := by
  induction d with
  | zero =>
    intro k i c x0 hd hi hl hc hc2 hk
    obtain ⟨k, rfl⟩ : ∃ m, k = m + 1 := ⟨k - 1, by omega⟩
    simp only [laws_markByteS.l0]
    rw [if_neg (by omega), List.take_of_length_le (by omega)]; simp [markL]
  | succ d ih =>
    intro k i c x0 hd hi hl hc hc2 hk
    obtain ⟨k, rfl⟩ : ∃ m, k = m + 1 := ⟨k - 1, by omega⟩
    simp only [laws_markByteS.l0]
    rw [if_pos (by omega), if_pos (by omega), w64 (by omega) (by omega), w64 (by omega) (by omega), Int.toNat_natCast]
    have e := ih k (i + 1) (c + 1) (x0.set i (c % 256)) (by simp; omega) (by simp; omega) (by simpa using hl) (by omega) (by omega) (by omega)
    rw [show ((i : Int) + 1) = ((i + 1 : Nat) : Int) from rfl, e]
    have hlt : i < x0.length := by omega
    rw [List.take_succ_eq_append_getElem (by simp; omega), List.getElem_set_self, List.take_set_of_le (by omega), List.append_assoc, List.singleton_append, markL]
    congr 2; omega
theorem markByteS_ev (l : List Int) (c : Int) (hl : l.length ≤ 281474976710656) (hc : 0 ≤ c) (hc2 : c ≤ 8000000000000000000) : Ev (fun k => laws_markByteS.f k l c) (c + l.length, markL l.length c) :=
  ⟨l.length + 1, fun k hk => by
    have := markByteS_l0 l.length k 0 c l (by omega) (by omega) hl hc (by omega) (by omega)
    simpa [laws_markByteS.f] using this⟩
theorem heldByteS_l0 (n : Nat) : ∀ (k i : Nat) (c : Int) (x0 : List Int), x0.drop i = markL n c → i ≤ x0.length → x0.length ≤ 281474976710656 → 0 ≤ c → c + n ≤ 9000000000000000000 → n < k → laws_heldByteS.l0 k x0 c i = some (c + n) := by
  induction n with
  | zero =>
    intro k i c x0 hd hi hl hc hc2 hk
    obtain ⟨k, rfl⟩ : ∃ m, k = m + 1 := ⟨k - 1, by omega⟩
    have hlen := congrArg List.length hd
    rw [List.length_drop, markL_len] at hlen
    simp only [laws_heldByteS.l0]
    rw [if_neg (by omega)]; simp
  | succ n ih =>
    intro k i c x0 hd hi hl hc hc2 hk
    obtain ⟨k, rfl⟩ : ∃ m, k = m + 1 := ⟨k - 1, by omega⟩
    have hlen := congrArg List.length hd
    rw [List.length_drop, markL_len] at hlen
    have hlt : i < x0.length := by omega
    rw [List.drop_eq_getElem_cons hlt, markL] at hd
    injection hd with h1 h2
    simp only [laws_heldByteS.l0]
    rw [if_pos (by omega), if_pos (by omega), rd_nat hlt, if_pos h1, w64 (by omega) (by omega), w64 (by omega) (by omega), show ((i : Int) + 1) = ((i + 1 : Nat) : Int) from rfl, ih k (i + 1) (c + 1) x0 h2 (by omega) hl (by omega) (by omega) (by omega)]
    congr 1; omega
theorem heldByteS_ev (n : Nat) (c : Int) (hl : n ≤ 281474976710656) (hc : 0 ≤ c) (hc2 : c ≤ 8000000000000000000) : Ev (fun k => laws_heldByteS.f k (markL n c) c) (c + n) :=
  ⟨n + 1, fun k hk => by
    have := heldByteS_l0 n k 0 c (markL n c) (by simp) (by omega) (by rw [markL_len]; exact hl) hc (by omega) (by omega)
    simpa [laws_heldByteS.f] using this⟩
end Go.Proofs.Ytipdkendfcopiaa.Pr
/- Powers modulo the prime: the program's (from the right) and the reference's (from the left) are one. -/
namespace Go.Proofs.Ytipdkendfcopiaa.Pr
open Go.RowKit Go.Proofs.Ytipdkendfcopiaa.Read Go.Proofs.YtipdkendfcopiaaW.PrintWords
def pwm (b : Int) (e : Nat) : Int := b ^ e % 2147483579
theorem pwm_range (b : Int) (e : Nat) : 0 ≤ pwm b e ∧ pwm b e < 2147483579 := ⟨Int.emod_nonneg _ (by omega), Int.emod_lt_of_pos _ (by omega)⟩
theorem pow_emod' (a m : Int) (n : Nat) : (a % m) ^ n % m = a ^ n % m := by
  induction n with
  | zero => simp
  | succ n ih => rw [Int.pow_succ, Int.pow_succ, Int.mul_emod, ih, Int.emod_emod, ← Int.mul_emod]
theorem pow_double (x : Int) (h : Nat) : x ^ (2 * h) = (x * x) ^ h := by
  induction h with
  | zero => simp
  | succ h ih => rw [show 2 * (h + 1) = 2 * h + 1 + 1 by omega, Int.pow_succ, Int.pow_succ, ih, Int.pow_succ, Int.mul_assoc]
theorem mulP {a b : Int} (ha : 0 ≤ a) (ha2 : a < 2147483579) (hb : 0 ≤ b) (hb2 : b < 2147483579) : 0 ≤ a * b ∧ a * b ≤ 4611685717779682084 := by
  refine ⟨Int.mul_nonneg ha hb, ?_⟩
  have := Int.mul_le_mul (show a ≤ 2147483578 by omega) (show b ≤ 2147483578 by omega) hb (by omega)
  omega
theorem mulM {a b : Int} (ha : 0 ≤ a) (ha2 : a < 2147483579) (hb : 0 ≤ b) (hb2 : b < 2147483579) : Int.tmod (wrap64 (a * b)) 2147483579 = a * b % 2147483579 := by
  have := mulP ha ha2 hb hb2
  rw [w64 (by omega) (by omega), Int.tmod_eq_emod_of_nonneg this.1]
theorem and1 (e : Nat) (he : e < 9223372036854775808) : Go.bits .and .i64 (e : Int) 1 = ((e % 2 : Nat) : Int) := by
  have h1 : (BitVec.ofInt 64 (e : Int)).toNat = e := by
    rw [BitVec.ofInt_natCast, BitVec.toNat_ofNat]; exact Nat.mod_eq_of_lt (by omega)
  have h : ((BitVec.ofInt 64 (e : Int)) &&& (BitVec.ofInt 64 1)).toNat = e % 2 := by
    rw [BitVec.toNat_and, h1]
    exact Nat.and_one_is_mod e
  have e0 : Go.bits .and .i64 (e : Int) 1 = IntKind.i64.wrap ((((BitVec.ofInt 64 (e : Int)) &&& (BitVec.ofInt 64 1)).toNat : Nat) : Int) := rfl
  rw [e0, h]
  exact IntWalk.i64_in _ (by omega)
theorem ypow_l0 : ∀ (f k e : Nat) (x0 x7 : Int), 0 ≤ x0 → x0 < 2147483579 → 0 ≤ x7 → x7 < 2147483579 → e < 2 ^ f → f ≤ 60 → f < k → impl_ypow.l0 k x0 e 2147483579 x7 = some (x7 * x0 ^ e % 2147483579) := by
  intro f
  induction f with
  | zero =>
    intro k e x0 x7 h0 h1 h2 h3 he hf hk
    obtain ⟨k, rfl⟩ : ∃ m, k = m + 1 := ⟨k - 1, by omega⟩
    obtain rfl : e = 0 := by simpa using he
    simp only [impl_ypow.l0, if_neg (show ¬ (((0 : Nat) : Int) > 0) by omega)]
    rw [Int.pow_zero, Int.mul_one, Int.emod_eq_of_lt h2 h3]
  | succ f ih =>
    intro k e x0 x7 h0 h1 h2 h3 he hf hk
    obtain ⟨k, rfl⟩ : ∃ m, k = m + 1 := ⟨k - 1, by omega⟩
    by_cases hz : e = 0
    · subst hz
      simp only [impl_ypow.l0, if_neg (show ¬ (((0 : Nat) : Int) > 0) by omega)]
      rw [Int.pow_zero, Int.mul_one, Int.emod_eq_of_lt h2 h3]
    · have hlim : e < 9223372036854775808 := Nat.lt_of_lt_of_le he (Nat.le_trans (Nat.pow_le_pow_right (by omega) (show f + 1 ≤ 61 by omega)) (by decide))
      have hdiv : ((e : Int) / 2) = ((e / 2 : Nat) : Int) := by omega
      have hhalf : e / 2 < 2 ^ f := by rw [Nat.pow_succ] at he; omega
      have s0 : 0 ≤ x0 * x0 % 2147483579 := Int.emod_nonneg _ (by omega)
      have s1 : x0 * x0 % 2147483579 < 2147483579 := Int.emod_lt_of_pos _ (by omega)
      have t0 : 0 ≤ x7 * x0 % 2147483579 := Int.emod_nonneg _ (by omega)
      have t1 : x7 * x0 % 2147483579 < 2147483579 := Int.emod_lt_of_pos _ (by omega)
      simp only [impl_ypow.l0, if_pos (show ((e : Int) > 0) by omega), and1 e hlim, if_neg (show ¬ ((2147483579 : Int) = 0) by omega), mulM h0 h1 h0 h1, mulM h2 h3 h0 h1, hdiv]
      by_cases ho : e % 2 = 1
      · rw [if_pos (by omega), ih k (e / 2) _ _ s0 s1 t0 t1 hhalf (by omega) (by omega)]
        congr 1
        rw [Int.mul_emod, pow_emod', Int.emod_emod, ← Int.mul_emod, ← pow_double]
        conv => rhs; rw [show e = 2 * (e / 2) + 1 by omega, Int.pow_succ]
        congr 1
        ac_rfl
      · rw [if_neg (by omega), ih k (e / 2) _ _ s0 s1 h2 h3 hhalf (by omega) (by omega)]
        congr 1
        rw [Int.mul_emod, pow_emod', ← Int.mul_emod, ← pow_double]
        conv => rhs; rw [show e = 2 * (e / 2) by omega]
theorem ypow_eq (b : Int) (e : Nat) (h0 : 0 ≤ b) (h1 : b < 2147483579) (he : e < 2199023255552) (k : Nat) (hk : 50 ≤ k) : impl_ypow.f k b e 2147483579 = some (pwm b e) := by
  unfold impl_ypow.f
  rw [if_neg (by omega), Int.tmod_eq_emod_of_nonneg h0, Int.emod_eq_of_lt h0 h1, ypow_l0 41 k e b 1 h0 h1 (by omega) (by omega) (by simpa using he) (by omega) (by omega), Int.one_mul]
  rfl
theorem shr_nat (e n : Nat) (hn : n ≤ 64) : shr .i64 (e : Int) (n : Int) = ((e / 2 ^ n : Nat) : Int) := by
  unfold shr
  rw [Int.toNat_natCast, Nat.min_eq_left (show n ≤ IntKind.i64.bits from hn)]
  simp
theorem l2Power_l0 (e : Nat) (he : e < 2199023255552) (x0 : Int) (h0 : 0 ≤ x0) (h1 : x0 < 2147483579) : ∀ (n k : Nat) (x7 : Int), n ≤ 41 → x7 = x0 ^ (e / 2 ^ n) % 2147483579 → n < k → spec_l2Power.l0 k x0 e 2147483579 x7 ((n : Int) - 1) = some (x0 ^ e % 2147483579) := by
  intro n
  induction n with
  | zero =>
    intro k x7 hn hx hk
    obtain ⟨k, rfl⟩ : ∃ m, k = m + 1 := ⟨k - 1, by omega⟩
    simp only [spec_l2Power.l0, if_neg (show ¬ (((0 : Nat) : Int) - 1 ≥ 0) by omega)]
    rw [hx, Nat.pow_zero, Nat.div_one]
  | succ n ih =>
    intro k x7 hn hx hk
    obtain ⟨k, rfl⟩ : ∃ m, k = m + 1 := ⟨k - 1, by omega⟩
    have en : (((n + 1 : Nat) : Int) - 1) = (n : Int) := by omega
    have ew : IntKind.u64.wrap (n : Int) = (n : Int) := by rw [IntKind.wrap_u64]; omega
    have em : wrap64 ((n : Int) - 1) = (n : Int) - 1 := w64 (by omega) (by omega)
    have hq : e / 2 ^ n < 9223372036854775808 := Nat.lt_of_le_of_lt (Nat.div_le_self _ _) (by omega)
    have hh : e / 2 ^ (n + 1) = (e / 2 ^ n) / 2 := by rw [Nat.pow_succ, Nat.div_div_eq_div_mul]
    have x0' : 0 ≤ x7 := by rw [hx]; exact Int.emod_nonneg _ (by omega)
    have x1' : x7 < 2147483579 := by rw [hx]; exact Int.emod_lt_of_pos _ (by omega)
    have s0 : 0 ≤ x7 * x7 % 2147483579 := Int.emod_nonneg _ (by omega)
    have s1 : x7 * x7 % 2147483579 < 2147483579 := Int.emod_lt_of_pos _ (by omega)
    have hsq : x7 * x7 % 2147483579 = x0 ^ (2 * ((e / 2 ^ n) / 2)) % 2147483579 := by
      rw [hx, hh, ← Int.mul_emod, Nat.two_mul, Int.pow_add]
    simp only [spec_l2Power.l0, en, if_pos (show ((n : Int) ≥ 0) by omega), if_neg (show ¬ ((2147483579 : Int) = 0) by omega), ew, shr_nat e n (by omega), and1 _ hq, mulM x0' x1' x0' x1', mulM s0 s1 h0 h1, em]
    by_cases ho : (e / 2 ^ n) % 2 = 1
    · rw [if_pos (by omega)]
      refine ih k _ (by omega) ?_ (by omega)
      rw [hsq, Int.mul_emod, Int.emod_emod, ← Int.mul_emod, ← Int.pow_succ, Nat.succ_eq_add_one, show 2 * (e / 2 ^ n / 2) + 1 = e / 2 ^ n by omega]
    · rw [if_neg (by omega)]
      refine ih k _ (by omega) ?_ (by omega)
      rw [hsq, show 2 * (e / 2 ^ n / 2) = e / 2 ^ n by omega]
theorem l2Power_eq (b : Int) (e : Nat) (h0 : 0 ≤ b) (h1 : b < 2147483579) (he : e < 2199023255552) (k : Nat) (hk : 50 ≤ k) : spec_l2Power.f k b e 2147483579 = some (pwm b e) := by
  unfold spec_l2Power.f
  exact l2Power_l0 e he b h0 h1 41 k 1 (by omega) (by rw [Nat.div_eq_of_lt (by simpa using he), Int.pow_zero]; rfl) (by omega)
attribute [irreducible] pwm
end Go.Proofs.Ytipdkendfcopiaa.Pr
/- The digest: the reference's and the program's come to one. Plain facts. -/
namespace Go.Proofs.Ytipdkendfcopiaa.Pr
open Go.RowKit Go.Proofs.Ytipdkendfcopiaa.Read Go.Proofs.YtipdkendfcopiaaW.PrintWords

def inP (a : List Int) : Prop := a.length = 4 ∧ ∀ j, j < 4 → 0 ≤ a.getD j 0 ∧ a.getD j 0 < 2147483579
theorem inP_start : inP [11, 22, 33, 44] := ⟨rfl, by decide⟩
theorem inP_mix {a : List Int} (h : inP a) (x : Int) (hx : 0 ≤ x) : inP (dgMix a x) := ⟨by rw [dgMix, mix_len, h.1], mix_bd a x hx h.1 h.2 4 (by omega)⟩
theorem inP_all : ∀ (l a : List Int), inP a → (∀ x ∈ l, 0 ≤ x) → inP (dgAll a l)
  | [], _, h, _ => h
  | x :: l, a, h, hx => inP_all l (dgMix a x) (inP_mix h x (hx x List.mem_cons_self)) (fun y hy => hx y (List.mem_cons_of_mem _ hy))
theorem dgAll_cons (a : List Int) (x : Int) (l : List Int) : dgAll a (x :: l) = dgAll (dgMix a x) l := rfl
theorem mt_at (i : Nat) (h : i < 4) : rd [1103515245, 69069, 1664525, 22695477] (i : Int) = mulT.getD i 0 := by
  match i, h with
  | 0, _ => rfl
  | 1, _ => rfl
  | 2, _ => rfl
  | 3, _ => rfl
theorem rd_getD (l : List Int) (i : Nat) : rd l (i : Int) = l.getD i 0 := by simp [rd]
theorem specMix_step (l : List Int) (h : inP l) (x : Int) (hx : 0 ≤ x ∧ x ≤ 255) (i : Nat) (hi : i < 4) (k : Nat) :
    spec_l2Mix.l0 (k + 1) (mixN l x i) x [1103515245, 69069, 1664525, 22695477] i = spec_l2Mix.l0 k (mixN l x (i + 1)) x [1103515245, 69069, 1664525, 22695477] ((i + 1 : Nat) : Int) := by
  have hlen : (mixN l x i).length = 4 := by rw [mix_len, h.1]
  have b1 := mix_bd l x hx.1 h.1 h.2 i (by omega) i hi
  have b2 := mix_bd l x hx.1 h.1 h.2 i (by omega) ((i + 1) % 4) (by omega)
  have b3 := mulOk i hi
  simp only [spec_l2Mix.l0]
  rw [w64 (n := (i : Int) + 1) (by omega) (by omega)]
  have e6 : Int.tmod ((i : Int) + 1) 4 = ((i + 1) % 4 : Nat) := by rw [Int.tmod_eq_emod_of_nonneg (by omega)]; omega
  rw [e6, mt_at i hi, rd_getD, rd_getD]
  obtain ⟨p1, e1⟩ : ∃ p, p = (mixN l x i).getD i 0 := ⟨_, rfl⟩
  obtain ⟨p2, e2⟩ : ∃ p, p = (mixN l x i).getD ((i + 1) % 4) 0 := ⟨_, rfl⟩
  obtain ⟨p3, e3⟩ : ∃ p, p = mulT.getD i 0 := ⟨_, rfl⟩
  have e5 : mixN l x (i + 1) = (mixN l x i).set i ((p1 * p3 + x + 1 + p2) % 2147483579) := by rw [e1, e2, e3]; rfl
  rw [e5, ← e1, ← e2, ← e3]
  rw [← e1] at b1; rw [← e2] at b2; rw [← e3] at b3
  have b4 := prod_bd b1.1 b1.2 b3.1 b3.2
  rw [if_pos (by omega), if_pos (by omega), if_pos (by omega), if_pos (by simp; omega), if_pos (by omega), if_pos (by omega), w64 (n := p1 * p3) (by omega) (by omega), w64 (n := p1 * p3 + x) (by omega) (by omega), w64 (n := p1 * p3 + x + 1) (by omega) (by omega), w64 (by omega) (by omega), Int.tmod_eq_emod_of_nonneg (by omega), Int.toNat_natCast]
  rfl
theorem specMix_eq (l : List Int) (h : inP l) (x : Int) (hx : 0 ≤ x ∧ x ≤ 255) (k : Nat) (hk : 5 ≤ k) : spec_l2Mix.f k l x = some (dgMix l x) := by
  obtain ⟨k, rfl⟩ : ∃ m, k = m + 5 := ⟨k - 5, by omega⟩
  unfold spec_l2Mix.f
  have e0 := specMix_step l h x hx 0 (by omega) (k + 4)
  have e1 := specMix_step l h x hx 1 (by omega) (k + 3)
  have e2 := specMix_step l h x hx 2 (by omega) (k + 2)
  have e3 := specMix_step l h x hx 3 (by omega) (k + 1)
  have e4 : spec_l2Mix.l0 (k + 1) (mixN l x 4) x [1103515245, 69069, 1664525, 22695477] ((3 + 1 : Nat) : Int) = some (mixN l x 4) := by
    simp only [spec_l2Mix.l0]; rw [if_neg (by omega)]
  exact e0.trans (e1.trans (e2.trans (e3.trans e4)))
theorem tm256 (n : Int) (h : 0 ≤ n) : Int.tmod n 256 % 256 = n % 256 := by rw [Int.tmod_eq_emod_of_nonneg h]; omega
theorem td256 (n : Int) (h : 0 ≤ n) (h2 : n ≤ 9223372036854775807) : wrap64 (Int.tdiv n 256) = n / 256 := by
  rw [Int.tdiv_eq_ediv_of_nonneg h, w64 (by omega) (by omega)]
theorem specBytes_eq (n : Int) (h : 0 ≤ n) (h2 : n ≤ 9223372036854775807) (k : Nat) (hk : 5 ≤ k) : spec_l2Bytes.f k n = some (yb n) := by
  obtain ⟨k, rfl⟩ : ∃ m, k = m + 5 := ⟨k - 5, by omega⟩
  unfold spec_l2Bytes.f
  rw [if_pos (by omega)]
  simp only [Option.bind_some, List.length_replicate]
  simp only [spec_l2Bytes.l0]
  have a1 := td256 n h h2
  have a2 := td256 (n / 256) (by omega) (by omega)
  have a3 := td256 (n / 256 / 256) (by omega) (by omega)
  have w1 : wrap64 ((0 : Int) + 1) = 1 := by unfold wrap64; omega
  have w2 : wrap64 ((1 : Int) + 1) = 2 := by unfold wrap64; omega
  have w3 : wrap64 ((2 : Int) + 1) = 3 := by unfold wrap64; omega
  have w4 : wrap64 ((3 : Int) + 1) = 4 := by unfold wrap64; omega
  rw [w1, w2, w3, w4, a1, a2, a3, tm256 n h, tm256 _ (by omega), tm256 _ (by omega), tm256 _ (by omega)]
  simp [yb, List.replicate]
  omega
theorem specDig_l3 (a : List Int) (h : inP a) : ∀ (k : Nat), 10 ≤ k → spec_l2Digest.l3 k [] a (a.length : Int) 0 = some (a.flatMap yb) := by
  intro k hk
  obtain ⟨k, rfl⟩ : ∃ m, k = m + 10 := ⟨k - 10, by omega⟩
  obtain ⟨hl, hb⟩ := h
  match a, hl with
  | [b0, b1, b2, b3], _ =>
    have h0 := hb 0 (by omega)
    have h1 := hb 1 (by omega)
    have h2 := hb 2 (by omega)
    have h3 := hb 3 (by omega)
    simp only [List.getD_cons_zero, List.getD_cons_succ] at h0 h1 h2 h3
    have w1 : wrap64 ((0 : Int) + 1) = 1 := by unfold wrap64; omega
    have w2 : wrap64 ((1 : Int) + 1) = 2 := by unfold wrap64; omega
    have w3 : wrap64 ((2 : Int) + 1) = 3 := by unfold wrap64; omega
    have w4 : wrap64 ((3 : Int) + 1) = 4 := by unfold wrap64; omega
    have r0 : rd [b0, b1, b2, b3] 0 = b0 := rfl
    have r1 : rd [b0, b1, b2, b3] 1 = b1 := rfl
    have r2 : rd [b0, b1, b2, b3] 2 = b2 := rfl
    have r3 : rd [b0, b1, b2, b3] 3 = b3 := rfl
    simp only [spec_l2Digest.l3, w1, w2, w3, w4, r0, r1, r2, r3]
    rw [specBytes_eq b0 (by omega) (by omega) _ (by omega), specBytes_eq b1 (by omega) (by omega) _ (by omega), specBytes_eq b2 (by omega) (by omega) _ (by omega), specBytes_eq b3 (by omega) (by omega) _ (by omega)]
    simp [yb]
theorem specDig_l2 (d : Nat) : ∀ (a : List Int) (k i : Nat), inP a → i + d = 8 → d + 12 ≤ k → spec_l2Digest.l2 k a i = some ((dgAll a (List.replicate d 0)).flatMap yb) := by
  induction d with
  | zero =>
    intro a k i h hi hk
    obtain ⟨k, rfl⟩ : ∃ m, k = m + 1 := ⟨k - 1, by omega⟩
    simp only [spec_l2Digest.l2]
    rw [if_neg (by omega), specDig_l3 a h k (by omega)]; rfl
  | succ d ih =>
    intro a k i h hi hk
    obtain ⟨k, rfl⟩ : ∃ m, k = m + 1 := ⟨k - 1, by omega⟩
    simp only [spec_l2Digest.l2]
    rw [if_pos (by omega), specMix_eq a h 0 (by omega) k (by omega)]
    simp only [Option.bind_some]
    rw [w64 (by omega) (by omega), show ((i : Int) + 1) = ((i + 1 : Nat) : Int) from rfl, ih (dgMix a 0) k (i + 1) (inP_mix h 0 (by omega)) (by omega) (by omega)]
    rfl
theorem wbyte {x : Int} (h : 0 ≤ x ∧ x ≤ 255) : wrap64 x = x := w64 (by omega) (by omega)
theorem drop_rd {l : List Int} {i : Nat} (h : i < l.length) : l.drop i = rd l i :: l.drop (i + 1) := by rw [List.drop_eq_getElem_cons h, rd_nat h]
theorem specDig_l1 (xs : List Int) (hx : isBytes xs) (hl : xs.length ≤ 1000000000) (d : Nat) : ∀ (a : List Int) (k i : Nat), inP a → i + d = xs.length → d + 24 ≤ k →
    spec_l2Digest.l1 k a xs (xs.length : Int) i = some ((dgAll (dgAll a (xs.drop i)) (List.replicate 8 0)).flatMap yb) := by
  induction d with
  | zero =>
    intro a k i h hi hk
    obtain ⟨k, rfl⟩ : ∃ m, k = m + 1 := ⟨k - 1, by omega⟩
    simp only [spec_l2Digest.l1]
    rw [if_neg (by omega), List.drop_of_length_le (by omega)]
    exact specDig_l2 8 a k 0 h (by omega) (by omega)
  | succ d ih =>
    intro a k i h hi hk
    obtain ⟨k, rfl⟩ : ∃ m, k = m + 1 := ⟨k - 1, by omega⟩
    have hlt : i < xs.length := by omega
    have hb := hx (rd xs i) (rd_mem hlt)
    simp only [spec_l2Digest.l1]
    rw [if_pos (by omega), if_pos (by omega), if_pos (by omega), wbyte hb, specMix_eq a h _ hb k (by omega)]
    simp only [Option.bind_some]
    rw [w64 (by omega) (by omega), show ((i : Int) + 1) = ((i + 1 : Nat) : Int) from rfl, ih _ k (i + 1) (inP_mix h _ hb.1) (by omega) (by omega), drop_rd hlt, dgAll_cons]
theorem specDig_l0 (xs ys : List Int) (hx : isBytes xs) (hl : xs.length ≤ 1000000000) (hly : ys.length ≤ 1000000000) (d : Nat) : ∀ (a : List Int) (k i : Nat), inP a → i + d = xs.length → d + 40 ≤ k →
    spec_l2Digest.l0 k ys a xs (xs.length : Int) i = some ((dgAll (dgAll (dgAll a (xs.drop i)) (yb ys.length)) (List.replicate 8 0)).flatMap yb) := by
  induction d with
  | zero =>
    intro a k i h hi hk
    obtain ⟨k, rfl⟩ : ∃ m, k = m + 1 := ⟨k - 1, by omega⟩
    simp only [spec_l2Digest.l0]
    rw [if_neg (by omega), List.drop_of_length_le (by omega), specBytes_eq _ (by omega) (by omega) k (by omega)]
    exact specDig_l1 (yb ys.length) (yb_bytes _) (by rw [yb_len]; omega) 4 a k 0 h (by rw [yb_len]) (by omega)
  | succ d ih =>
    intro a k i h hi hk
    obtain ⟨k, rfl⟩ : ∃ m, k = m + 1 := ⟨k - 1, by omega⟩
    have hlt : i < xs.length := by omega
    have hb := hx (rd xs i) (rd_mem hlt)
    simp only [spec_l2Digest.l0]
    rw [if_pos (by omega), if_pos (by omega), if_pos (by omega), wbyte hb, specMix_eq a h _ hb k (by omega)]
    simp only [Option.bind_some]
    rw [w64 (by omega) (by omega), show ((i : Int) + 1) = ((i + 1 : Nat) : Int) from rfl, ih _ k (i + 1) (inP_mix h _ hb.1) (by omega) (by omega), drop_rd hlt, dgAll_cons]
theorem specDigest_eq (l : List Int) (h : isBytes l) (hl : l.length ≤ 1000000000) (k : Nat) (hk : l.length + 40 ≤ k) : spec_l2Digest.f k l = some (dg l) := by
  have := specDig_l0 l l h hl hl l.length [11, 22, 33, 44] k 0 inP_start (by omega) hk
  simpa [spec_l2Digest.f, dg, dgS] using this
theorem specDigest_ev (l : List Int) (h : isBytes l) (hl : l.length ≤ 1000000000) : Ev (fun k => spec_l2Digest.f k l) (dg l) := ⟨_, fun k hk => specDigest_eq l h hl k hk⟩
theorem isBytes_flatMap_yb (a : List Int) : isBytes (a.flatMap yb) := by
  intro x hx
  obtain ⟨n, _, hn⟩ := List.mem_flatMap.1 hx
  exact yb_bytes n x hn
theorem dg_bytes (l : List Int) : isBytes (dg l) := isBytes_flatMap_yb _
theorem dgAll_len : ∀ (l a : List Int), (dgAll a l).length = a.length
  | [], _ => rfl
  | x :: l, a => by rw [dgAll_cons, dgAll_len l, dgMix, mix_len]
theorem dg_len (l : List Int) : (dg l).length = 16 := by
  have h : (dgS l).length = 4 := by simp [dgS, dgAll_len]
  unfold dg
  match dgS l, h with
  | [b0, b1, b2, b3], _ => rfl
theorem isBytes_append {a b : List Int} (h : isBytes a) (h2 : isBytes b) : isBytes (a ++ b) := fun x hx => (List.mem_append.1 hx).elim (h x) (h2 x)
theorem implDigest_eq (l : List Int) (h : isBytes l) (hl : l.length ≤ 20000) : impl_Digest.f l = some (dg l) := by
  unfold impl_Digest.f; rw [if_pos h, if_neg (by omega)]
theorem isBytes_okL {l : List Int} (h : okL okB l) : isBytes l := fun x hx => h.2 x hx
theorem bytesOf_isBytes (s : ByteArray) : isBytes (bytesOf s) := by
  intro x hx
  simp only [bytesOf, List.mem_map] at hx
  obtain ⟨b, _, rfl⟩ := hx
  have := b.toNat_lt
  omega
/-- The sum of a key and data. -/
def macL (key data : List Int) : List Int := dg (dg key ++ dg data)
end Go.Proofs.Ytipdkendfcopiaa.Pr
/- Numbers of digests, challenges, publics and signatures: the program's and the reference's are one. -/
namespace Go.Proofs.Ytipdkendfcopiaa.Pr
open Go.RowKit Go.Proofs.Ytipdkendfcopiaa.Read Go.Proofs.YtipdkendfcopiaaW.PrintWords
set_option linter.unusedVariables false
def numL (l : List Int) : Int := rd l 0 + 256 * rd l 1 + 65536 * rd l 2 + 16777216 * rd l 3
theorem or_nat (a b : Nat) (ha : a < 4611686018427387904) (hb : b < 4611686018427387904) : Go.bits .or .i64 (a : Int) (b : Int) = ((a ||| b : Nat) : Int) := by
  have h1 : (BitVec.ofInt 64 (a : Int)).toNat = a := by
    rw [BitVec.ofInt_natCast, BitVec.toNat_ofNat]; exact Nat.mod_eq_of_lt (by omega)
  have h2 : (BitVec.ofInt 64 (b : Int)).toNat = b := by
    rw [BitVec.ofInt_natCast, BitVec.toNat_ofNat]; exact Nat.mod_eq_of_lt (by omega)
  have h3 : a ||| b < 2 ^ 62 := Nat.or_lt_two_pow (by simpa using ha) (by simpa using hb)
  have e0 : Go.bits .or .i64 (a : Int) (b : Int) = IntKind.i64.wrap ((((BitVec.ofInt 64 (a : Int)) ||| (BitVec.ofInt 64 (b : Int))).toNat : Nat) : Int) := rfl
  rw [e0, BitVec.toNat_or, h1, h2]
  exact IntWalk.i64_in _ (by omega)
theorem or_add (i : Nat) (a b : Int) (ha0 : 0 ≤ a) (ha : a < (2 ^ i : Nat)) (hb0 : 0 ≤ b) (hb : b < 4294967296) (hi : i ≤ 24) : Go.bits .or .i64 a (b * (2 ^ i : Nat)) = a + b * (2 ^ i : Nat) := by
  obtain ⟨a, rfl⟩ : ∃ n : Nat, a = n := ⟨a.toNat, by omega⟩
  obtain ⟨b, rfl⟩ : ∃ n : Nat, b = n := ⟨b.toNat, by omega⟩
  have hp : 2 ^ i ≤ 16777216 := Nat.le_trans (Nat.pow_le_pow_right (by omega) hi) (by decide)
  have hb' : b * 2 ^ i < 4611686018427387904 := by
    have : b * 2 ^ i ≤ 4294967296 * 16777216 := Nat.mul_le_mul (by omega) hp
    omega
  rw [← Int.natCast_mul, or_nat a (b * 2 ^ i) (by omega) hb', Nat.or_comm, Nat.mul_comm, ← Nat.two_pow_add_eq_or_of_lt (show a < 2 ^ i by omega)]
  rw [Nat.mul_comm, Int.natCast_add, Int.natCast_mul]
  omega
theorem rd_byte {l : List Int} (h : isBytes l) {i : Nat} (hi : i < l.length) : 0 ≤ rd l i ∧ rd l i ≤ 255 := by
  refine h _ ?_
  rw [rd_nat hi]
  exact List.getElem_mem hi
theorem implNum_eq (l : List Int) (h : isBytes l) (hl : 4 ≤ l.length) : impl_ynumber.f l = some (numL l) := by
  have b0 := rd_byte h (i := 0) (by omega)
  have b1 := rd_byte h (i := 1) (by omega)
  have b2 := rd_byte h (i := 2) (by omega)
  have b3 := rd_byte h (i := 3) (by omega)
  simp only [Int.cast_ofNat_Int] at b0 b1 b2 b3
  unfold impl_ynumber.f
  rw [if_neg (by omega), if_pos (by omega), if_pos (by omega), if_pos (by omega), if_pos (by omega), w64 (n := rd l 0) (by omega) (by omega), w64 (n := rd l 1) (by omega) (by omega), w64 (n := rd l 2) (by omega) (by omega), w64 (n := rd l 3) (by omega) (by omega), w64 (n := rd l 1 * 256) (by omega) (by omega), w64 (n := rd l 2 * 65536) (by omega) (by omega), w64 (n := rd l 3 * 16777216) (by omega) (by omega)]
  have e1 := or_add 8 (rd l 0) (rd l 1) (by omega) (by simp; omega) (by omega) (by omega) (by omega)
  have e2 := or_add 16 (rd l 0 + rd l 1 * 256) (rd l 2) (by omega) (by simp; omega) (by omega) (by omega) (by omega)
  have e3 := or_add 24 (rd l 0 + rd l 1 * 256 + rd l 2 * 65536) (rd l 3) (by omega) (by simp; omega) (by omega) (by omega) (by omega)
  simp only [show ((2 ^ 8 : Nat) : Int) = 256 from rfl, show ((2 ^ 16 : Nat) : Int) = 65536 from rfl, show ((2 ^ 24 : Nat) : Int) = 16777216 from rfl] at e1 e2 e3
  rw [e1, e2, e3]
  simp only [numL, Option.some.injEq]
  omega
theorem specNum_eq (l : List Int) (h : isBytes l) (hl : 4 ≤ l.length) (k : Nat) (hk : 5 ≤ k) : spec_l2Number.f k l = some (numL l) := by
  have b0 := rd_byte h (i := 0) (by omega)
  have b1 := rd_byte h (i := 1) (by omega)
  have b2 := rd_byte h (i := 2) (by omega)
  have b3 := rd_byte h (i := 3) (by omega)
  simp only [Int.cast_ofNat_Int] at b0 b1 b2 b3
  obtain ⟨k, rfl⟩ : ∃ m, k = m + 5 := ⟨k - 5, by omega⟩
  unfold spec_l2Number.f
  rw [spec_l2Number.l0, if_pos (by omega), if_pos (by omega), if_pos (by omega), show wrap64 ((3 : Int) - 1) = 2 from (w64 (by omega) (by omega)).trans (by omega), w64 (n := (0 : Int) * 256) (by omega) (by omega), w64 (n := rd l 3) (by omega) (by omega), w64 (n := (0 : Int) * 256 + rd l 3) (by omega) (by omega)]
  rw [spec_l2Number.l0, if_pos (by omega), if_pos (by omega), if_pos (by omega), show wrap64 ((2 : Int) - 1) = 1 from (w64 (by omega) (by omega)).trans (by omega), w64 (n := rd l 2) (by omega) (by omega), w64 (n := ((0 : Int) * 256 + rd l 3) * 256) (by omega) (by omega), w64 (n := ((0 : Int) * 256 + rd l 3) * 256 + rd l 2) (by omega) (by omega)]
  rw [spec_l2Number.l0, if_pos (by omega), if_pos (by omega), if_pos (by omega), show wrap64 ((1 : Int) - 1) = 0 from (w64 (by omega) (by omega)).trans (by omega), w64 (n := rd l 1) (by omega) (by omega), w64 (n := (((0 : Int) * 256 + rd l 3) * 256 + rd l 2) * 256) (by omega) (by omega), w64 (n := (((0 : Int) * 256 + rd l 3) * 256 + rd l 2) * 256 + rd l 1) (by omega) (by omega)]
  rw [spec_l2Number.l0, if_pos (by omega), if_pos (by omega), if_pos (by omega), show wrap64 ((0 : Int) - 1) = -1 from (w64 (by omega) (by omega)).trans (by omega), w64 (n := rd l 0) (by omega) (by omega), w64 (n := ((((0 : Int) * 256 + rd l 3) * 256 + rd l 2) * 256 + rd l 1) * 256) (by omega) (by omega), w64 (n := ((((0 : Int) * 256 + rd l 3) * 256 + rd l 2) * 256 + rd l 1) * 256 + rd l 0) (by omega) (by omega)]
  rw [spec_l2Number.l0, if_neg (by omega)]
  simp only [numL, Option.some.injEq]
  omega
theorem numL_range (l : List Int) (h : isBytes l) (hl : 4 ≤ l.length) : 0 ≤ numL l ∧ numL l ≤ 4294967295 := by
  have b0 := rd_byte h (i := 0) (by omega)
  have b1 := rd_byte h (i := 1) (by omega)
  have b2 := rd_byte h (i := 2) (by omega)
  have b3 := rd_byte h (i := 3) (by omega)
  simp only [Int.cast_ofNat_Int] at b0 b1 b2 b3
  unfold numL
  omega
/-- The challenge of a number and data. -/
def chalL (r : Int) (d : List Int) : Int := numL (dg (yb r ++ dg d)) % 1073741789
theorem chalL_range (r : Int) (d : List Int) : 0 ≤ chalL r d ∧ chalL r d < 1073741789 := ⟨Int.emod_nonneg _ (by omega), Int.emod_lt_of_pos _ (by omega)⟩
theorem implChal_eq (r : Int) (d : List Int) (hd : isBytes d) (hl : d.length ≤ 20000) : impl_ychallenge.f r d = some (chalL r d) := by
  have y1 : impl_ybytes.f r = some (yb r) := rfl
  have h1 := dg_len d
  have h2 := dg_len (yb r ++ dg d)
  have h3 := numL_range (dg (yb r ++ dg d)) (dg_bytes _) (by omega)
  unfold impl_ychallenge.f
  rw [y1, Option.bind_some, implDigest_eq d hd hl, Option.bind_some, if_pos (by rw [h1, yb_len]; omega), implDigest_eq _ (isBytes_append (yb_bytes _) (dg_bytes _)) (by rw [List.length_append, h1, yb_len]; omega), Option.bind_some, implNum_eq _ (dg_bytes _) (by omega), Option.bind_some, Int.tmod_eq_emod_of_nonneg h3.1]
  rfl
theorem specChal_ev (r : Int) (d : List Int) (hr0 : 0 ≤ r) (hr : r ≤ 9223372036854775807) (hd : isBytes d) (hl : d.length ≤ 20000) : Ev (fun k => spec_l2E.f k r d) (chalL r d) := by
  have h1 := dg_len d
  have h2 := dg_len (yb r ++ dg d)
  have h3 := numL_range (dg (yb r ++ dg d)) (dg_bytes _) (by omega)
  simp only [spec_l2E.f]
  refine Ev.bind ⟨5, fun k hk => specBytes_eq r hr0 hr k hk⟩ ?_
  simp only [if_pos (show ([] : List Int).length + (yb r).length < 140737488355328 by rw [yb_len]; simp), List.nil_append, Option.bind_some]
  refine Ev.bind (specDigest_ev d hd (by omega)) ?_
  simp only [if_pos (show (yb r).length + (dg d).length < 140737488355328 by rw [yb_len, h1]; omega)]
  refine Ev.bind (specDigest_ev _ (isBytes_append (yb_bytes _) (dg_bytes _)) (by rw [List.length_append, h1, yb_len]; omega)) ?_
  refine Ev.bind ⟨5, fun k hk => specNum_eq _ (dg_bytes _) (by omega) k hk⟩ ?_
  simp only [Int.tmod_eq_emod_of_nonneg h3.1]
  exact Ev.now _
def pubOk (p : Int) : Prop := 2 ≤ p ∧ p < 2147483579 ∧ pwm p 1073741789 = 1
instance (p : Int) : Decidable (pubOk p) := by unfold pubOk; infer_instance
def verOk (p : Int) (d : List Int) (r s : Int) : Prop := pubOk p ∧ d.length ≤ 20000 ∧ 1 ≤ r ∧ r < 2147483579 ∧ 0 ≤ s ∧ s < 1073741789
instance (p : Int) (d : List Int) (r s : Int) : Decidable (verOk p d r s) := by unfold verOk; infer_instance
/-- Whether a signature holds. -/
def verL (p : Int) (d : List Int) (r s : Int) : Bool := if verOk p d r s then pwm 4 s.toNat == r * pwm p (chalL r d).toNat % 2147483579 else false
theorem verL_bad {p : Int} {d : List Int} {r s : Int} (h : ¬ verOk p d r s) : verL p d r s = false := if_neg h
theorem ypow_at (b e : Int) (h0 : 0 ≤ b) (h1 : b < 2147483579) (he0 : 0 ≤ e) (he : e < 2199023255552) (k : Nat) (hk : 50 ≤ k) : impl_ypow.f k b e 2147483579 = some (pwm b e.toNat) := by
  have := ypow_eq b e.toNat h0 h1 (by omega) k hk
  rwa [Int.toNat_of_nonneg he0] at this
theorem l2Power_at (b e : Int) (h0 : 0 ≤ b) (h1 : b < 2147483579) (he0 : 0 ≤ e) (he : e < 2199023255552) (k : Nat) (hk : 50 ≤ k) : spec_l2Power.f k b e 2147483579 = some (pwm b e.toNat) := by
  have := l2Power_eq b e.toNat h0 h1 (by omega) k hk
  rwa [Int.toNat_of_nonneg he0] at this
theorem implVerify_ev (p : Int) (d : List Int) (r s : Int) (hd : isBytes d) : Ev (fun k => impl_Verify.f k p d r s) (verL p d r s) := by
  refine ⟨60, fun k hk => ?_⟩
  obtain ⟨k, rfl⟩ : ∃ m, k = m + 1 := ⟨k - 1, by omega⟩
  show impl_Verify.f (k + 1) p d r s = _
  have jt : impl_Verify.j0 (k + 1) p d true r s = some false := by simp only [impl_Verify.j0, if_true]
  unfold impl_Verify.f
  by_cases c1 : (d.length : Int) > 20000
  · rw [if_pos c1, jt, verL_bad (fun h => by have := h.2.1; omega)]
  rw [if_neg c1]
  by_cases c2 : p < 2
  · rw [if_pos c2, jt, verL_bad (fun h => by have := h.1.1; omega)]
  rw [if_neg c2]
  by_cases c3 : p ≥ 2147483579
  · rw [if_pos c3, jt, verL_bad (fun h => by have := h.1.2.1; omega)]
  rw [if_neg c3, ypow_at p 1073741789 (by omega) (by omega) (by omega) (by omega) _ (by omega), Option.bind_some, show (1073741789 : Int).toNat = 1073741789 from rfl]
  by_cases c4 : pwm p 1073741789 = 1
  case neg => rw [if_neg c4, jt, verL_bad (fun h => c4 h.1.2.2)]
  rw [if_pos c4]
  by_cases c5 : r < 1
  · rw [if_pos c5, jt, verL_bad (fun h => by have := h.2.2.1; omega)]
  rw [if_neg c5]
  by_cases c6 : r ≥ 2147483579
  · rw [if_pos c6, jt, verL_bad (fun h => by have := h.2.2.2.1; omega)]
  rw [if_neg c6]
  by_cases c7 : s < 0
  · rw [if_pos c7, jt, verL_bad (fun h => by have := h.2.2.2.2.1; omega)]
  rw [if_neg c7]
  by_cases c8 : s ≥ 1073741789
  · rw [decide_eq_true c8, jt, verL_bad (fun h => by have := h.2.2.2.2.2; omega)]
  rw [decide_eq_false c8]
  have ch := chalL_range r d
  have hv : verOk p d r s := ⟨⟨by omega, by omega, c4⟩, by omega, by omega, by omega, by omega, by omega⟩
  simp only [impl_Verify.j0, Bool.false_eq_true, if_false]
  rw [ypow_at 4 s (by omega) (by omega) (by omega) (by omega) _ (by omega), Option.bind_some, implChal_eq r d hd (by omega), Option.bind_some, ypow_at p _ (by omega) (by omega) ch.1 (by omega) _ (by omega), Option.bind_some, mulM (by omega) (by omega) (pwm_range _ _).1 (pwm_range _ _).2, verL, if_pos hv]
theorem specPublic_eq (p : Int) (k : Nat) (hk : 50 ≤ k) : spec_l2Public.f k p = some (decide (pubOk p)) := by
  unfold spec_l2Public.f
  by_cases c2 : p ≥ 2
  case neg => rw [if_neg c2, decide_eq_false (fun h => by have := h.1; omega)]
  rw [if_pos c2]
  by_cases c3 : p < 2147483579
  case neg => rw [if_neg c3, decide_eq_false (fun h => by have := h.2.1; omega)]
  rw [if_pos c3, l2Power_at p 1073741789 (by omega) (by omega) (by omega) (by omega) k hk, Option.bind_some, show (1073741789 : Int).toNat = 1073741789 from rfl]
  by_cases c4 : pwm p 1073741789 = 1
  · rw [decide_eq_true (show pubOk p from ⟨by omega, c3, c4⟩), c4]; rfl
  · rw [decide_eq_false (fun h => c4 h.2.2)]
    simp only [Option.some.injEq, beq_eq_false_iff_ne, ne_eq]
    exact c4
theorem specVerify_ev (p : Int) (d : List Int) (r s : Int) (hd : isBytes d) : Ev (fun k => spec_Verify.f k p d r s) (verL p d r s) := by
  by_cases hv : verOk p d r s
  · obtain ⟨hp, hl, h1, h2, h3, h4⟩ := hv
    obtain ⟨m, hm⟩ := specChal_ev r d (by omega) (by omega) hd hl
    refine ⟨m + 60, fun k hk => ?_⟩
    obtain ⟨k, rfl⟩ : ∃ m, k = m + 1 := ⟨k - 1, by omega⟩
    show spec_Verify.f (k + 1) p d r s = _
    have ch := chalL_range r d
    have h0 := hm k (by omega)
    simp only at h0
    unfold spec_Verify.f
    rw [specPublic_eq p _ (by omega), decide_eq_true hp, Option.bind_some, if_pos rfl, if_neg (by omega), if_neg (by omega), if_neg (by omega), if_neg (by omega), decide_eq_false (by omega)]
    simp only [spec_Verify.j0, Bool.false_eq_true, if_false]
    rw [l2Power_at 4 s (by omega) (by omega) (by omega) (by omega) _ (by omega), Option.bind_some, h0, Option.bind_some, l2Power_at p _ (by have := hp.1; omega) hp.2.1 ch.1 (by omega) _ (by omega), Option.bind_some, mulM (by omega) (by omega) (pwm_range _ _).1 (pwm_range _ _).2, verL, if_pos ⟨hp, hl, h1, h2, h3, h4⟩]
  · rw [verL_bad hv]
    refine ⟨60, fun k hk => ?_⟩
    obtain ⟨k, rfl⟩ : ∃ m, k = m + 1 := ⟨k - 1, by omega⟩
    show spec_Verify.f (k + 1) p d r s = _
    have jt : spec_Verify.j0 (k + 1) p d true r s = some false := by simp only [spec_Verify.j0, if_true]
    unfold spec_Verify.f
    rw [specPublic_eq p _ (by omega), Option.bind_some]
    by_cases hp : pubOk p
    case neg => rw [decide_eq_false hp, if_neg (by simp), jt]
    rw [decide_eq_true hp, if_pos rfl]
    by_cases c1 : (d.length : Int) > 20000
    · rw [if_pos c1, jt]
    rw [if_neg c1]
    by_cases c5 : r < 1
    · rw [if_pos c5, jt]
    rw [if_neg c5]
    by_cases c6 : r ≥ 2147483579
    · rw [if_pos c6, jt]
    rw [if_neg c6]
    by_cases c7 : s < 0
    · rw [if_pos c7, jt]
    rw [if_neg c7]
    by_cases c8 : s ≥ 1073741789
    · rw [decide_eq_true c8, jt]
    exact absurd ⟨hp, by omega, by omega, by omega, by omega, by omega⟩ hv
end Go.Proofs.Ytipdkendfcopiaa.Pr
/- The law FnExactCheckHead, its plain part. -/
namespace Go.Proofs.Ytipdkendfcopiaa.Pure
open Go.RowKit Go.Proofs.Ytipdkendfcopiaa.Read Go.Proofs.YtipdkendfcopiaaW.PrintWords Go.Proofs.Ytipdkendfcopiaa.Pr
def headL (p n : Int) (root : List Int) (r s : Int) : Bool := if 0 ≤ n ∧ n ≤ 200 ∧ root.length = 16 then verL p (yb n ++ root) r s else false
theorem specHead_ev (p n : Int) (root : List Int) (r s : Int) (hb : isBytes root) : Ev (fun k => spec_CheckHead.f k p n root r s) (headL p n root r s) := by
  simp only [spec_CheckHead.f]
  by_cases h1 : n ≥ 0
  case neg => simp only [if_neg h1, headL, if_neg (show ¬ (0 ≤ n ∧ n ≤ 200 ∧ root.length = 16) from fun h => h1 h.1)]; exact Ev.now _
  by_cases h2 : n ≤ 200
  case neg => simp only [if_pos h1, if_neg h2, headL, if_neg (show ¬ (0 ≤ n ∧ n ≤ 200 ∧ root.length = 16) from fun h => h2 h.2.1)]; exact Ev.now _
  by_cases h3 : (root.length : Int) = 16
  case neg => simp only [if_pos h1, if_pos h2, if_neg h3, headL, if_neg (show ¬ (0 ≤ n ∧ n ≤ 200 ∧ root.length = 16) from fun h => h3 (by omega))]; exact Ev.now _
  simp only [if_pos h1, if_pos h2, if_pos h3, spec_l21Signed.f, headL, if_pos (show 0 ≤ n ∧ n ≤ 200 ∧ root.length = 16 from ⟨h1, h2, by omega⟩)]
  have e1 : Ev (fun k => (spec_l2Bytes.f k n).bind fun t => if t.length + root.length < 140737488355328 then some (t ++ root) else none) (yb n ++ root) := by
    refine Ev.bind ⟨5, fun k hk => specBytes_eq n (by omega) (by omega) k hk⟩ ?_
    simp only [if_pos (show (yb n).length + root.length < 140737488355328 by rw [yb_len]; omega)]
    exact Ev.now _
  refine Ev.bind e1 ?_
  exact Ev.bind (specVerify_ev p _ r s (isBytes_append (yb_bytes n) hb)) (Ev.now _)
theorem implHead_ev (p n : Int) (root : List Int) (r s : Int) (hb : isBytes root) : Ev (fun k => impl_CheckHead.f k p n root r s) (headL p n root r s) := by
  simp only [impl_CheckHead.f]
  by_cases h1 : n ≥ 0
  case neg => simp only [if_neg h1, headL, if_neg (show ¬ (0 ≤ n ∧ n ≤ 200 ∧ root.length = 16) from fun h => h1 h.1)]; exact Ev.now _
  by_cases h2 : n ≤ 200
  case neg => simp only [if_pos h1, if_neg h2, headL, if_neg (show ¬ (0 ≤ n ∧ n ≤ 200 ∧ root.length = 16) from fun h => h2 h.2.1)]; exact Ev.now _
  by_cases h3 : root.length = 16
  case neg =>
    have e : impl_ysixteen.f [root] = some false := by simp [impl_ysixteen.f, bad16, h3]
    simp only [if_pos h1, if_pos h2, e, Option.bind_some, Bool.false_eq_true, if_false, headL, if_neg (show ¬ (0 ≤ n ∧ n ≤ 200 ∧ root.length = 16) from fun h => h3 h.2.2)]; exact Ev.now _
  have e : impl_ysixteen.f [root] = some true := by simp [impl_ysixteen.f, bad16, h3]
  have e2 : impl_yheadBytes.f n root = some (yb n ++ root) := by
    have y1 : impl_ybytes.f n = some (yb n) := rfl
    unfold impl_yheadBytes.f
    rw [y1, Option.bind_some, if_pos (by rw [yb_len]; omega)]
  simp only [if_pos h1, if_pos h2, e, e2, Option.bind_some, if_true, headL, if_pos (show 0 ≤ n ∧ n ≤ 200 ∧ root.length = 16 from ⟨h1, h2, h3⟩)]
  exact Ev.bind (implVerify_ev p _ r s (isBytes_append (yb_bytes n) hb)) (Ev.now _)
theorem toHead_ev (n : Int) (root : List Int) (r s : Int) (hl : root.length ≤ 1048576) : Ev (fun k => laws_toLogHead.f k n root r s) (n, root, r, s) := by
  simp only [laws_toLogHead.f, laws_toSig.f, Option.bind_some]
  exact Ev.bind (toByteS_ev root (by omega)) (Ev.now _)
theorem eqHead_refl (n : Int) (root : List Int) (r s : Int) (hl : root.length ≤ 1048576) : Ev (fun k => laws_eqLogHead.f k n root r s n root r s) true := by
  simp only [laws_eqLogHead.f, laws_eqSig.f, if_true, Option.bind_some]
  refine Ev.bind (eqByteS_refl root (by omega)) ?_
  simp only [if_true]
  exact Ev.now _
theorem FnExactCheckHead : laws_FnExactCheckHead.Pure := by
  intro p n root r s hp hn hroot hr hs
  have hlen := hroot.1
  by_cases hneg : wrap64 (1048576 - (root.length : Int)) < 0
  · exact ⟨0, by simp only [laws_FnExactCheckHead.f, laws_szLogHead.f, szByteS_eq, if_pos hneg, Option.bind_some, show ((-1 : Int) < 0) by omega, if_true]⟩
  have hsz : laws_szLogHead.f n root r s 1048576 = some (wrap64 (1048576 - (root.length : Int))) := by
    simp only [laws_szLogHead.f, szByteS_eq, if_neg hneg, Option.bind_some]
  have hl : root.length ≤ 1048576 := by
    rw [w64 (by omega) (by omega)] at hneg
    omega
  apply Ev.rounds
  simp only [laws_FnExactCheckHead.f, hsz, Option.bind_some, if_neg hneg]
  refine Ev.bind (toHead_ev n root r s hl) ?_
  refine Ev.bind (specHead_ev p n root r s (isBytes_okL hroot)) ?_
  refine Ev.bind (toHead_ev n root r s hl) ?_
  refine Ev.bind (implHead_ev p n root r s (isBytes_okL hroot)) ?_
  simp only [bne_self_eq_false, Bool.false_eq_true, if_false]
  refine Ev.bind (toHead_ev n root r s hl) ?_
  refine Ev.bind (eqHead_refl n root r s hl) ?_
  simp only [if_true]
  exact Ev.now _
end Go.Proofs.Ytipdkendfcopiaa.Pure
/- The law FnExactCheckHead: whatever the input, the call returns true and the arguments read as before. No conditions. -/
namespace Go.Proofs.Ytipdkendfcopiaa.fnExactCheckHead
open Go.ChangeShapes Go.WideShapes Go.ChangeAt Go.RowKit Go.Proofs.Ytipdkendfcopiaa.Read Go.Proofs.YtipdkendfcopiaaW.PrintWords Go.Proofs.Ytipdkendfcopiaa.Pr
open Go.ChangeMaps (open_string shut_string)
set_option linter.unusedVariables false
theorem own : ownKnob Try.prog.godebug = none := by kernel_rfl
theorem laidOut : laidOutB Try.prog = true := by kernel_rfl
set_option maxRecDepth 100000 in
theorem lifted (os : Os) (started : os.Started) (H : Type) (enc : TypeId × Value → H) :
    ReturnsInHanded {} Try.checked os 12 .any (Rows.fnExactCheckHeadSpec.pre6 enc Try.prog Try.f12 Rows.fnExactCheckHeadRow.domain false) (Rows.fnExactCheckHeadSpec.post enc Try.prog Try.f12 false true false false) := by
  refine returnsInHanded_of_change (C := Try.checked) own started (by kernel_rfl) Try.func12
    (ChangeSpec.witness6 (enc := enc) (C := Try.checked) false ⟨#[], #[.int .i64 0, .agg #[.int .i64 0, .slice none 0 0, .int .i64 0, .int .i64 0]], []⟩ 8 (by kernel_rfl) (by kernel_rfl) (by kernel_rfl) (by kernel_rfl)) ?_
  intro W base args ds gs before hval0 hW hcnd _
  have hval : ∀ (j : Nat) t v, Try.f12.params[j]? = some t → args[j]? = some v → Value.okWide Try.prog W .any base t v := hval0
  have hW' := hW
  obtain ⟨p, q, hA0, hV, rfl, hfz, hnd⟩ := hW
  have hA : DataW.TrodAll enc Try.prog W 0 (fun _ => true) true Try.f12.params.toList args.toList ds p := hA0
  rw [Try.params12] at hA hval
  obtain ⟨v0, vs0, d0, ds0, p0, q0, hargs, rfl, rfl, h0, r0⟩ := trodAll_cons hA
  obtain ⟨v1, vs1, d1, ds1, p1, q1, rfl, rfl, rfl, h1, r1⟩ := trodAll_cons r0
  obtain ⟨rfl, rfl, rfl⟩ := trodAll_nil r1
  obtain rfl : args = #[v0, v1] := by cases args; simp_all
  obtain ⟨rfl, rfl⟩ := trodVars_none hV
  have lt0 : ∀ x ∈ p0, x.block < W.heap.size := by obtain ⟨m, hm⟩ := h0; exact DataW.trod_lt m _ _ _ hm
  have bk0 := fun {W' : World} (bel : Below W.heap.size W W') => Below.trod laidOut (by kernel_rfl) (of_decide_eq_true (by kernel_rfl)) h0 bel lt0
  obtain ⟨a0, rfl, _, _, w0⟩ := open_int Try.underlying3 (hval 0 3 v0 rfl rfl) h0
  have o0 := int_bounds w0
  have lt1 : ∀ x ∈ p1, x.block < W.heap.size := by obtain ⟨m, hm⟩ := h1; exact DataW.trod_lt m _ _ _ hm
  have bk1 := fun {W' : World} (bel : Below W.heap.size W W') => Below.trod laidOut (by kernel_rfl) (of_decide_eq_true (by kernel_rfl)) h1 bel lt1
  obtain ⟨⟨a1_0, ⟨l1_1, ⟨a1_2, a1_3⟩⟩⟩, cs1, hv1, hK1, ⟨o1_0, ⟨o1_1, ⟨o1_2, o1_3⟩⟩⟩⟩ := arg_struct Try.underlying56 (tells_struct Try.underlying56 (by kernel_rfl) (fs_cons rfl (tellsI Try.underlying3 (by kernel_rfl)) (fs_cons rfl (tellsL Try.underlying22 (by kernel_rfl) (tellsB Try.underlying5 (by kernel_rfl))) (fs_one rfl (tells_struct Try.underlying54 (by kernel_rfl) (fs_cons rfl (tellsI Try.underlying3 (by kernel_rfl)) (fs_one rfl (tellsI Try.underlying3 (by kernel_rfl))))))))) (hval 1 56 v1 rfl rfl) h1
  obtain ⟨_, _, rfl, rfl, ⟨_, _, rfl, ⟨A1_1, c1_1, rfl, hl1_1, hC1_1⟩, ⟨_, _, rfl, rfl, rfl⟩⟩⟩ := hK1
  simp only [List.cons_append, List.nil_append] at hv1
  subst hv1
  obtain ⟨k, hk⟩ := Pure.FnExactCheckHead a0 a1_0 l1_1 a1_2 a1_3 o0 o1_0 o1_1 o1_2 o1_3
  refine (laws_FnExactCheckHead.calls k a0 a1_0 _ _ l1_1 a1_2 a1_3 true W hC1_1 hl1_1 hk).mono fun e W' hpost => ?_
  obtain ⟨he, hb⟩ := hpost
  have bel : Below W.heap.size W W' := hb
  subst he
  exact ⟨_, rfl, _, _, _, [], _, [], hW', trodAll_mk1 (shut_bool Try.underlying4 _), (trodAll_cons_mk (bk0 bel) (trodAll_cons_mk (bk1 bel) trodAll_mk0)), rfl, bel.frame _, fun h => by cases h⟩
theorem over : Rows.fnExactCheckHeadRow.holds Try.pinned (OpenSpec.ofChange Rows.fnExactCheckHeadSpec) :=
  OpenClaim.holds_of_wide 12 Try.f12 rfl rfl rfl rfl rfl rfl rfl ⟨rfl, rfl, rfl, rfl, rfl⟩ rfl rfl rfl rfl rfl (by kernel_rfl) Try.func12 (by kernel_rfl)
    (of_decide_eq_true (by kernel_rfl)) (by unfold Func.isWrapper; first | (rw [if_pos (by decide +kernel)]; kernel_rfl) | (rw [if_neg (by decide +kernel)]; exact ⟨rfl, rfl⟩))
    (fun os started H enc _ => lifted os started H enc)
theorem proved : Rows.FnExactCheckHeadSaid := over
#print axioms proved
end Go.Proofs.Ytipdkendfcopiaa.fnExactCheckHead
namespace Go.Proofs.Ytipdkendfcopiaa
/-- The row, under a short name, for the claim. -/
theorem fnExactCheckHead_holds : Rows.FnExactCheckHeadSaid := fnExactCheckHead.proved
end Go.Proofs.Ytipdkendfcopiaa
