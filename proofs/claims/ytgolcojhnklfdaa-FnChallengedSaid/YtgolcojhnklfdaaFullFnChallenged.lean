/- The law FnChallenged: whatever the input, the call returns true and the arguments read as before. No conditions. -/
import Derived.Test.YtgolcojhnklfdaaFullFnChallengedC
import Derived.Test.YtgolcojhnklfdaaFullFnChallengedF
import Derived.Test.YtgolcojhnklfdaaFullFnChallengedE
import Derived.Laws.Strings
import Derived.Test.YtgolcojhnklfdaaFullFnChallengedD
import Derived.Test.YtgolcojhnklfdaaRows
import Derived.WalkKit
import Derived.ProofKit
import Derived.OpenShut
import Derived.ShutString
import Derived.ChangeOld
import Derived.Below
/- The pure statement of the law FnChallenged. -/
namespace Go.Proofs.Ytgolcojhnklfdaa.Pr
open Go.RowKit Go.Proofs.Ytgolcojhnklfdaa.Read Go.Proofs.YtgolcojhnklfdaaW.PrintWords
set_option linter.unusedVariables false
/-- What is left of the law FnChallenged: a statement about numbers and lists. -/
def laws_FnChallenged.Pure : Prop := ∀ (l0 : (List Int)), (okL okB) l0 → ∃ k, laws_FnChallenged.f k l0 = some true
end Go.Proofs.Ytgolcojhnklfdaa.Pr
/- The helpers over slices of bytes: copied, compared, marked, held: plain facts. -/
namespace Go.Proofs.Ytgolcojhnklfdaa.Pr
open Go.RowKit Go.Proofs.Ytgolcojhnklfdaa.Read Go.Proofs.YtgolcojhnklfdaaW.PrintWords

theorem w64 {n : Int} (h0 : -9223372036854775808 ≤ n) (h1 : n ≤ 9223372036854775807) : wrap64 n = n := by unfold wrap64; omega
theorem rd_nat {l : List Int} {i : Nat} (h : i < l.length) : rd l (i : Int) = l[i] := by
  simp [rd, List.getD_eq_getElem?_getD, List.getElem?_eq_getElem h]
theorem list_rd_ext {a b : List Int} (hl : a.length = b.length) (h : ∀ i : Nat, i < a.length → rd a i = rd b i) : a = b := by
  apply List.ext_getElem hl
  intro i h1 h2
  have := h i h1
  rwa [rd_nat h1, rd_nat h2] at this

theorem szByteS_eq (l : List Int) (n : Int) : laws_szByteS.f l n = some (if wrap64 (n - l.length) < 0 then -1 else wrap64 (n - l.length)) := by
  unfold laws_szByteS.f; split <;> rfl

theorem toByteS_l0 (x0 : List Int) (hl : x0.length ≤ 281474976710656) (d : Nat) : ∀ (k i : Nat) (x3 : List Int), x0.length - i = d → i ≤ x0.length → x3.length = x0.length → d < k → laws_toByteS.l0 k x0 x3 i = some (x3.take i ++ x0.drop i) := by
  induction d with
  | zero =>
    intro k i x3 hd hi h3 hk
    obtain ⟨k, rfl⟩ : ∃ m, k = m + 1 := ⟨k - 1, by omega⟩
    simp only [laws_toByteS.l0]
    rw [if_neg (by omega), List.take_of_length_le (by omega), List.drop_of_length_le (by omega), List.append_nil]
  | succ d ih =>
    intro k i x3 hd hi h3 hk
    obtain ⟨k, rfl⟩ : ∃ m, k = m + 1 := ⟨k - 1, by omega⟩
    simp only [laws_toByteS.l0]
    rw [if_pos (by omega), if_pos (by omega), if_pos (by omega), w64 (by omega) (by omega)]
    have e := ih k (i + 1) (x3.set i (rd x0 i)) (by omega) (by omega) (by simpa using h3) (by omega)
    rw [Int.toNat_natCast]
    rw [show ((i : Int) + 1) = ((i + 1 : Nat) : Int) from rfl, e]
    congr 1
    have hlt : i < x0.length := by omega
    rw [List.take_succ_eq_append_getElem (by simp; omega), List.getElem_set_self, List.take_set_of_le (by omega), rd_nat hlt, List.append_assoc, List.singleton_append, ← List.drop_eq_getElem_cons hlt]
theorem toByteS_ev (l : List Int) (hl : l.length ≤ 281474976710656) : Ev (fun k => laws_toByteS.f k l) l :=
  ⟨l.length + 1, fun k hk => by
    show laws_toByteS.f k l = some l
    unfold laws_toByteS.f
    rw [if_pos (by omega), if_pos (by omega)]
    have := toByteS_l0 l hl l.length k 0 (List.replicate ((l.length : Int)).toNat 0) (by omega) (by omega) (by simp) (by omega)
    simpa using this⟩

theorem eqByteS_l0 (x0 x1 : List Int) (hl : x0.length = x1.length) (hm : x0.length ≤ 281474976710656) (d : Nat) : ∀ (k i : Nat), x0.length - i = d → i ≤ x0.length → d < k → laws_eqByteS.l0 k x0 x1 i = some (decide (x0.drop i = x1.drop i)) := by
  induction d with
  | zero =>
    intro k i hd hi hk
    obtain ⟨k, rfl⟩ : ∃ m, k = m + 1 := ⟨k - 1, by omega⟩
    simp only [laws_eqByteS.l0]
    rw [if_neg (by omega), List.drop_of_length_le (by omega), List.drop_of_length_le (by omega)]; simp
  | succ d ih =>
    intro k i hd hi hk
    obtain ⟨k, rfl⟩ : ∃ m, k = m + 1 := ⟨k - 1, by omega⟩
    simp only [laws_eqByteS.l0]
    have h0 : i < x0.length := by omega
    have h1 : i < x1.length := by omega
    rw [if_pos (by omega), if_pos (by omega), if_pos (by omega), w64 (by omega) (by omega), rd_nat h0, rd_nat h1, List.drop_eq_getElem_cons h0, List.drop_eq_getElem_cons h1]
    have e := ih k (i + 1) (by omega) (by omega) (by omega)
    rw [show ((i : Int) + 1) = ((i + 1 : Nat) : Int) from rfl, e]
    by_cases hx : x0[i] = x1[i]
    · rw [if_pos hx]; congr 1; rw [decide_eq_decide, hx, List.cons.injEq]; exact ⟨fun h => ⟨rfl, h⟩, fun h => h.2⟩
    · rw [if_neg hx]; congr 1; symm; rw [decide_eq_false_iff_not, List.cons.injEq]; exact fun h => hx h.1
theorem eqByteS_ev (a b : List Int) (hl : a.length ≤ 281474976710656) : Ev (fun k => laws_eqByteS.f k a b) (decide (a = b)) :=
  ⟨a.length + 1, fun k hk => by
    show laws_eqByteS.f k a b = _
    unfold laws_eqByteS.f
    by_cases h : a.length = b.length
    · rw [if_pos (by omega)]
      have := eqByteS_l0 a b h hl a.length k 0 (by omega) (by omega) (by omega)
      simpa using this
    · rw [if_neg (by omega)]
      have : a ≠ b := fun e => h (by rw [e])
      simp [this]⟩
theorem eqByteS_refl (a : List Int) (hl : a.length ≤ 281474976710656) : Ev (fun k => laws_eqByteS.f k a a) true := by
  have := eqByteS_ev a a hl
  simpa using this

/-- What a marked slice of n bytes holds, counted from k. -/
def markL : Nat → Int → List Int
  | 0, _ => []
  | n + 1, k => k % 256 :: markL n (k + 1)
theorem markL_len : ∀ (n : Nat) (k : Int), (markL n k).length = n
  | 0, _ => rfl
  | n + 1, k => by simp [markL, markL_len n]
theorem markByteS_l0 (d : Nat) : ∀ (k i : Nat) (c : Int) (x0 : List Int), x0.length - i = d → i ≤ x0.length → x0.length ≤ 281474976710656 → 0 ≤ c → c + d ≤ 9000000000000000000 → d < k → laws_markByteS.l0 k x0 c i = some (c + d, x0.take i ++ markL d c) := by
  induction d with
  | zero =>
    intro k i c x0 hd hi hl hc hc2 hk
    obtain ⟨k, rfl⟩ : ∃ m, k = m + 1 := ⟨k - 1, by omega⟩
    simp only [laws_markByteS.l0]
    rw [if_neg (by omega), List.take_of_length_le (by omega)]; simp [markL]
  | succ d ih =>
    intro k i c x0 hd hi hl hc hc2 hk
    obtain ⟨k, rfl⟩ : ∃ m, k = m + 1 := ⟨k - 1, by omega⟩
    simp only [laws_markByteS.l0]
    rw [if_pos (by omega), if_pos (by omega), w64 (by omega) (by omega), w64 (by omega) (by omega), Int.toNat_natCast]
    have e := ih k (i + 1) (c + 1) (x0.set i (c % 256)) (by simp; omega) (by simp; omega) (by simpa using hl) (by omega) (by omega) (by omega)
    rw [show ((i : Int) + 1) = ((i + 1 : Nat) : Int) from rfl, e]
    have hlt : i < x0.length := by omega
    rw [List.take_succ_eq_append_getElem (by simp; omega), List.getElem_set_self, List.take_set_of_le (by omega), List.append_assoc, List.singleton_append, markL]
    congr 2; omega
theorem markByteS_ev (l : List Int) (c : Int) (hl : l.length ≤ 281474976710656) (hc : 0 ≤ c) (hc2 : c ≤ 8000000000000000000) : Ev (fun k => laws_markByteS.f k l c) (c + l.length, markL l.length c) :=
  ⟨l.length + 1, fun k hk => by
    have := markByteS_l0 l.length k 0 c l (by omega) (by omega) hl hc (by omega) (by omega)
    simpa [laws_markByteS.f] using this⟩
theorem heldByteS_l0 (n : Nat) : ∀ (k i : Nat) (c : Int) (x0 : List Int), x0.drop i = markL n c → i ≤ x0.length → x0.length ≤ 281474976710656 → 0 ≤ c → c + n ≤ 9000000000000000000 → n < k → laws_heldByteS.l0 k x0 c i = some (c + n) := by
  induction n with
  | zero =>
    intro k i c x0 hd hi hl hc hc2 hk
    obtain ⟨k, rfl⟩ : ∃ m, k = m + 1 := ⟨k - 1, by omega⟩
    have hlen := congrArg List.length hd
    rw [List.length_drop, markL_len] at hlen
    simp only [laws_heldByteS.l0]
    rw [if_neg (by omega)]; simp
  | succ n ih =>
    intro k i c x0 hd hi hl hc hc2 hk
    obtain ⟨k, rfl⟩ : ∃ m, k = m + 1 := ⟨k - 1, by omega⟩
    have hlen := congrArg List.length hd
    rw [List.length_drop, markL_len] at hlen
    have hlt : i < x0.length := by omega
    rw [List.drop_eq_getElem_cons hlt, markL] at hd
    injection hd with h1 h2
    simp only [laws_heldByteS.l0]
    rw [if_pos (by omega), if_pos (by omega), rd_nat hlt, if_pos h1, w64 (by omega) (by omega), w64 (by omega) (by omega), show ((i : Int) + 1) = ((i + 1 : Nat) : Int) from rfl, ih k (i + 1) (c + 1) x0 h2 (by omega) hl (by omega) (by omega) (by omega)]
    congr 1; omega
theorem heldByteS_ev (n : Nat) (c : Int) (hl : n ≤ 281474976710656) (hc : 0 ≤ c) (hc2 : c ≤ 8000000000000000000) : Ev (fun k => laws_heldByteS.f k (markL n c) c) (c + n) :=
  ⟨n + 1, fun k hk => by
    have := heldByteS_l0 n k 0 c (markL n c) (by simp) (by omega) (by rw [markL_len]; exact hl) hc (by omega) (by omega)
    simpa [laws_heldByteS.f] using this⟩
end Go.Proofs.Ytgolcojhnklfdaa.Pr
/- Powers modulo the prime: the program's (from the right) and the reference's (from the left) are one. -/
namespace Go.Proofs.Ytgolcojhnklfdaa.Pr
open Go.RowKit Go.Proofs.Ytgolcojhnklfdaa.Read Go.Proofs.YtgolcojhnklfdaaW.PrintWords
def pwm (b : Int) (e : Nat) : Int := b ^ e % 2147483579
theorem pwm_range (b : Int) (e : Nat) : 0 ≤ pwm b e ∧ pwm b e < 2147483579 := ⟨Int.emod_nonneg _ (by omega), Int.emod_lt_of_pos _ (by omega)⟩
theorem pow_emod' (a m : Int) (n : Nat) : (a % m) ^ n % m = a ^ n % m := by
  induction n with
  | zero => simp
  | succ n ih => rw [Int.pow_succ, Int.pow_succ, Int.mul_emod, ih, Int.emod_emod, ← Int.mul_emod]
theorem pow_double (x : Int) (h : Nat) : x ^ (2 * h) = (x * x) ^ h := by
  induction h with
  | zero => simp
  | succ h ih => rw [show 2 * (h + 1) = 2 * h + 1 + 1 by omega, Int.pow_succ, Int.pow_succ, ih, Int.pow_succ, Int.mul_assoc]
theorem mulP {a b : Int} (ha : 0 ≤ a) (ha2 : a < 2147483579) (hb : 0 ≤ b) (hb2 : b < 2147483579) : 0 ≤ a * b ∧ a * b ≤ 4611685717779682084 := by
  refine ⟨Int.mul_nonneg ha hb, ?_⟩
  have := Int.mul_le_mul (show a ≤ 2147483578 by omega) (show b ≤ 2147483578 by omega) hb (by omega)
  omega
theorem mulM {a b : Int} (ha : 0 ≤ a) (ha2 : a < 2147483579) (hb : 0 ≤ b) (hb2 : b < 2147483579) : Int.tmod (wrap64 (a * b)) 2147483579 = a * b % 2147483579 := by
  have := mulP ha ha2 hb hb2
  rw [w64 (by omega) (by omega), Int.tmod_eq_emod_of_nonneg this.1]
theorem and1 (e : Nat) (he : e < 9223372036854775808) : Go.bits .and .i64 (e : Int) 1 = ((e % 2 : Nat) : Int) := by
  have h1 : (BitVec.ofInt 64 (e : Int)).toNat = e := by
    rw [BitVec.ofInt_natCast, BitVec.toNat_ofNat]; exact Nat.mod_eq_of_lt (by omega)
  have h : ((BitVec.ofInt 64 (e : Int)) &&& (BitVec.ofInt 64 1)).toNat = e % 2 := by
    rw [BitVec.toNat_and, h1]
    exact Nat.and_one_is_mod e
  have e0 : Go.bits .and .i64 (e : Int) 1 = IntKind.i64.wrap ((((BitVec.ofInt 64 (e : Int)) &&& (BitVec.ofInt 64 1)).toNat : Nat) : Int) := rfl
  rw [e0, h]
  exact IntWalk.i64_in _ (by omega)
theorem ypow_l0 : ∀ (f k e : Nat) (x0 x7 : Int), 0 ≤ x0 → x0 < 2147483579 → 0 ≤ x7 → x7 < 2147483579 → e < 2 ^ f → f ≤ 60 → f < k → impl_ypow.l0 k x0 e 2147483579 x7 = some (x7 * x0 ^ e % 2147483579) := by
  intro f
  induction f with
  | zero =>
    intro k e x0 x7 h0 h1 h2 h3 he hf hk
    obtain ⟨k, rfl⟩ : ∃ m, k = m + 1 := ⟨k - 1, by omega⟩
    obtain rfl : e = 0 := by simpa using he
    simp only [impl_ypow.l0, if_neg (show ¬ (((0 : Nat) : Int) > 0) by omega)]
    rw [Int.pow_zero, Int.mul_one, Int.emod_eq_of_lt h2 h3]
  | succ f ih =>
    intro k e x0 x7 h0 h1 h2 h3 he hf hk
    obtain ⟨k, rfl⟩ : ∃ m, k = m + 1 := ⟨k - 1, by omega⟩
    by_cases hz : e = 0
    · subst hz
      simp only [impl_ypow.l0, if_neg (show ¬ (((0 : Nat) : Int) > 0) by omega)]
      rw [Int.pow_zero, Int.mul_one, Int.emod_eq_of_lt h2 h3]
    · have hlim : e < 9223372036854775808 := Nat.lt_of_lt_of_le he (Nat.le_trans (Nat.pow_le_pow_right (by omega) (show f + 1 ≤ 61 by omega)) (by decide))
      have hdiv : ((e : Int) / 2) = ((e / 2 : Nat) : Int) := by omega
      have hhalf : e / 2 < 2 ^ f := by rw [Nat.pow_succ] at he; omega
      have s0 : 0 ≤ x0 * x0 % 2147483579 := Int.emod_nonneg _ (by omega)
      have s1 : x0 * x0 % 2147483579 < 2147483579 := Int.emod_lt_of_pos _ (by omega)
      have t0 : 0 ≤ x7 * x0 % 2147483579 := Int.emod_nonneg _ (by omega)
      have t1 : x7 * x0 % 2147483579 < 2147483579 := Int.emod_lt_of_pos _ (by omega)
      simp only [impl_ypow.l0, if_pos (show ((e : Int) > 0) by omega), and1 e hlim, if_neg (show ¬ ((2147483579 : Int) = 0) by omega), mulM h0 h1 h0 h1, mulM h2 h3 h0 h1, hdiv]
      by_cases ho : e % 2 = 1
      · rw [if_pos (by omega), ih k (e / 2) _ _ s0 s1 t0 t1 hhalf (by omega) (by omega)]
        congr 1
        rw [Int.mul_emod, pow_emod', Int.emod_emod, ← Int.mul_emod, ← pow_double]
        conv => rhs; rw [show e = 2 * (e / 2) + 1 by omega, Int.pow_succ]
        congr 1
        ac_rfl
      · rw [if_neg (by omega), ih k (e / 2) _ _ s0 s1 h2 h3 hhalf (by omega) (by omega)]
        congr 1
        rw [Int.mul_emod, pow_emod', ← Int.mul_emod, ← pow_double]
        conv => rhs; rw [show e = 2 * (e / 2) by omega]
theorem ypow_eq (b : Int) (e : Nat) (h0 : 0 ≤ b) (h1 : b < 2147483579) (he : e < 2199023255552) (k : Nat) (hk : 50 ≤ k) : impl_ypow.f k b e 2147483579 = some (pwm b e) := by
  unfold impl_ypow.f
  rw [if_neg (by omega), Int.tmod_eq_emod_of_nonneg h0, Int.emod_eq_of_lt h0 h1, ypow_l0 41 k e b 1 h0 h1 (by omega) (by omega) (by simpa using he) (by omega) (by omega), Int.one_mul]
  rfl
theorem shr_nat (e n : Nat) (hn : n ≤ 64) : shr .i64 (e : Int) (n : Int) = ((e / 2 ^ n : Nat) : Int) := by
  unfold shr
  rw [Int.toNat_natCast, Nat.min_eq_left (show n ≤ IntKind.i64.bits from hn)]
  simp
theorem l2Power_l0 (e : Nat) (he : e < 2199023255552) (x0 : Int) (h0 : 0 ≤ x0) (h1 : x0 < 2147483579) : ∀ (n k : Nat) (x7 : Int), n ≤ 41 → x7 = x0 ^ (e / 2 ^ n) % 2147483579 → n < k → spec_l2Power.l0 k x0 e 2147483579 x7 ((n : Int) - 1) = some (x0 ^ e % 2147483579) := by
  intro n
  induction n with
  | zero =>
    intro k x7 hn hx hk
    obtain ⟨k, rfl⟩ : ∃ m, k = m + 1 := ⟨k - 1, by omega⟩
    simp only [spec_l2Power.l0, if_neg (show ¬ (((0 : Nat) : Int) - 1 ≥ 0) by omega)]
    rw [hx, Nat.pow_zero, Nat.div_one]
  | succ n ih =>
    intro k x7 hn hx hk
    obtain ⟨k, rfl⟩ : ∃ m, k = m + 1 := ⟨k - 1, by omega⟩
    have en : (((n + 1 : Nat) : Int) - 1) = (n : Int) := by omega
    have ew : IntKind.u64.wrap (n : Int) = (n : Int) := by rw [IntKind.wrap_u64]; omega
    have em : wrap64 ((n : Int) - 1) = (n : Int) - 1 := w64 (by omega) (by omega)
    have hq : e / 2 ^ n < 9223372036854775808 := Nat.lt_of_le_of_lt (Nat.div_le_self _ _) (by omega)
    have hh : e / 2 ^ (n + 1) = (e / 2 ^ n) / 2 := by rw [Nat.pow_succ, Nat.div_div_eq_div_mul]
    have x0' : 0 ≤ x7 := by rw [hx]; exact Int.emod_nonneg _ (by omega)
    have x1' : x7 < 2147483579 := by rw [hx]; exact Int.emod_lt_of_pos _ (by omega)
    have s0 : 0 ≤ x7 * x7 % 2147483579 := Int.emod_nonneg _ (by omega)
    have s1 : x7 * x7 % 2147483579 < 2147483579 := Int.emod_lt_of_pos _ (by omega)
    have hsq : x7 * x7 % 2147483579 = x0 ^ (2 * ((e / 2 ^ n) / 2)) % 2147483579 := by
      rw [hx, hh, ← Int.mul_emod, Nat.two_mul, Int.pow_add]
    simp only [spec_l2Power.l0, en, if_pos (show ((n : Int) ≥ 0) by omega), if_neg (show ¬ ((2147483579 : Int) = 0) by omega), ew, shr_nat e n (by omega), and1 _ hq, mulM x0' x1' x0' x1', mulM s0 s1 h0 h1, em]
    by_cases ho : (e / 2 ^ n) % 2 = 1
    · rw [if_pos (by omega)]
      refine ih k _ (by omega) ?_ (by omega)
      rw [hsq, Int.mul_emod, Int.emod_emod, ← Int.mul_emod, ← Int.pow_succ, Nat.succ_eq_add_one, show 2 * (e / 2 ^ n / 2) + 1 = e / 2 ^ n by omega]
    · rw [if_neg (by omega)]
      refine ih k _ (by omega) ?_ (by omega)
      rw [hsq, show 2 * (e / 2 ^ n / 2) = e / 2 ^ n by omega]
theorem l2Power_eq (b : Int) (e : Nat) (h0 : 0 ≤ b) (h1 : b < 2147483579) (he : e < 2199023255552) (k : Nat) (hk : 50 ≤ k) : spec_l2Power.f k b e 2147483579 = some (pwm b e) := by
  unfold spec_l2Power.f
  exact l2Power_l0 e he b h0 h1 41 k 1 (by omega) (by rw [Nat.div_eq_of_lt (by simpa using he), Int.pow_zero]; rfl) (by omega)
attribute [irreducible] pwm
end Go.Proofs.Ytgolcojhnklfdaa.Pr
/- The digest: the reference's and the program's come to one. Plain facts. -/
namespace Go.Proofs.Ytgolcojhnklfdaa.Pr
open Go.RowKit Go.Proofs.Ytgolcojhnklfdaa.Read Go.Proofs.YtgolcojhnklfdaaW.PrintWords

def inP (a : List Int) : Prop := a.length = 4 ∧ ∀ j, j < 4 → 0 ≤ a.getD j 0 ∧ a.getD j 0 < 2147483579
theorem inP_start : inP [11, 22, 33, 44] := ⟨rfl, by decide⟩
theorem inP_mix {a : List Int} (h : inP a) (x : Int) (hx : 0 ≤ x) : inP (dgMix a x) := ⟨by rw [dgMix, mix_len, h.1], mix_bd a x hx h.1 h.2 4 (by omega)⟩
theorem inP_all : ∀ (l a : List Int), inP a → (∀ x ∈ l, 0 ≤ x) → inP (dgAll a l)
  | [], _, h, _ => h
  | x :: l, a, h, hx => inP_all l (dgMix a x) (inP_mix h x (hx x List.mem_cons_self)) (fun y hy => hx y (List.mem_cons_of_mem _ hy))
theorem dgAll_cons (a : List Int) (x : Int) (l : List Int) : dgAll a (x :: l) = dgAll (dgMix a x) l := rfl
theorem mt_at (i : Nat) (h : i < 4) : rd [1103515245, 69069, 1664525, 22695477] (i : Int) = mulT.getD i 0 := by
  match i, h with
  | 0, _ => rfl
  | 1, _ => rfl
  | 2, _ => rfl
  | 3, _ => rfl
theorem rd_getD (l : List Int) (i : Nat) : rd l (i : Int) = l.getD i 0 := by simp [rd]
theorem specMix_step (l : List Int) (h : inP l) (x : Int) (hx : 0 ≤ x ∧ x ≤ 255) (i : Nat) (hi : i < 4) (k : Nat) :
    spec_l2Mix.l0 (k + 1) (mixN l x i) x [1103515245, 69069, 1664525, 22695477] i = spec_l2Mix.l0 k (mixN l x (i + 1)) x [1103515245, 69069, 1664525, 22695477] ((i + 1 : Nat) : Int) := by
  have hlen : (mixN l x i).length = 4 := by rw [mix_len, h.1]
  have b1 := mix_bd l x hx.1 h.1 h.2 i (by omega) i hi
  have b2 := mix_bd l x hx.1 h.1 h.2 i (by omega) ((i + 1) % 4) (by omega)
  have b3 := mulOk i hi
  simp only [spec_l2Mix.l0]
  rw [w64 (n := (i : Int) + 1) (by omega) (by omega)]
  have e6 : Int.tmod ((i : Int) + 1) 4 = ((i + 1) % 4 : Nat) := by rw [Int.tmod_eq_emod_of_nonneg (by omega)]; omega
  rw [e6, mt_at i hi, rd_getD, rd_getD]
  obtain ⟨p1, e1⟩ : ∃ p, p = (mixN l x i).getD i 0 := ⟨_, rfl⟩
  obtain ⟨p2, e2⟩ : ∃ p, p = (mixN l x i).getD ((i + 1) % 4) 0 := ⟨_, rfl⟩
  obtain ⟨p3, e3⟩ : ∃ p, p = mulT.getD i 0 := ⟨_, rfl⟩
  have e5 : mixN l x (i + 1) = (mixN l x i).set i ((p1 * p3 + x + 1 + p2) % 2147483579) := by rw [e1, e2, e3]; rfl
  rw [e5, ← e1, ← e2, ← e3]
  rw [← e1] at b1; rw [← e2] at b2; rw [← e3] at b3
  have b4 := prod_bd b1.1 b1.2 b3.1 b3.2
  rw [if_pos (by omega), if_pos (by omega), if_pos (by omega), if_pos (by simp; omega), if_pos (by omega), if_pos (by omega), w64 (n := p1 * p3) (by omega) (by omega), w64 (n := p1 * p3 + x) (by omega) (by omega), w64 (n := p1 * p3 + x + 1) (by omega) (by omega), w64 (by omega) (by omega), Int.tmod_eq_emod_of_nonneg (by omega), Int.toNat_natCast]
  rfl
theorem specMix_eq (l : List Int) (h : inP l) (x : Int) (hx : 0 ≤ x ∧ x ≤ 255) (k : Nat) (hk : 5 ≤ k) : spec_l2Mix.f k l x = some (dgMix l x) := by
  obtain ⟨k, rfl⟩ : ∃ m, k = m + 5 := ⟨k - 5, by omega⟩
  unfold spec_l2Mix.f
  have e0 := specMix_step l h x hx 0 (by omega) (k + 4)
  have e1 := specMix_step l h x hx 1 (by omega) (k + 3)
  have e2 := specMix_step l h x hx 2 (by omega) (k + 2)
  have e3 := specMix_step l h x hx 3 (by omega) (k + 1)
  have e4 : spec_l2Mix.l0 (k + 1) (mixN l x 4) x [1103515245, 69069, 1664525, 22695477] ((3 + 1 : Nat) : Int) = some (mixN l x 4) := by
    simp only [spec_l2Mix.l0]; rw [if_neg (by omega)]
  exact e0.trans (e1.trans (e2.trans (e3.trans e4)))
theorem tm256 (n : Int) (h : 0 ≤ n) : Int.tmod n 256 % 256 = n % 256 := by rw [Int.tmod_eq_emod_of_nonneg h]; omega
theorem td256 (n : Int) (h : 0 ≤ n) (h2 : n ≤ 9223372036854775807) : wrap64 (Int.tdiv n 256) = n / 256 := by
  rw [Int.tdiv_eq_ediv_of_nonneg h, w64 (by omega) (by omega)]
theorem specBytes_eq (n : Int) (h : 0 ≤ n) (h2 : n ≤ 9223372036854775807) (k : Nat) (hk : 5 ≤ k) : spec_l2Bytes.f k n = some (yb n) := by
  obtain ⟨k, rfl⟩ : ∃ m, k = m + 5 := ⟨k - 5, by omega⟩
  unfold spec_l2Bytes.f
  rw [if_pos (by omega)]
  simp only [Option.bind_some, List.length_replicate]
  simp only [spec_l2Bytes.l0]
  have a1 := td256 n h h2
  have a2 := td256 (n / 256) (by omega) (by omega)
  have a3 := td256 (n / 256 / 256) (by omega) (by omega)
  have w1 : wrap64 ((0 : Int) + 1) = 1 := by unfold wrap64; omega
  have w2 : wrap64 ((1 : Int) + 1) = 2 := by unfold wrap64; omega
  have w3 : wrap64 ((2 : Int) + 1) = 3 := by unfold wrap64; omega
  have w4 : wrap64 ((3 : Int) + 1) = 4 := by unfold wrap64; omega
  rw [w1, w2, w3, w4, a1, a2, a3, tm256 n h, tm256 _ (by omega), tm256 _ (by omega), tm256 _ (by omega)]
  simp [yb, List.replicate]
  omega
theorem specDig_l3 (a : List Int) (h : inP a) : ∀ (k : Nat), 10 ≤ k → spec_l2Digest.l3 k [] a (a.length : Int) 0 = some (a.flatMap yb) := by
  intro k hk
  obtain ⟨k, rfl⟩ : ∃ m, k = m + 10 := ⟨k - 10, by omega⟩
  obtain ⟨hl, hb⟩ := h
  match a, hl with
  | [b0, b1, b2, b3], _ =>
    have h0 := hb 0 (by omega)
    have h1 := hb 1 (by omega)
    have h2 := hb 2 (by omega)
    have h3 := hb 3 (by omega)
    simp only [List.getD_cons_zero, List.getD_cons_succ] at h0 h1 h2 h3
    have w1 : wrap64 ((0 : Int) + 1) = 1 := by unfold wrap64; omega
    have w2 : wrap64 ((1 : Int) + 1) = 2 := by unfold wrap64; omega
    have w3 : wrap64 ((2 : Int) + 1) = 3 := by unfold wrap64; omega
    have w4 : wrap64 ((3 : Int) + 1) = 4 := by unfold wrap64; omega
    have r0 : rd [b0, b1, b2, b3] 0 = b0 := rfl
    have r1 : rd [b0, b1, b2, b3] 1 = b1 := rfl
    have r2 : rd [b0, b1, b2, b3] 2 = b2 := rfl
    have r3 : rd [b0, b1, b2, b3] 3 = b3 := rfl
    simp only [spec_l2Digest.l3, w1, w2, w3, w4, r0, r1, r2, r3]
    rw [specBytes_eq b0 (by omega) (by omega) _ (by omega), specBytes_eq b1 (by omega) (by omega) _ (by omega), specBytes_eq b2 (by omega) (by omega) _ (by omega), specBytes_eq b3 (by omega) (by omega) _ (by omega)]
    simp [yb]
theorem specDig_l2 (d : Nat) : ∀ (a : List Int) (k i : Nat), inP a → i + d = 8 → d + 12 ≤ k → spec_l2Digest.l2 k a i = some ((dgAll a (List.replicate d 0)).flatMap yb) := by
  induction d with
  | zero =>
    intro a k i h hi hk
    obtain ⟨k, rfl⟩ : ∃ m, k = m + 1 := ⟨k - 1, by omega⟩
    simp only [spec_l2Digest.l2]
    rw [if_neg (by omega), specDig_l3 a h k (by omega)]; rfl
  | succ d ih =>
    intro a k i h hi hk
    obtain ⟨k, rfl⟩ : ∃ m, k = m + 1 := ⟨k - 1, by omega⟩
    simp only [spec_l2Digest.l2]
    rw [if_pos (by omega), specMix_eq a h 0 (by omega) k (by omega)]
    simp only [Option.bind_some]
    rw [w64 (by omega) (by omega), show ((i : Int) + 1) = ((i + 1 : Nat) : Int) from rfl, ih (dgMix a 0) k (i + 1) (inP_mix h 0 (by omega)) (by omega) (by omega)]
    rfl
theorem wbyte {x : Int} (h : 0 ≤ x ∧ x ≤ 255) : wrap64 x = x := w64 (by omega) (by omega)
theorem drop_rd {l : List Int} {i : Nat} (h : i < l.length) : l.drop i = rd l i :: l.drop (i + 1) := by rw [List.drop_eq_getElem_cons h, rd_nat h]
theorem specDig_l1 (xs : List Int) (hx : isBytes xs) (hl : xs.length ≤ 1000000000) (d : Nat) : ∀ (a : List Int) (k i : Nat), inP a → i + d = xs.length → d + 24 ≤ k →
    spec_l2Digest.l1 k a xs (xs.length : Int) i = some ((dgAll (dgAll a (xs.drop i)) (List.replicate 8 0)).flatMap yb) := by
  induction d with
  | zero =>
    intro a k i h hi hk
    obtain ⟨k, rfl⟩ : ∃ m, k = m + 1 := ⟨k - 1, by omega⟩
    simp only [spec_l2Digest.l1]
    rw [if_neg (by omega), List.drop_of_length_le (by omega)]
    exact specDig_l2 8 a k 0 h (by omega) (by omega)
  | succ d ih =>
    intro a k i h hi hk
    obtain ⟨k, rfl⟩ : ∃ m, k = m + 1 := ⟨k - 1, by omega⟩
    have hlt : i < xs.length := by omega
    have hb := hx (rd xs i) (rd_mem hlt)
    simp only [spec_l2Digest.l1]
    rw [if_pos (by omega), if_pos (by omega), if_pos (by omega), wbyte hb, specMix_eq a h _ hb k (by omega)]
    simp only [Option.bind_some]
    rw [w64 (by omega) (by omega), show ((i : Int) + 1) = ((i + 1 : Nat) : Int) from rfl, ih _ k (i + 1) (inP_mix h _ hb.1) (by omega) (by omega), drop_rd hlt, dgAll_cons]
theorem specDig_l0 (xs ys : List Int) (hx : isBytes xs) (hl : xs.length ≤ 1000000000) (hly : ys.length ≤ 1000000000) (d : Nat) : ∀ (a : List Int) (k i : Nat), inP a → i + d = xs.length → d + 40 ≤ k →
    spec_l2Digest.l0 k ys a xs (xs.length : Int) i = some ((dgAll (dgAll (dgAll a (xs.drop i)) (yb ys.length)) (List.replicate 8 0)).flatMap yb) := by
  induction d with
  | zero =>
    intro a k i h hi hk
    obtain ⟨k, rfl⟩ : ∃ m, k = m + 1 := ⟨k - 1, by omega⟩
    simp only [spec_l2Digest.l0]
    rw [if_neg (by omega), List.drop_of_length_le (by omega), specBytes_eq _ (by omega) (by omega) k (by omega)]
    exact specDig_l1 (yb ys.length) (yb_bytes _) (by rw [yb_len]; omega) 4 a k 0 h (by rw [yb_len]) (by omega)
  | succ d ih =>
    intro a k i h hi hk
    obtain ⟨k, rfl⟩ : ∃ m, k = m + 1 := ⟨k - 1, by omega⟩
    have hlt : i < xs.length := by omega
    have hb := hx (rd xs i) (rd_mem hlt)
    simp only [spec_l2Digest.l0]
    rw [if_pos (by omega), if_pos (by omega), if_pos (by omega), wbyte hb, specMix_eq a h _ hb k (by omega)]
    simp only [Option.bind_some]
    rw [w64 (by omega) (by omega), show ((i : Int) + 1) = ((i + 1 : Nat) : Int) from rfl, ih _ k (i + 1) (inP_mix h _ hb.1) (by omega) (by omega), drop_rd hlt, dgAll_cons]
theorem specDigest_eq (l : List Int) (h : isBytes l) (hl : l.length ≤ 1000000000) (k : Nat) (hk : l.length + 40 ≤ k) : spec_l2Digest.f k l = some (dg l) := by
  have := specDig_l0 l l h hl hl l.length [11, 22, 33, 44] k 0 inP_start (by omega) hk
  simpa [spec_l2Digest.f, dg, dgS] using this
theorem specDigest_ev (l : List Int) (h : isBytes l) (hl : l.length ≤ 1000000000) : Ev (fun k => spec_l2Digest.f k l) (dg l) := ⟨_, fun k hk => specDigest_eq l h hl k hk⟩
theorem isBytes_flatMap_yb (a : List Int) : isBytes (a.flatMap yb) := by
  intro x hx
  obtain ⟨n, _, hn⟩ := List.mem_flatMap.1 hx
  exact yb_bytes n x hn
theorem dg_bytes (l : List Int) : isBytes (dg l) := isBytes_flatMap_yb _
theorem dgAll_len : ∀ (l a : List Int), (dgAll a l).length = a.length
  | [], _ => rfl
  | x :: l, a => by rw [dgAll_cons, dgAll_len l, dgMix, mix_len]
theorem dg_len (l : List Int) : (dg l).length = 16 := by
  have h : (dgS l).length = 4 := by simp [dgS, dgAll_len]
  unfold dg
  match dgS l, h with
  | [b0, b1, b2, b3], _ => rfl
theorem isBytes_append {a b : List Int} (h : isBytes a) (h2 : isBytes b) : isBytes (a ++ b) := fun x hx => (List.mem_append.1 hx).elim (h x) (h2 x)
theorem implDigest_eq (l : List Int) (h : isBytes l) (hl : l.length ≤ 20000) : impl_Digest.f l = some (dg l) := by
  unfold impl_Digest.f; rw [if_pos h, if_neg (by omega)]
theorem isBytes_okL {l : List Int} (h : okL okB l) : isBytes l := fun x hx => h.2 x hx
theorem bytesOf_isBytes (s : ByteArray) : isBytes (bytesOf s) := by
  intro x hx
  simp only [bytesOf, List.mem_map] at hx
  obtain ⟨b, _, rfl⟩ := hx
  have := b.toNat_lt
  omega
/-- The sum of a key and data. -/
def macL (key data : List Int) : List Int := dg (dg key ++ dg data)
end Go.Proofs.Ytgolcojhnklfdaa.Pr
/- Numbers of digests, challenges, publics and signatures: the program's and the reference's are one. -/
namespace Go.Proofs.Ytgolcojhnklfdaa.Pr
open Go.RowKit Go.Proofs.Ytgolcojhnklfdaa.Read Go.Proofs.YtgolcojhnklfdaaW.PrintWords
set_option linter.unusedVariables false
def numL (l : List Int) : Int := rd l 0 + 256 * rd l 1 + 65536 * rd l 2 + 16777216 * rd l 3
theorem or_nat (a b : Nat) (ha : a < 4611686018427387904) (hb : b < 4611686018427387904) : Go.bits .or .i64 (a : Int) (b : Int) = ((a ||| b : Nat) : Int) := by
  have h1 : (BitVec.ofInt 64 (a : Int)).toNat = a := by
    rw [BitVec.ofInt_natCast, BitVec.toNat_ofNat]; exact Nat.mod_eq_of_lt (by omega)
  have h2 : (BitVec.ofInt 64 (b : Int)).toNat = b := by
    rw [BitVec.ofInt_natCast, BitVec.toNat_ofNat]; exact Nat.mod_eq_of_lt (by omega)
  have h3 : a ||| b < 2 ^ 62 := Nat.or_lt_two_pow (by simpa using ha) (by simpa using hb)
  have e0 : Go.bits .or .i64 (a : Int) (b : Int) = IntKind.i64.wrap ((((BitVec.ofInt 64 (a : Int)) ||| (BitVec.ofInt 64 (b : Int))).toNat : Nat) : Int) := rfl
  rw [e0, BitVec.toNat_or, h1, h2]
  exact IntWalk.i64_in _ (by omega)
theorem or_add (i : Nat) (a b : Int) (ha0 : 0 ≤ a) (ha : a < (2 ^ i : Nat)) (hb0 : 0 ≤ b) (hb : b < 4294967296) (hi : i ≤ 24) : Go.bits .or .i64 a (b * (2 ^ i : Nat)) = a + b * (2 ^ i : Nat) := by
  obtain ⟨a, rfl⟩ : ∃ n : Nat, a = n := ⟨a.toNat, by omega⟩
  obtain ⟨b, rfl⟩ : ∃ n : Nat, b = n := ⟨b.toNat, by omega⟩
  have hp : 2 ^ i ≤ 16777216 := Nat.le_trans (Nat.pow_le_pow_right (by omega) hi) (by decide)
  have hb' : b * 2 ^ i < 4611686018427387904 := by
    have : b * 2 ^ i ≤ 4294967296 * 16777216 := Nat.mul_le_mul (by omega) hp
    omega
  rw [← Int.natCast_mul, or_nat a (b * 2 ^ i) (by omega) hb', Nat.or_comm, Nat.mul_comm, ← Nat.two_pow_add_eq_or_of_lt (show a < 2 ^ i by omega)]
  rw [Nat.mul_comm, Int.natCast_add, Int.natCast_mul]
  omega
theorem rd_byte {l : List Int} (h : isBytes l) {i : Nat} (hi : i < l.length) : 0 ≤ rd l i ∧ rd l i ≤ 255 := by
  refine h _ ?_
  rw [rd_nat hi]
  exact List.getElem_mem hi
theorem implNum_eq (l : List Int) (h : isBytes l) (hl : 4 ≤ l.length) : impl_ynumber.f l = some (numL l) := by
  have b0 := rd_byte h (i := 0) (by omega)
  have b1 := rd_byte h (i := 1) (by omega)
  have b2 := rd_byte h (i := 2) (by omega)
  have b3 := rd_byte h (i := 3) (by omega)
  simp only [Int.cast_ofNat_Int] at b0 b1 b2 b3
  unfold impl_ynumber.f
  rw [if_neg (by omega), if_pos (by omega), if_pos (by omega), if_pos (by omega), if_pos (by omega), w64 (n := rd l 0) (by omega) (by omega), w64 (n := rd l 1) (by omega) (by omega), w64 (n := rd l 2) (by omega) (by omega), w64 (n := rd l 3) (by omega) (by omega), w64 (n := rd l 1 * 256) (by omega) (by omega), w64 (n := rd l 2 * 65536) (by omega) (by omega), w64 (n := rd l 3 * 16777216) (by omega) (by omega)]
  have e1 := or_add 8 (rd l 0) (rd l 1) (by omega) (by simp; omega) (by omega) (by omega) (by omega)
  have e2 := or_add 16 (rd l 0 + rd l 1 * 256) (rd l 2) (by omega) (by simp; omega) (by omega) (by omega) (by omega)
  have e3 := or_add 24 (rd l 0 + rd l 1 * 256 + rd l 2 * 65536) (rd l 3) (by omega) (by simp; omega) (by omega) (by omega) (by omega)
  simp only [show ((2 ^ 8 : Nat) : Int) = 256 from rfl, show ((2 ^ 16 : Nat) : Int) = 65536 from rfl, show ((2 ^ 24 : Nat) : Int) = 16777216 from rfl] at e1 e2 e3
  rw [e1, e2, e3]
  simp only [numL, Option.some.injEq]
  omega
theorem specNum_eq (l : List Int) (h : isBytes l) (hl : 4 ≤ l.length) (k : Nat) (hk : 5 ≤ k) : spec_l2Number.f k l = some (numL l) := by
  have b0 := rd_byte h (i := 0) (by omega)
  have b1 := rd_byte h (i := 1) (by omega)
  have b2 := rd_byte h (i := 2) (by omega)
  have b3 := rd_byte h (i := 3) (by omega)
  simp only [Int.cast_ofNat_Int] at b0 b1 b2 b3
  obtain ⟨k, rfl⟩ : ∃ m, k = m + 5 := ⟨k - 5, by omega⟩
  unfold spec_l2Number.f
  rw [spec_l2Number.l0, if_pos (by omega), if_pos (by omega), if_pos (by omega), show wrap64 ((3 : Int) - 1) = 2 from (w64 (by omega) (by omega)).trans (by omega), w64 (n := (0 : Int) * 256) (by omega) (by omega), w64 (n := rd l 3) (by omega) (by omega), w64 (n := (0 : Int) * 256 + rd l 3) (by omega) (by omega)]
  rw [spec_l2Number.l0, if_pos (by omega), if_pos (by omega), if_pos (by omega), show wrap64 ((2 : Int) - 1) = 1 from (w64 (by omega) (by omega)).trans (by omega), w64 (n := rd l 2) (by omega) (by omega), w64 (n := ((0 : Int) * 256 + rd l 3) * 256) (by omega) (by omega), w64 (n := ((0 : Int) * 256 + rd l 3) * 256 + rd l 2) (by omega) (by omega)]
  rw [spec_l2Number.l0, if_pos (by omega), if_pos (by omega), if_pos (by omega), show wrap64 ((1 : Int) - 1) = 0 from (w64 (by omega) (by omega)).trans (by omega), w64 (n := rd l 1) (by omega) (by omega), w64 (n := (((0 : Int) * 256 + rd l 3) * 256 + rd l 2) * 256) (by omega) (by omega), w64 (n := (((0 : Int) * 256 + rd l 3) * 256 + rd l 2) * 256 + rd l 1) (by omega) (by omega)]
  rw [spec_l2Number.l0, if_pos (by omega), if_pos (by omega), if_pos (by omega), show wrap64 ((0 : Int) - 1) = -1 from (w64 (by omega) (by omega)).trans (by omega), w64 (n := rd l 0) (by omega) (by omega), w64 (n := ((((0 : Int) * 256 + rd l 3) * 256 + rd l 2) * 256 + rd l 1) * 256) (by omega) (by omega), w64 (n := ((((0 : Int) * 256 + rd l 3) * 256 + rd l 2) * 256 + rd l 1) * 256 + rd l 0) (by omega) (by omega)]
  rw [spec_l2Number.l0, if_neg (by omega)]
  simp only [numL, Option.some.injEq]
  omega
theorem numL_range (l : List Int) (h : isBytes l) (hl : 4 ≤ l.length) : 0 ≤ numL l ∧ numL l ≤ 4294967295 := by
  have b0 := rd_byte h (i := 0) (by omega)
  have b1 := rd_byte h (i := 1) (by omega)
  have b2 := rd_byte h (i := 2) (by omega)
  have b3 := rd_byte h (i := 3) (by omega)
  simp only [Int.cast_ofNat_Int] at b0 b1 b2 b3
  unfold numL
  omega
/-- The challenge of a number and data. -/
def chalL (r : Int) (d : List Int) : Int := numL (dg (yb r ++ dg d)) % 1073741789
theorem chalL_range (r : Int) (d : List Int) : 0 ≤ chalL r d ∧ chalL r d < 1073741789 := ⟨Int.emod_nonneg _ (by omega), Int.emod_lt_of_pos _ (by omega)⟩
theorem implChal_eq (r : Int) (d : List Int) (hd : isBytes d) (hl : d.length ≤ 20000) : impl_ychallenge.f r d = some (chalL r d) := by
  have y1 : impl_ybytes.f r = some (yb r) := rfl
  have h1 := dg_len d
  have h2 := dg_len (yb r ++ dg d)
  have h3 := numL_range (dg (yb r ++ dg d)) (dg_bytes _) (by omega)
  unfold impl_ychallenge.f
  rw [y1, Option.bind_some, implDigest_eq d hd hl, Option.bind_some, if_pos (by rw [h1, yb_len]; omega), implDigest_eq _ (isBytes_append (yb_bytes _) (dg_bytes _)) (by rw [List.length_append, h1, yb_len]; omega), Option.bind_some, implNum_eq _ (dg_bytes _) (by omega), Option.bind_some, Int.tmod_eq_emod_of_nonneg h3.1]
  rfl
theorem specChal_ev (r : Int) (d : List Int) (hr0 : 0 ≤ r) (hr : r ≤ 9223372036854775807) (hd : isBytes d) (hl : d.length ≤ 20000) : Ev (fun k => spec_l2E.f k r d) (chalL r d) := by
  have h1 := dg_len d
  have h2 := dg_len (yb r ++ dg d)
  have h3 := numL_range (dg (yb r ++ dg d)) (dg_bytes _) (by omega)
  simp only [spec_l2E.f]
  refine Ev.bind ⟨5, fun k hk => specBytes_eq r hr0 hr k hk⟩ ?_
  simp only [if_pos (show ([] : List Int).length + (yb r).length < 140737488355328 by rw [yb_len]; simp), List.nil_append, Option.bind_some]
  refine Ev.bind (specDigest_ev d hd (by omega)) ?_
  simp only [if_pos (show (yb r).length + (dg d).length < 140737488355328 by rw [yb_len, h1]; omega)]
  refine Ev.bind (specDigest_ev _ (isBytes_append (yb_bytes _) (dg_bytes _)) (by rw [List.length_append, h1, yb_len]; omega)) ?_
  refine Ev.bind ⟨5, fun k hk => specNum_eq _ (dg_bytes _) (by omega) k hk⟩ ?_
  simp only [Int.tmod_eq_emod_of_nonneg h3.1]
  exact Ev.now _
def pubOk (p : Int) : Prop := 2 ≤ p ∧ p < 2147483579 ∧ pwm p 1073741789 = 1
instance (p : Int) : Decidable (pubOk p) := by unfold pubOk; infer_instance
def verOk (p : Int) (d : List Int) (r s : Int) : Prop := pubOk p ∧ d.length ≤ 20000 ∧ 1 ≤ r ∧ r < 2147483579 ∧ 0 ≤ s ∧ s < 1073741789
instance (p : Int) (d : List Int) (r s : Int) : Decidable (verOk p d r s) := by unfold verOk; infer_instance
/-- Whether a signature holds. -/
def verL (p : Int) (d : List Int) (r s : Int) : Bool := if verOk p d r s then pwm 4 s.toNat == r * pwm p (chalL r d).toNat % 2147483579 else false
theorem verL_bad {p : Int} {d : List Int} {r s : Int} (h : ¬ verOk p d r s) : verL p d r s = false := if_neg h
theorem ypow_at (b e : Int) (h0 : 0 ≤ b) (h1 : b < 2147483579) (he0 : 0 ≤ e) (he : e < 2199023255552) (k : Nat) (hk : 50 ≤ k) : impl_ypow.f k b e 2147483579 = some (pwm b e.toNat) := by
  have := ypow_eq b e.toNat h0 h1 (by omega) k hk
  rwa [Int.toNat_of_nonneg he0] at this
theorem l2Power_at (b e : Int) (h0 : 0 ≤ b) (h1 : b < 2147483579) (he0 : 0 ≤ e) (he : e < 2199023255552) (k : Nat) (hk : 50 ≤ k) : spec_l2Power.f k b e 2147483579 = some (pwm b e.toNat) := by
  have := l2Power_eq b e.toNat h0 h1 (by omega) k hk
  rwa [Int.toNat_of_nonneg he0] at this
theorem implVerify_ev (p : Int) (d : List Int) (r s : Int) (hd : isBytes d) : Ev (fun k => impl_Verify.f k p d r s) (verL p d r s) := by
  refine ⟨60, fun k hk => ?_⟩
  obtain ⟨k, rfl⟩ : ∃ m, k = m + 1 := ⟨k - 1, by omega⟩
  show impl_Verify.f (k + 1) p d r s = _
  have jt : impl_Verify.j0 (k + 1) p d true r s = some false := by simp only [impl_Verify.j0, if_true]
  unfold impl_Verify.f
  by_cases c1 : (d.length : Int) > 20000
  · rw [if_pos c1, jt, verL_bad (fun h => by have := h.2.1; omega)]
  rw [if_neg c1]
  by_cases c2 : p < 2
  · rw [if_pos c2, jt, verL_bad (fun h => by have := h.1.1; omega)]
  rw [if_neg c2]
  by_cases c3 : p ≥ 2147483579
  · rw [if_pos c3, jt, verL_bad (fun h => by have := h.1.2.1; omega)]
  rw [if_neg c3, ypow_at p 1073741789 (by omega) (by omega) (by omega) (by omega) _ (by omega), Option.bind_some, show (1073741789 : Int).toNat = 1073741789 from rfl]
  by_cases c4 : pwm p 1073741789 = 1
  case neg => rw [if_neg c4, jt, verL_bad (fun h => c4 h.1.2.2)]
  rw [if_pos c4]
  by_cases c5 : r < 1
  · rw [if_pos c5, jt, verL_bad (fun h => by have := h.2.2.1; omega)]
  rw [if_neg c5]
  by_cases c6 : r ≥ 2147483579
  · rw [if_pos c6, jt, verL_bad (fun h => by have := h.2.2.2.1; omega)]
  rw [if_neg c6]
  by_cases c7 : s < 0
  · rw [if_pos c7, jt, verL_bad (fun h => by have := h.2.2.2.2.1; omega)]
  rw [if_neg c7]
  by_cases c8 : s ≥ 1073741789
  · rw [decide_eq_true c8, jt, verL_bad (fun h => by have := h.2.2.2.2.2; omega)]
  rw [decide_eq_false c8]
  have ch := chalL_range r d
  have hv : verOk p d r s := ⟨⟨by omega, by omega, c4⟩, by omega, by omega, by omega, by omega, by omega⟩
  simp only [impl_Verify.j0, Bool.false_eq_true, if_false]
  rw [ypow_at 4 s (by omega) (by omega) (by omega) (by omega) _ (by omega), Option.bind_some, implChal_eq r d hd (by omega), Option.bind_some, ypow_at p _ (by omega) (by omega) ch.1 (by omega) _ (by omega), Option.bind_some, mulM (by omega) (by omega) (pwm_range _ _).1 (pwm_range _ _).2, verL, if_pos hv]
theorem specPublic_eq (p : Int) (k : Nat) (hk : 50 ≤ k) : spec_l2Public.f k p = some (decide (pubOk p)) := by
  unfold spec_l2Public.f
  by_cases c2 : p ≥ 2
  case neg => rw [if_neg c2, decide_eq_false (fun h => by have := h.1; omega)]
  rw [if_pos c2]
  by_cases c3 : p < 2147483579
  case neg => rw [if_neg c3, decide_eq_false (fun h => by have := h.2.1; omega)]
  rw [if_pos c3, l2Power_at p 1073741789 (by omega) (by omega) (by omega) (by omega) k hk, Option.bind_some, show (1073741789 : Int).toNat = 1073741789 from rfl]
  by_cases c4 : pwm p 1073741789 = 1
  · rw [decide_eq_true (show pubOk p from ⟨by omega, c3, c4⟩), c4]; rfl
  · rw [decide_eq_false (fun h => c4 h.2.2)]
    simp only [Option.some.injEq, beq_eq_false_iff_ne, ne_eq]
    exact c4
theorem specVerify_ev (p : Int) (d : List Int) (r s : Int) (hd : isBytes d) : Ev (fun k => spec_Verify.f k p d r s) (verL p d r s) := by
  by_cases hv : verOk p d r s
  · obtain ⟨hp, hl, h1, h2, h3, h4⟩ := hv
    obtain ⟨m, hm⟩ := specChal_ev r d (by omega) (by omega) hd hl
    refine ⟨m + 60, fun k hk => ?_⟩
    obtain ⟨k, rfl⟩ : ∃ m, k = m + 1 := ⟨k - 1, by omega⟩
    show spec_Verify.f (k + 1) p d r s = _
    have ch := chalL_range r d
    have h0 := hm k (by omega)
    simp only at h0
    unfold spec_Verify.f
    rw [specPublic_eq p _ (by omega), decide_eq_true hp, Option.bind_some, if_pos rfl, if_neg (by omega), if_neg (by omega), if_neg (by omega), if_neg (by omega), decide_eq_false (by omega)]
    simp only [spec_Verify.j0, Bool.false_eq_true, if_false]
    rw [l2Power_at 4 s (by omega) (by omega) (by omega) (by omega) _ (by omega), Option.bind_some, h0, Option.bind_some, l2Power_at p _ (by have := hp.1; omega) hp.2.1 ch.1 (by omega) _ (by omega), Option.bind_some, mulM (by omega) (by omega) (pwm_range _ _).1 (pwm_range _ _).2, verL, if_pos ⟨hp, hl, h1, h2, h3, h4⟩]
  · rw [verL_bad hv]
    refine ⟨60, fun k hk => ?_⟩
    obtain ⟨k, rfl⟩ : ∃ m, k = m + 1 := ⟨k - 1, by omega⟩
    show spec_Verify.f (k + 1) p d r s = _
    have jt : spec_Verify.j0 (k + 1) p d true r s = some false := by simp only [spec_Verify.j0, if_true]
    unfold spec_Verify.f
    rw [specPublic_eq p _ (by omega), Option.bind_some]
    by_cases hp : pubOk p
    case neg => rw [decide_eq_false hp, if_neg (by simp), jt]
    rw [decide_eq_true hp, if_pos rfl]
    by_cases c1 : (d.length : Int) > 20000
    · rw [if_pos c1, jt]
    rw [if_neg c1]
    by_cases c5 : r < 1
    · rw [if_pos c5, jt]
    rw [if_neg c5]
    by_cases c6 : r ≥ 2147483579
    · rw [if_pos c6, jt]
    rw [if_neg c6]
    by_cases c7 : s < 0
    · rw [if_pos c7, jt]
    rw [if_neg c7]
    by_cases c8 : s ≥ 1073741789
    · rw [decide_eq_true c8, jt]
    exact absurd ⟨hp, by omega, by omega, by omega, by omega, by omega⟩ hv
end Go.Proofs.Ytgolcojhnklfdaa.Pr
/- Answers to challenges: the program's and the reference's checks are one. -/
namespace Go.Proofs.Ytgolcojhnklfdaa.Pr
open Go.RowKit Go.Proofs.Ytgolcojhnklfdaa.Read Go.Proofs.YtgolcojhnklfdaaW.PrintWords
set_option linter.unusedVariables false
theorem Ev.up {α : Type} {g : Nat → Option α} {r : α} (h : Ev (fun k => g (k + 1)) r) : Ev g r := by
  obtain ⟨n, hn⟩ := h
  refine ⟨n + 1, fun k hk => ?_⟩
  obtain ⟨k, rfl⟩ : ∃ m, k = m + 1 := ⟨k - 1, by omega⟩
  exact hn k (by omega)
def ansL (o : ByteArray) (c : List Int) (n : Int) : List Int := dg (bytesOf o) ++ dg c ++ yb n
theorem ansL_len (o : ByteArray) (c : List Int) (n : Int) : (ansL o c n).length = 36 := by
  simp only [ansL, List.length_append, dg_len, yb_len]
theorem ansL_bytes (o : ByteArray) (c : List Int) (n : Int) : isBytes (ansL o c n) := isBytes_append (isBytes_append (dg_bytes _) (dg_bytes _)) (yb_bytes _)
theorem bytesOfS_eq' (s : ByteArray) (h : s.size ≤ 9223372036854775807) : bytesOfS.f s = some (bytesOf s) := by unfold bytesOfS.f; rw [if_pos h]
theorem implAns_eq (o : ByteArray) (c : List Int) (n : Int) (ho : o.size ≤ 20000) (hc : isBytes c) (hl : c.length ≤ 20000) : impl_yanswerBytes.f o c n = some (ansL o c n) := by
  have y1 : impl_ybytes.f n = some (yb n) := rfl
  have e : slices_Concat_byte_byte.f [dg (bytesOf o), dg c, yb n] = some (ansL o c n) := by
    have hf : ([dg (bytesOf o), dg c, yb n] : List (List Int)).flatten = ansL o c n := by simp [ansL]
    unfold slices_Concat_byte_byte.f
    rw [hf, if_pos (by rw [ansL_len]; omega)]
  unfold impl_yanswerBytes.f
  rw [bytesOfS_eq' o (by omega), Option.bind_some, implDigest_eq _ (bytesOf_isBytes o) (by rw [bytesOf_length]; omega), Option.bind_some, implDigest_eq c hc hl, Option.bind_some, y1, Option.bind_some, e]
  rfl
theorem specAns_ev (o : ByteArray) (c : List Int) (n : Int) (ho : o.size ≤ 20000) (hc : isBytes c) (hl : c.length ≤ 20000) (hn : 0 ≤ n) (hn2 : n ≤ 9223372036854775807) : Ev (fun k => spec_l16Bytes.f k o c n) (ansL o c n) := by
  simp only [spec_l16Bytes.f, bytesOfS_eq' o (show o.size ≤ 9223372036854775807 by omega), Option.bind_some]
  refine Ev.bind (specDigest_ev _ (bytesOf_isBytes o) (by rw [bytesOf_length]; omega)) ?_
  refine Ev.bind (specDigest_ev c hc (by omega)) ?_
  simp only [if_pos (show (dg (bytesOf o)).length + (dg c).length < 140737488355328 by rw [dg_len, dg_len]; omega)]
  refine Ev.bind ⟨5, fun k hk => specBytes_eq n hn hn2 k hk⟩ ?_
  simp only [if_pos (show (dg (bytesOf o) ++ dg c).length + (yb n).length < 140737488355328 by rw [List.length_append, dg_len, dg_len, yb_len]; omega)]
  exact Ev.now _
def asked (o : ByteArray) (c : List Int) (n : Int) : Prop := 1 ≤ o.size ∧ o.size ≤ 100 ∧ c.length ≤ 100 ∧ 0 ≤ n ∧ n ≤ 1000000000
instance (o : ByteArray) (c : List Int) (n : Int) : Decidable (asked o c n) := by unfold asked; infer_instance
theorem fits_eq (o : ByteArray) (c : List Int) (n : Int) : impl_ychallengeFits.f o c n = some (decide (asked o c n)) := by
  unfold impl_ychallengeFits.f
  by_cases h1 : (o.size : Int) ≥ 1
  case neg => rw [if_neg h1, decide_eq_false (fun h => by have := h.1; omega)]
  by_cases h2 : (o.size : Int) ≤ 100
  case neg => rw [if_pos h1, if_neg h2, decide_eq_false (fun h => by have := h.2.1; omega)]
  by_cases h3 : (c.length : Int) ≤ 100
  case neg => rw [if_pos h1, if_pos h2, if_neg h3, decide_eq_false (fun h => by have := h.2.2.1; omega)]
  by_cases h4 : n ≥ 0
  case neg => rw [if_pos h1, if_pos h2, if_pos h3, if_neg h4, decide_eq_false (fun h => by have := h.2.2.2.1; omega)]
  rw [if_pos h1, if_pos h2, if_pos h3, if_pos h4]
  by_cases h5 : n ≤ 1000000000
  · rw [decide_eq_true h5, decide_eq_true (show asked o c n from ⟨by omega, by omega, by omega, by omega, by omega⟩)]
  · rw [decide_eq_false h5, decide_eq_false (fun h => by have := h.2.2.2.2; omega)]
theorem asked_eq (o : ByteArray) (c : List Int) (n : Int) : spec_l16Asked.f o c n = some (decide (asked o c n)) := fits_eq o c n
theorem implPublic_eq (p : Int) (k : Nat) (hk : 50 ≤ k) : impl_ygoodPublic.f k p = some (decide (pubOk p)) := by
  unfold impl_ygoodPublic.f
  by_cases c2 : p ≥ 2
  case neg => rw [if_neg c2, decide_eq_false (fun h => by have := h.1; omega)]
  rw [if_pos c2]
  by_cases c3 : p < 2147483579
  case neg => rw [if_neg c3, decide_eq_false (fun h => by have := h.2.1; omega)]
  rw [if_pos c3, ypow_at p 1073741789 (by omega) (by omega) (by omega) (by omega) k hk, Option.bind_some, show (1073741789 : Int).toNat = 1073741789 from rfl]
  by_cases c4 : pwm p 1073741789 = 1
  · rw [decide_eq_true (show pubOk p from ⟨by omega, c3, c4⟩), c4]; rfl
  · rw [decide_eq_false (fun h => c4 h.2.2)]
    simp only [Option.some.injEq, beq_eq_false_iff_ne, ne_eq]
    exact c4
/-- What a check of an answer comes to. -/
def checkL (p : Int) (o : ByteArray) (n : Int) (c : List Int) (ao : ByteArray) (an r s : Int) : Int × ByteArray × Int × Int :=
  if asked o c n ∧ asked o c an ∧ pubOk p then (if ao.toList = o.toList then (if an ≤ n then (0, ⟨#[]⟩, 0, 3) else (if verL p (ansL o c an) r s = true then (p, o, an, 0) else (0, ⟨#[]⟩, 0, 4))) else (0, ⟨#[]⟩, 0, 2)) else (0, ⟨#[]⟩, 0, 1)
theorem same_text {a b : ByteArray} (h : a.toList = b.toList) : a = b := by
  rw [ByteArray.toList_eq, ByteArray.toList_eq] at h
  exact ByteArray.ext (Array.ext' h)
theorem specCheck_ev (p : Int) (o : ByteArray) (n : Int) (c : List Int) (ao : ByteArray) (an r s : Int) (hc : isBytes c) : Ev (fun k => spec_CheckAnswer.f k p o n c ao an r s) (checkL p o n c ao an r s) := by
  by_cases hall : asked o c n ∧ asked o c an ∧ pubOk p
  · obtain ⟨h1, h2, h3⟩ := hall
    have hj : Ev (fun k => spec_CheckAnswer.j0 k c false p o n ao an r s) (checkL p o n c ao an r s) := by
      refine Ev.up ?_
      simp only [spec_CheckAnswer.j0, Bool.false_eq_true, if_false, checkL, if_pos (show asked o c n ∧ asked o c an ∧ pubOk p from ⟨h1, h2, h3⟩)]
      by_cases hs : ao.toList = o.toList
      case neg => simp only [if_neg hs]; exact Ev.now _
      simp only [if_pos hs]
      by_cases hn : an ≤ n
      · simp only [if_pos hn]; exact Ev.now _
      simp only [if_neg hn]
      refine Ev.bind (specAns_ev o c an (by have := h1.2.1; omega) hc (by have := h1.2.2.1; omega) h2.2.2.2.1 (by have := h2.2.2.2.2; omega)) ?_
      refine Ev.bind (specVerify_ev p _ r s (ansL_bytes _ _ _)) ?_
      by_cases hv : verL p (ansL o c an) r s = true
      · simp only [if_pos hv]; exact Ev.now _
      · simp only [if_neg hv]; exact Ev.now _
    simp only [spec_CheckAnswer.f, asked_eq, decide_eq_true h1, decide_eq_true h2, Option.bind_some, if_true]
    refine Ev.bind ⟨50, fun k hk => specPublic_eq p k hk⟩ ?_
    simp only [decide_eq_true h3, Bool.not_true]
    exact hj
  · have hr : checkL p o n c ao an r s = (0, ⟨#[]⟩, 0, 1) := by unfold checkL; rw [if_neg hall]
    rw [hr]
    have hj : Ev (fun k => spec_CheckAnswer.j0 k c true p o n ao an r s) (0, ⟨#[]⟩, 0, 1) := by
      refine Ev.up ?_
      simp only [spec_CheckAnswer.j0, if_true]
      exact Ev.now _
    simp only [spec_CheckAnswer.f, asked_eq, Option.bind_some]
    by_cases h1 : asked o c n
    case neg => simp only [decide_eq_false h1, Bool.false_eq_true, if_false]; exact hj
    simp only [decide_eq_true h1, if_true]
    by_cases h2 : asked o c an
    case neg => simp only [decide_eq_false h2, Bool.false_eq_true, if_false]; exact hj
    simp only [decide_eq_true h2, if_true]
    refine Ev.bind ⟨50, fun k hk => specPublic_eq p k hk⟩ ?_
    simp only [decide_eq_false (fun h3 => hall ⟨h1, h2, h3⟩), Bool.not_false]
    exact hj
theorem implCheck_ev (p : Int) (o : ByteArray) (n : Int) (c : List Int) (ao : ByteArray) (an r s : Int) (hc : isBytes c) : Ev (fun k => impl_CheckAnswer.f k p o n c ao an r s) (checkL p o n c ao an r s) := by
  by_cases hall : asked o c n ∧ asked o c an ∧ pubOk p
  · obtain ⟨h1, h2, h3⟩ := hall
    have hj : Ev (fun k => impl_CheckAnswer.j0 k c false p o n ao an r s) (checkL p o n c ao an r s) := by
      refine Ev.up ?_
      simp only [impl_CheckAnswer.j0, Bool.false_eq_true, if_false, checkL, if_pos (show asked o c n ∧ asked o c an ∧ pubOk p from ⟨h1, h2, h3⟩)]
      by_cases hs : ao.toList = o.toList
      case neg => simp only [if_neg hs]; exact Ev.now _
      simp only [if_pos hs]
      by_cases hn : an ≤ n
      · simp only [if_pos hn]; exact Ev.now _
      simp only [if_neg hn]
      obtain rfl := same_text hs
      simp only [implAns_eq ao c an (by have := h1.2.1; omega) hc (by have := h1.2.2.1; omega), Option.bind_some]
      refine Ev.bind (implVerify_ev p _ r s (ansL_bytes _ _ _)) ?_
      by_cases hv : verL p (ansL ao c an) r s = true
      · simp only [if_pos hv]; exact Ev.now _
      · simp only [if_neg hv]; exact Ev.now _
    have a1 : ¬ an < 0 := by have := h2.2.2.2.1; omega
    have a2 : ¬ an > 1000000000 := by have := h2.2.2.2.2; omega
    simp only [impl_CheckAnswer.f, fits_eq, decide_eq_true h1, Option.bind_some, if_true, if_neg a1, if_neg a2]
    refine Ev.bind ⟨50, fun k hk => implPublic_eq p k hk⟩ ?_
    simp only [decide_eq_true h3, Bool.not_true]
    exact hj
  · have hr : checkL p o n c ao an r s = (0, ⟨#[]⟩, 0, 1) := by unfold checkL; rw [if_neg hall]
    rw [hr]
    have hj : Ev (fun k => impl_CheckAnswer.j0 k c true p o n ao an r s) (0, ⟨#[]⟩, 0, 1) := by
      refine Ev.up ?_
      simp only [impl_CheckAnswer.j0, if_true]
      exact Ev.now _
    simp only [impl_CheckAnswer.f, fits_eq, Option.bind_some]
    by_cases h1 : asked o c n
    case neg => simp only [decide_eq_false h1, Bool.false_eq_true, if_false, Bool.not_false]; exact hj
    simp only [decide_eq_true h1, if_true]
    by_cases a1 : an < 0
    · simp only [if_pos a1, decide_eq_true a1]; exact hj
    simp only [if_neg a1]
    by_cases a2 : an > 1000000000
    · simp only [if_pos a2, decide_eq_true a2]; exact hj
    simp only [if_neg a2]
    have h2 : asked o c an := ⟨h1.1, h1.2.1, h1.2.2.1, by omega, by omega⟩
    refine Ev.bind ⟨50, fun k hk => implPublic_eq p k hk⟩ ?_
    simp only [decide_eq_false (fun h3 => hall ⟨h1, h2, h3⟩), Bool.not_false]
    exact hj
end Go.Proofs.Ytgolcojhnklfdaa.Pr
/- The group that the signatures lie in: 4 has order Q, a prime; what is signed is verified. -/
namespace Go.Proofs.Ytgolcojhnklfdaa.Pr
open Go.RowKit Go.Proofs.Ytgolcojhnklfdaa.Read Go.Proofs.YtgolcojhnklfdaaW.PrintWords
set_option linter.unusedVariables false
theorem pwm_def (b : Int) (e : Nat) : pwm b e = b ^ e % 2147483579 := by unfold pwm; rfl
theorem pwm_add (b : Int) (m n : Nat) : pwm b (m + n) = pwm b m * pwm b n % 2147483579 := by
  rw [pwm_def, pwm_def, pwm_def, Int.pow_add, Int.mul_emod]
theorem pow_mul' (b : Int) (m n : Nat) : b ^ (m * n) = (b ^ m) ^ n := by
  induction n with
  | zero => simp
  | succ n ih => rw [Nat.mul_succ, Int.pow_add, ih, Int.pow_succ]
theorem pwm_mul (b : Int) (m n : Nat) : pwm b (m * n) = pwm (pwm b m) n := by
  rw [pwm_def, pwm_def, pwm_def, pow_mul', pow_emod']
theorem pwm_one_left (n : Nat) : pwm 1 n = 1 := by
  rw [pwm_def, Int.one_pow]; rfl
theorem pwm_zero (b : Int) : pwm b 0 = 1 := by rw [pwm_def, Int.pow_zero]; rfl
theorem pwm_one (b : Int) (h0 : 0 ≤ b) (h1 : b < 2147483579) : pwm b 1 = b := by
  rw [pwm_def, Int.pow_succ, Int.pow_zero, Int.one_mul, Int.emod_eq_of_lt h0 h1]
theorem fermat4 : pwm 4 1073741789 = 1 := by
  have h1 := ypow_eq 4 1073741789 (by omega) (by omega) (by omega) 60 (by omega)
  have h2 : impl_ypow.f 60 4 ((1073741789 : Nat) : Int) 2147483579 = some 1 := by decide +kernel
  rw [h2] at h1
  exact (Option.some.inj h1).symm
def chk (n : Nat) : Nat → Nat → Bool
  | 0, lo => n % lo != 0
  | d + 1, lo => chk n d lo && chk n d (lo + 2 ^ d)
theorem chk_all (n : Nat) : ∀ (d lo : Nat), chk n d lo = true → ∀ i, lo ≤ i → i < lo + 2 ^ d → n % i ≠ 0
  | 0, lo, h, i, h1, h2 => by
    obtain rfl : i = lo := by simp at h2; omega
    simpa [chk] using h
  | d + 1, lo, h, i, h1, h2 => by
    simp only [chk, Bool.and_eq_true] at h
    rw [Nat.pow_succ] at h2
    by_cases hi : i < lo + 2 ^ d
    · exact chk_all n d lo h.1 i h1 hi
    · exact chk_all n d (lo + 2 ^ d) h.2 i (by omega) (by omega)
theorem noDiv (i : Nat) (h1 : 2 ≤ i) (h2 : i < 32770) : 1073741789 % i ≠ 0 :=
  chk_all 1073741789 15 2 (by decide +kernel) i h1 (by simpa using h2)
theorem gcdQ (x : Nat) (h0 : 0 < x) (h1 : x < 1073741789) : Nat.gcd x 1073741789 = 1 := by
  have hd := Nat.gcd_dvd_right x 1073741789
  have hx := Nat.gcd_dvd_left x 1073741789
  have hp : 0 < Nat.gcd x 1073741789 := Nat.gcd_pos_of_pos_left _ h0
  have hle : Nat.gcd x 1073741789 ≤ x := Nat.le_of_dvd h0 hx
  generalize Nat.gcd x 1073741789 = g at hd hp hle
  obtain ⟨q, hq⟩ := hd
  by_cases hg : g = 1
  · exact hg
  by_cases hs : g < 32770
  · exact absurd (by rw [hq]; exact Nat.mul_mod_right g q) (noDiv g (by omega) hs)
  · have hq1 : q < 32770 := by
      apply Decidable.byContradiction
      intro hc
      have : 32770 * 32770 ≤ g * q := Nat.mul_le_mul (by omega) (by omega)
      omega
    have hq2 : 2 ≤ q := by
      apply Decidable.byContradiction
      intro hc
      have h3 : q = 0 ∨ q = 1 := by omega
      rcases h3 with rfl | rfl
      · omega
      · omega
    exact absurd (by rw [hq]; exact Nat.mul_mod_left g q) (noDiv q hq2 hq1)
theorem pwm_round (j r : Nat) : pwm 4 (1073741789 * j + r) = pwm 4 r := by
  have h := pwm_range 4 r
  rw [pwm_add, pwm_mul, fermat4, pwm_one_left, Int.one_mul, Int.emod_eq_of_lt h.1 h.2]
theorem pwm_modQ (e : Nat) : pwm 4 e = pwm 4 (e % 1073741789) := by
  conv => lhs; rw [← Nat.div_add_mod e 1073741789]
  exact pwm_round _ _
theorem pwm_ne_zero (x : Nat) (h1 : x < 1073741789) : pwm 4 x ≠ 0 := by
  intro h
  have := pwm_add 4 x (1073741789 - x)
  rw [show x + (1073741789 - x) = 1073741789 by omega, fermat4, h] at this
  simp at this
theorem pwm_gcd (a : Nat) : ∀ b, pwm 4 a = 1 → pwm 4 b = 1 → pwm 4 (Nat.gcd a b) = 1 := by
  induction a using Nat.strongRecOn with
  | _ a ih =>
    intro b ha hb
    by_cases hz : a = 0
    · subst hz
      rwa [Nat.gcd_zero_left]
    · rw [Nat.gcd_rec]
      refine ih (b % a) (Nat.mod_lt _ (by omega)) a ?_ ha
      have hr := pwm_range 4 (b % a)
      rw [← Nat.div_add_mod b a, pwm_add, pwm_mul, ha, pwm_one_left, Int.one_mul, Int.emod_eq_of_lt hr.1 hr.2] at hb
      exact hb
theorem pwm_ne_one (x : Nat) (h0 : 0 < x) (h1 : x < 1073741789) : pwm 4 x ≠ 1 := by
  intro h
  have e1 := pwm_gcd x 1073741789 h fermat4
  rw [gcdQ x h0 h1, pwm_one 4 (by omega) (by omega)] at e1
  omega
theorem pub_ok (x : Nat) (h0 : 0 < x) (h1 : x < 1073741789) : pubOk (pwm 4 x) := by
  have hr := pwm_range 4 x
  have n0 := pwm_ne_zero x h1
  have n1 := pwm_ne_one x h0 h1
  refine ⟨by omega, hr.2, ?_⟩
  have := pwm_round x 0
  rw [Nat.add_zero, Nat.mul_comm, pwm_mul, pwm_zero] at this
  exact this
/-- What is signed is verified. -/
theorem verified (x n : Nat) (d : List Int) (h0 : 0 < x) (h1 : x < 1073741789) (hn : n < 1073741789) (hl : d.length ≤ 20000) :
    verL (pwm 4 x) d (pwm 4 n) (((n : Int) + chalL (pwm 4 n) d * x) % 1073741789) = true := by
  have hr := pwm_range 4 n
  have n0 := pwm_ne_zero n hn
  have ch := chalL_range (pwm 4 n) d
  obtain ⟨e, he⟩ : ∃ e : Nat, chalL (pwm 4 n) d = e := ⟨(chalL (pwm 4 n) d).toNat, by omega⟩
  have hv : verOk (pwm 4 x) d (pwm 4 n) (((n : Int) + chalL (pwm 4 n) d * x) % 1073741789) := ⟨pub_ok x h0 h1, hl, by omega, hr.2, Int.emod_nonneg _ (by omega), Int.emod_lt_of_pos _ (by omega)⟩
  unfold verL
  rw [if_pos hv, he, show (((n : Int) + (e : Int) * (x : Int)) % 1073741789).toNat = (n + e * x) % 1073741789 by rw [← Int.natCast_mul, ← Int.natCast_add]; omega, ← pwm_modQ, pwm_add, Int.toNat_natCast, Nat.mul_comm, pwm_mul]
  exact beq_self_eq_true _
/-- With no other number is it verified. -/
theorem pwm_inj (a b : Nat) (hab : a ≤ b) (hb : b < 1073741789) (h : pwm 4 a = pwm 4 b) : a = b := by
  apply Decidable.byContradiction
  intro hne
  have h1 := pwm_add 4 a (b - a)
  have h2 := pwm_add 4 a (1073741789 - a)
  rw [show a + (b - a) = b by omega, ← h] at h1
  rw [show a + (1073741789 - a) = 1073741789 by omega, fermat4] at h2
  have hk := pwm_range 4 (b - a)
  have e1 : pwm 4 (1073741789 - a) * (pwm 4 a * pwm 4 (b - a) % 2147483579) % 2147483579 = pwm 4 (b - a) := by
    rw [Int.mul_emod, Int.emod_emod, ← Int.mul_emod, ← Int.mul_assoc, Int.mul_comm (pwm 4 (1073741789 - a)), Int.mul_emod, ← h2, Int.one_mul, Int.emod_emod, Int.emod_eq_of_lt hk.1 hk.2]
  rw [← h1, Int.mul_comm, ← h2] at e1
  exact pwm_ne_one (b - a) (by omega) (by omega) e1.symm
end Go.Proofs.Ytgolcojhnklfdaa.Pr
/- Signing: the program's and the reference's are one, and it is verified. -/
namespace Go.Proofs.Ytgolcojhnklfdaa.Pr
open Go.RowKit Go.Proofs.Ytgolcojhnklfdaa.Read Go.Proofs.YtgolcojhnklfdaaW.PrintWords
set_option linter.unusedVariables false
theorem Ev.up1 {α : Type} {g : Nat → Option α} {r : α} (h : Ev (fun k => g (k + 1)) r) : Ev g r := by
  obtain ⟨n, hn⟩ := h
  refine ⟨n + 1, fun k hk => ?_⟩
  obtain ⟨k, rfl⟩ : ∃ m, k = m + 1 := ⟨k - 1, by omega⟩
  exact hn k (by omega)
theorem two_ev (a b : List Int) (ha : isBytes a) (hb : isBytes b) (la : a.length ≤ 100000000) (lb : b.length ≤ 100000000) : Ev (fun k => spec_l2Two.f k a b) (dg (a ++ b)) := by
  have hab := specDigest_ev (a ++ b) (isBytes_append ha hb) (by rw [List.length_append]; omega)
  simp only [spec_l2Two.f, List.length_nil, if_pos (show 0 + a.length < 140737488355328 by omega), List.nil_append, Option.bind_some, if_pos (show a.length + b.length < 140737488355328 by omega)]
  exact Ev.bind hab (Ev.now _)
theorem smac_ev (a b : List Int) (ha : isBytes a) (hb : isBytes b) (la : a.length ≤ 100000000) (lb : b.length ≤ 100000000) : Ev (fun k => spec_l2Mac.f k a b) (macL a b) := by
  simp only [spec_l2Mac.f]
  refine Ev.bind (specDigest_ev a ha (by omega)) ?_
  refine Ev.bind (specDigest_ev b hb (by omega)) ?_
  exact Ev.bind (two_ev _ _ (dg_bytes a) (dg_bytes b) (by rw [dg_len]; omega) (by rw [dg_len]; omega)) (Ev.now _)
theorem imac_ev (a b : List Int) (ha : isBytes a) (hb : isBytes b) (la : a.length ≤ 20000) (lb : b.length ≤ 20000) : Ev (fun k => impl_Mac.f k a b) (macL a b) := by
  refine Ev.up1 ?_
  simp only [impl_Mac.f, if_neg (show ¬ ((a.length : Int) > 20000) by omega), decide_eq_false (show ¬ ((b.length : Int) > 20000) by omega), impl_Mac.j0, Bool.false_eq_true, if_false, implDigest_eq a ha la, implDigest_eq b hb lb, Option.bind_some, if_pos (show (dg a).length + (dg b).length < 140737488355328 by rw [dg_len, dg_len]; omega), implDigest_eq _ (isBytes_append (dg_bytes a) (dg_bytes b)) (show (dg a ++ dg b).length ≤ 20000 by rw [List.length_append, dg_len, dg_len]; omega)]
  exact Ev.now _
theorem macL_bytes (a b : List Int) : isBytes (macL a b) := dg_bytes _
theorem macL_len (a b : List Int) : (macL a b).length = 16 := dg_len _
/-- The number drawn of a secret and data. -/
def signN (x : Int) (d : List Int) : Int := 1 + numL (macL (yb x) d) % 1073741788
theorem signN_range (x : Int) (d : List Int) : 1 ≤ signN x d ∧ signN x d < 1073741789 := by
  have h0 := Int.emod_nonneg (numL (macL (yb x) d)) (show (1073741788 : Int) ≠ 0 by omega)
  have h1 := Int.emod_lt_of_pos (numL (macL (yb x) d)) (show (0 : Int) < 1073741788 by omega)
  unfold signN
  omega
def signL (x : Int) (d : List Int) : Int × Int := (pwm 4 (signN x d).toNat, (signN x d + chalL (pwm 4 (signN x d).toNat) d * x) % 1073741789)
theorem chal_mul {e x : Int} (h0 : 0 ≤ e) (h1 : e < 1073741789) (h2 : 0 ≤ x) (h3 : x < 1073741789) : 0 ≤ e * x ∧ e * x ≤ 1152921504606846976 := by
  refine ⟨Int.mul_nonneg h0 h2, ?_⟩
  have := Int.mul_le_mul (show e ≤ 1073741788 by omega) (show x ≤ 1073741788 by omega) h2 (by omega)
  omega
theorem num_part (x : Int) (d : List Int) : wrap64 (1 + Int.tmod (numL (macL (yb x) d)) 1073741788) = signN x d := by
  have h3 := numL_range (macL (yb x) d) (macL_bytes _ _) (by rw [macL_len]; omega)
  have hs := signN_range x d
  have e : 1 + Int.tmod (numL (macL (yb x) d)) 1073741788 = signN x d := by rw [Int.tmod_eq_emod_of_nonneg h3.1]; rfl
  rw [e, w64 (by omega) (by omega)]
theorem sig_part {x n e : Int} (hx0 : 0 ≤ x) (hx1 : x < 1073741789) (hn0 : 1 ≤ n) (hn1 : n < 1073741789) (h0 : 0 ≤ e) (h1 : e < 1073741789) : Int.tmod (wrap64 (n + wrap64 (e * x))) 1073741789 = (n + e * x) % 1073741789 := by
  have h := chal_mul h0 h1 hx0 hx1
  rw [w64 (n := e * x) (by omega) (by omega), w64 (by omega) (by omega), Int.tmod_eq_emod_of_nonneg (by omega)]
theorem specSign_ev (x : Int) (d : List Int) (hx0 : 1 ≤ x) (hx1 : x < 1073741789) (hd : isBytes d) (hl : d.length ≤ 20000) : Ev (fun k => spec_l2Sign.f k x d) (signL x d) := by
  have hs := signN_range x d
  have hr := pwm_range 4 (signN x d).toNat
  have hc := chalL_range (pwm 4 (signN x d).toNat) d
  simp only [spec_l2Sign.f]
  refine Ev.bind ⟨5, fun k hk => specBytes_eq x (by omega) (by omega) k hk⟩ ?_
  refine Ev.bind (smac_ev _ d (yb_bytes x) hd (by rw [yb_len]; omega) (by omega)) ?_
  refine Ev.bind ⟨5, fun k hk => specNum_eq _ (macL_bytes _ _) (by rw [macL_len]; omega) k hk⟩ ?_
  simp only [num_part]
  refine Ev.bind ⟨50, fun k hk => l2Power_at 4 (signN x d) (by omega) (by omega) (by omega) (by omega) k hk⟩ ?_
  refine Ev.bind (specChal_ev _ d hr.1 (by omega) hd hl) ?_
  simp only [sig_part (show 0 ≤ x by omega) hx1 hs.1 hs.2 hc.1 hc.2]
  exact Ev.now _
theorem implSign_ev (x : Int) (d : List Int) (hd : isBytes d) (hl : d.length ≤ 20000) : Ev (fun k => impl_Sign.f k x d) (if 1 ≤ x ∧ x < 1073741789 then signL x d else (0, 0)) := by
  refine Ev.up1 ?_
  by_cases hx : 1 ≤ x ∧ x < 1073741789
  · have hx0 := hx.1
    have hx1 := hx.2
    have hs := signN_range x d
    have hr := pwm_range 4 (signN x d).toNat
    have hc := chalL_range (pwm 4 (signN x d).toNat) d
    have y1 : impl_ybytes.f x = some (yb x) := rfl
    have n1 := implNum_eq (macL (yb x) d) (macL_bytes _ _) (by rw [macL_len]; omega)
    have c1 := implChal_eq (pwm 4 (signN x d).toNat) d hd hl
    simp only [if_pos hx, impl_Sign.f, impl_ysecret.f, if_pos (show x ≥ 1 by omega), decide_eq_true hx1, Option.bind_some, if_true, decide_eq_false (show ¬ ((d.length : Int) > 20000) by omega), impl_Sign.j0, Bool.false_eq_true, if_false, y1]
    refine Ev.bind (imac_ev _ d (yb_bytes x) hd (by rw [yb_len]; omega) hl) ?_
    simp only [n1, Option.bind_some, num_part]
    refine Ev.bind ⟨50, fun k hk => ypow_at 4 (signN x d) (by omega) (by omega) (by omega) (by omega) k hk⟩ ?_
    simp only [c1, Option.bind_some, sig_part (show 0 ≤ x by omega) hx1 hs.1 hs.2 hc.1 hc.2]
    exact Ev.now _
  · simp only [if_neg hx, impl_Sign.f, impl_ysecret.f]
    by_cases h1 : x ≥ 1
    · simp only [if_pos h1, Option.bind_some, decide_eq_false (show ¬ x < 1073741789 by omega), Bool.false_eq_true, if_false, impl_Sign.j0, if_true]
      exact Ev.now _
    · simp only [if_neg h1, Option.bind_some, Bool.false_eq_true, if_false, impl_Sign.j0, if_true]
      exact Ev.now _
theorem sign_verified (x : Int) (d : List Int) (hx0 : 1 ≤ x) (hx1 : x < 1073741789) (hl : d.length ≤ 20000) : verL (pwm 4 x.toNat) d (signL x d).1 (signL x d).2 = true := by
  have hs := signN_range x d
  have := verified x.toNat (signN x d).toNat d (by omega) (by omega) (by omega) hl
  rw [Int.toNat_of_nonneg (show 0 ≤ x by omega), Int.toNat_of_nonneg (show 0 ≤ signN x d by omega)] at this
  exact this
theorem specPublicOf_eq (x : Int) (hx0 : 1 ≤ x) (hx1 : x < 1073741789) (k : Nat) (hk : 50 ≤ k) : spec_PublicOf.f k x = some (pwm 4 x.toNat) := by
  unfold spec_PublicOf.f spec_l2Secret.f
  rw [if_pos (show x ≥ 1 by omega), decide_eq_true hx1, Option.bind_some, if_pos rfl, l2Power_at 4 x (by omega) (by omega) (by omega) (by omega) k hk]
  rfl
end Go.Proofs.Ytgolcojhnklfdaa.Pr
/- The cursor that draws: each draw gives something, within its bound. -/
namespace Go.Proofs.Ytgolcojhnklfdaa.Pr
open Go.RowKit Go.Proofs.Ytgolcojhnklfdaa.Read Go.Proofs.YtgolcojhnklfdaaW.PrintWords
theorem and255 (X : Int) : 0 ≤ Go.bits .and .u64 X 255 ∧ Go.bits .and .u64 X 255 ≤ 255 := by
  have h : ((BitVec.ofInt 64 X) &&& (BitVec.ofInt 64 255)).toNat ≤ 255 := by
    rw [BitVec.toNat_and]
    exact Nat.le_trans Nat.and_le_right (by decide)
  have e : Go.bits .and .u64 X 255 = IntKind.u64.wrap ((((BitVec.ofInt 64 X) &&& (BitVec.ofInt 64 255)).toNat : Nat) : Int) := rfl
  rw [e, IntKind.wrap_u64]
  omega
theorem cur_next (s : List Int) (hs : okL okB s) (p h : Int) (h0 : 0 ≤ p) (h1 : p ≤ 1000000000000) : ∃ v h', spec_l1Cur_next.f s p h = some (v, p + 1, h') ∧ 0 ≤ v ∧ v ≤ 255 := by
  have e : wrap64 (p + 1) = p + 1 := w64 (by omega) (by omega)
  unfold spec_l1Cur_next.f
  simp only [e]
  by_cases hp : p < (s.length : Int)
  · rw [if_pos hp, if_pos h0, if_pos (by omega)]
    have hm : rd s p ∈ s := by
      have : p.toNat < s.length := by omega
      simp [rd, List.getD_eq_getElem?_getD, List.getElem?_eq_getElem this]
    have hb : 0 ≤ rd s p ∧ rd s p ≤ 255 := hs.2 _ hm
    exact ⟨_, _, rfl, by rw [w64 (by omega) (by omega)]; exact hb.1, by rw [w64 (by omega) (by omega)]; exact hb.2⟩
  · rw [if_neg hp, if_neg (by omega)]
    have hb := and255 ((IntKind.u64.wrap ((IntKind.u64.wrap (IntKind.u64.wrap (h * 6364136223846793005))) + 1442695040888963407)) / 1099511627776)
    exact ⟨_, _, rfl, by rw [w64 (by omega) (by omega)]; exact hb.1, by rw [w64 (by omega) (by omega)]; exact hb.2⟩
theorem cur_pick (s : List Int) (hs : okL okB s) (p h n : Int) (h0 : 0 ≤ p) (h1 : p ≤ 999999999999) : ∃ v p' h', spec_l1Cur_pick.f s p h n = some (v, p', h') ∧ 0 ≤ v ∧ (v < n ∨ v = 0) ∧ p ≤ p' ∧ p' ≤ p + 2 := by
  unfold spec_l1Cur_pick.f
  by_cases hn : n ≤ 1
  · rw [if_pos hn]
    exact ⟨_, _, _, rfl, by omega, .inr rfl, by omega, by omega⟩
  · rw [if_neg hn]
    obtain ⟨v, h', e, v0, v1⟩ := cur_next s hs p h h0 (by omega)
    simp only [e, Option.bind_some]
    by_cases h2 : n > 200
    · rw [if_pos h2]
      obtain ⟨v2, h2', e2, v20, v21⟩ := cur_next s hs (p + 1) h' (by omega) (by omega)
      simp only [e2, Option.bind_some, if_neg (show ¬ n = 0 by omega), w64 (show -9223372036854775808 ≤ v * 256 by omega) (show v * 256 ≤ 9223372036854775807 by omega), w64 (show -9223372036854775808 ≤ v * 256 + v2 by omega) (show v * 256 + v2 ≤ 9223372036854775807 by omega)]
      refine ⟨_, _, _, rfl, ?_, .inl ?_, by omega, by omega⟩
      · rw [Int.tmod_eq_emod_of_nonneg (by omega)]; exact Int.emod_nonneg _ (by omega)
      · rw [Int.tmod_eq_emod_of_nonneg (by omega)]; exact Int.emod_lt_of_pos _ (by omega)
    · rw [if_neg h2, if_neg (show ¬ n = 0 by omega)]
      refine ⟨_, _, _, rfl, ?_, .inl ?_, by omega, by omega⟩
      · rw [Int.tmod_eq_emod_of_nonneg (by omega)]; exact Int.emod_nonneg _ (by omega)
      · rw [Int.tmod_eq_emod_of_nonneg (by omega)]; exact Int.emod_lt_of_pos _ (by omega)
theorem cur_one (s : List Int) (hs : okL okB s) (p h n : Int) (h0 : 0 ≤ p) (h1 : p ≤ 999999999999) : ∃ b p' h', spec_l1Cur_one.f s p h n = some (b, p', h') ∧ p ≤ p' ∧ p' ≤ p + 2 := by
  obtain ⟨v, p', h', e, _, _, g1, g2⟩ := cur_pick s hs p h n h0 h1
  unfold spec_l1Cur_one.f
  simp only [e, Option.bind_some]
  exact ⟨_, _, _, rfl, g1, g2⟩
end Go.Proofs.Ytgolcojhnklfdaa.Pr
/- More draws: bytes, one of a list's texts, a rare place, a secret. -/
namespace Go.Proofs.Ytgolcojhnklfdaa.Pr
open Go.RowKit Go.Proofs.Ytgolcojhnklfdaa.Read Go.Proofs.YtgolcojhnklfdaaW.PrintWords
set_option linter.unusedVariables false
theorem bytes_l0 (s : List Int) (hs : okL okB s) (d : Nat) : ∀ (x5 : List Int) (p h : Int), 0 ≤ p → p + d ≤ 900000000000 → x5.length + d ≤ 1000000 → ∃ (L : List Int) (p' h' : Int), (∀ k, d < k → spec_l1Cur_bytes.l0 k x5 d s p h = some (x5 ++ L, p', h')) ∧ isBytes L ∧ L.length = d ∧ p ≤ p' ∧ p' ≤ p + d := by
  induction d with
  | zero =>
    intro x5 p h h0 h1 hl
    refine ⟨[], p, h, fun k hk => ?_, (by simp [isBytes]), rfl, by omega, by omega⟩
    obtain ⟨k, rfl⟩ : ∃ m, k = m + 1 := ⟨k - 1, by omega⟩
    simp only [spec_l1Cur_bytes.l0, if_neg (show ¬ (((0 : Nat) : Int) > 0) by omega), List.append_nil]
  | succ d ih =>
    intro x5 p h h0 h1 hl
    obtain ⟨v, h', e, v0, v1⟩ := cur_next s hs p h h0 (by omega)
    obtain ⟨L, p2, h2, hL, hb, hlen, g1, g2⟩ := ih (x5 ++ [v % 256]) (p + 1) h' (by omega) (by omega) (by rw [List.length_append, List.length_singleton]; omega)
    refine ⟨v % 256 :: L, p2, h2, fun k hk => ?_, ?_, by rw [List.length_cons, hlen], by omega, by omega⟩
    · obtain ⟨k, rfl⟩ : ∃ m, k = m + 1 := ⟨k - 1, by omega⟩
      have ed : wrap64 (((d + 1 : Nat) : Int) - 1) = (d : Int) := by rw [w64 (by omega) (by omega)]; omega
      simp only [spec_l1Cur_bytes.l0, if_pos (show (((d + 1 : Nat) : Int) > 0) by omega), e, Option.bind_some, if_pos (show x5.length < 140737488355328 by omega), ed]
      rw [hL k (by omega), List.append_assoc]
      rfl
    · intro x hx
      rcases List.mem_cons.1 hx with rfl | hx
      · omega
      · exact hb x hx
theorem cur_bytes (s : List Int) (hs : okL okB s) (p h : Int) (n : Nat) (hn : n ≤ 1000) (h0 : 0 ≤ p) (h1 : p ≤ 800000000000) : ∃ (L : List Int) (p' h' : Int), (∀ k, n < k → spec_l1Cur_bytes.f k s p h n = some (L, p', h')) ∧ isBytes L ∧ L.length ≤ n ∧ p ≤ p' ∧ p' ≤ p + 2 + n := by
  obtain ⟨v, p1, h1', e, v0, v1, g1, g2⟩ := cur_pick s hs p h n h0 (by omega)
  obtain ⟨m, rfl⟩ : ∃ m : Nat, v = m := ⟨v.toNat, by omega⟩
  obtain ⟨L, p2, h2, hL, hb, hlen, g3, g4⟩ := bytes_l0 s hs m [] p1 h1' (by omega) (by omega) (by simp; omega)
  refine ⟨L, p2, h2, fun k hk => ?_, hb, by omega, by omega, by omega⟩
  unfold spec_l1Cur_bytes.f
  simp only [e, Option.bind_some]
  rw [hL k (by omega)]
  rfl
theorem cur_of (s : List Int) (hs : okL okB s) (p h : Int) (l : List ByteArray) (hl : 1 ≤ l.length) (hl2 : l.length ≤ 1000000) (h0 : 0 ≤ p) (h1 : p ≤ 999999999999) : ∃ (t : ByteArray) (p' h' : Int), spec_l1Cur_of.f s p h l = some (t, p', h') ∧ p ≤ p' ∧ p' ≤ p + 2 := by
  obtain ⟨v, p1, h1', e, v0, v1, g1, g2⟩ := cur_pick s hs p h l.length h0 h1
  unfold spec_l1Cur_of.f
  simp only [e, Option.bind_some, if_pos v0, if_pos (show v < (l.length : Int) by omega)]
  exact ⟨_, _, _, rfl, g1, g2⟩
theorem cur_secret (s : List Int) (hs : okL okB s) (p h : Int) (h0 : 0 ≤ p) (h1 : p ≤ 999999999000) : ∃ (x p' h' : Int), spec_l1Cur_secret.f s p h = some (x, p', h') ∧ p ≤ p' ∧ p' ≤ p + 6 := by
  obtain ⟨b, p1, h1', e, g1, g2⟩ := cur_one s hs p h 16 h0 (by omega)
  unfold spec_l1Cur_secret.f
  simp only [e, Option.bind_some]
  cases b with
  | true =>
    obtain ⟨v, p2, h2', e2, v0, v1, g3, g4⟩ := cur_pick s hs p1 h1' 6 (by omega) (by omega)
    simp only [if_true, e2, Option.bind_some, if_pos v0, List.length_cons, List.length_nil]
    rw [if_pos (by omega)]
    exact ⟨_, _, _, rfl, by omega, by omega⟩
  | false =>
    obtain ⟨v, p2, h2', e2, v0, v1, g3, g4⟩ := cur_pick s hs p1 h1' 60000 (by omega) (by omega)
    obtain ⟨v3, p3, h3', e3, v03, v13, g5, g6⟩ := cur_pick s hs p2 h2' 60000 (by omega) (by omega)
    simp only [Bool.false_eq_true, if_false, e2, e3, Option.bind_some]
    exact ⟨_, _, _, rfl, by omega, by omega⟩
theorem cur_rare (s : List Int) (hs : okL okB s) (p h n : Int) (hn : 2 ≤ n) (hn2 : n ≤ 1000000) (h0 : 0 ≤ p) (h1 : p ≤ 999999999000) : ∃ (v p' h' : Int), spec_l1Cur_rare.f s p h n = some (v, p', h') ∧ 0 ≤ v ∧ v < n ∧ p ≤ p' ∧ p' ≤ p + 4 := by
  obtain ⟨b, p1, h1', e, g1, g2⟩ := cur_one s hs p h 8 h0 (by omega)
  unfold spec_l1Cur_rare.f
  simp only [e, Option.bind_some]
  cases b with
  | true =>
    obtain ⟨v, p2, h2', e2, v0, v1, g3, g4⟩ := cur_pick s hs p1 h1' (n - 1) (by omega) (by omega)
    rw [w64 (n := n - 1) (by omega) (by omega)]
    simp only [if_true, e2, Option.bind_some]
    refine ⟨_, _, _, rfl, ?_, ?_, by omega, by omega⟩
    · rw [w64 (by omega) (by omega)]; omega
    · rw [w64 (by omega) (by omega)]; omega
  | false =>
    simp only [Bool.false_eq_true, if_false]
    exact ⟨_, _, _, rfl, by omega, by omega, by omega, by omega⟩
end Go.Proofs.Ytgolcojhnklfdaa.Pr
/- The law FnChallenged, its plain part. -/
namespace Go.Proofs.Ytgolcojhnklfdaa.Pure
open Go.RowKit Go.Proofs.Ytgolcojhnklfdaa.Read Go.Proofs.YtgolcojhnklfdaaW.PrintWords Go.Proofs.Ytgolcojhnklfdaa.Pr
theorem rep_bytes (n : Nat) : isBytes (List.replicate n 0) := by
  intro x hx
  obtain rfl := List.eq_of_mem_replicate hx
  omega
theorem drawAns_ev (s : List Int) (hs : okL okB s) : ∃ (x : Int) (o : ByteArray) (c : List Int) (n : Int), isBytes c ∧ Ev (fun k => spec_DrawAnswerChallenge.f k s) (x, o, c, n) := by
  obtain ⟨x, p1, h1, e1, a1, b1⟩ := cur_secret s hs 0 0 (by omega) (by omega)
  obtain ⟨o, p2, h2, e2, a2, b2⟩ := cur_of s hs p1 h1 [(⟨#[104, 116, 116, 112, 115, 58, 47, 47, 97, 46, 101, 120, 97, 109, 112, 108, 101]⟩ : ByteArray), (⟨#[120]⟩ : ByteArray), (⟨#[]⟩ : ByteArray)] (by simp) (by simp) (by omega) (by omega)
  obtain ⟨c, p3, h3, e3, hc, hcl, a3, b3⟩ := cur_bytes s hs p2 h2 12 (by omega) (by omega) (by omega)
  simp only [Int.cast_ofNat_Int] at e3
  obtain ⟨b, p4, h4, e4, a4, b4⟩ := cur_one s hs p3 h3 20 (by omega) (by omega)
  cases b with
  | true =>
    obtain ⟨v, p5, h5, e5, v0, v1, a5, b5⟩ := cur_pick s hs p4 h4 3 (by omega) (by omega)
    obtain ⟨v6, p6, h6, e6, v06, v16, a6, b6⟩ := cur_pick s hs p5 h5 300 (by omega) (by omega)
    obtain ⟨v7, p7, h7, e7, v07, v17, a7, b7⟩ := cur_rare s hs p6 h6 4 (by omega) (by omega) (by omega) (by omega)
    refine ⟨x, o, List.replicate (wrap64 (99 + v)).toNat 0, rd [v6, -1, 1000000000, 1000000001] v7, rep_bytes _, 20, fun k hk => ?_⟩
    have hw : wrap64 (99 + v) = 99 + v := w64 (by omega) (by omega)
    simp only [spec_DrawAnswerChallenge.f, newCur.f, Option.bind_some, e1, e2, e3 k (by omega), e4, if_true, e5, hw, if_pos (show 0 ≤ 99 + v by omega), if_pos (show (99 + v).toNat ≤ 281474976710656 by omega), e6, e7, if_pos v07, List.length_cons, List.length_nil]
    rw [if_pos (by omega)]
  | false =>
    obtain ⟨v6, p6, h6, e6, v06, v16, a6, b6⟩ := cur_pick s hs p4 h4 300 (by omega) (by omega)
    obtain ⟨v7, p7, h7, e7, v07, v17, a7, b7⟩ := cur_rare s hs p6 h6 4 (by omega) (by omega) (by omega) (by omega)
    refine ⟨x, o, c, rd [v6, -1, 1000000000, 1000000001] v7, hc, 20, fun k hk => ?_⟩
    simp only [spec_DrawAnswerChallenge.f, newCur.f, Option.bind_some, e1, e2, e3 k (by omega), e4, Bool.false_eq_true, if_false, e6, e7, if_pos v07, List.length_cons, List.length_nil]
    rw [if_pos (by omega)]
def ansC (x : Int) (o : ByteArray) (c : List Int) (n : Int) : ByteArray × Int × Int × Int :=
  if (1 ≤ x ∧ x < 1073741789) ∧ asked o c n then (o, n, (signL x (ansL o c n)).1, (signL x (ansL o c n)).2) else (⟨#[]⟩, 0, 0, 0)
theorem implAnsC_ev (x : Int) (o : ByteArray) (c : List Int) (n : Int) (hc : isBytes c) : Ev (fun k => impl_AnswerChallenge.f k x o c n) (ansC x o c n) := by
  refine Ev.up ?_
  by_cases hx : 1 ≤ x ∧ x < 1073741789
  · by_cases ha : asked o c n
    · simp only [impl_AnswerChallenge.f, impl_ysecret.f, if_pos (show x ≥ 1 by omega), decide_eq_true hx.2, Option.bind_some, if_true, fits_eq, decide_eq_true ha, Bool.not_true, impl_AnswerChallenge.j0, Bool.false_eq_true, if_false, implAns_eq o c n (show o.size ≤ 20000 by have := ha.2.1; omega) hc (show c.length ≤ 20000 by have := ha.2.2.1; omega), ansC, if_pos (show (1 ≤ x ∧ x < 1073741789) ∧ asked o c n from ⟨hx, ha⟩)]
      have h := implSign_ev x (ansL o c n) (ansL_bytes _ _ _) (by rw [ansL_len]; omega)
      rw [if_pos hx] at h
      exact Ev.bind h (Ev.now _)
    · simp only [impl_AnswerChallenge.f, impl_ysecret.f, if_pos (show x ≥ 1 by omega), decide_eq_true hx.2, Option.bind_some, if_true, fits_eq, decide_eq_false ha, Bool.not_false, impl_AnswerChallenge.j0, ansC, if_neg (show ¬ ((1 ≤ x ∧ x < 1073741789) ∧ asked o c n) from fun h => ha h.2)]
      exact Ev.now _
  · simp only [ansC, if_neg (show ¬ ((1 ≤ x ∧ x < 1073741789) ∧ asked o c n) from fun h => hx h.1), impl_AnswerChallenge.f, impl_ysecret.f]
    by_cases h1 : x ≥ 1
    · simp only [if_pos h1, Option.bind_some, decide_eq_false (show ¬ x < 1073741789 by omega), Bool.false_eq_true, if_false, impl_AnswerChallenge.j0, if_true]
      exact Ev.now _
    · simp only [if_neg h1, Option.bind_some, Bool.false_eq_true, if_false, impl_AnswerChallenge.j0, if_true]
      exact Ev.now _
theorem specAnsC_ev (x : Int) (o : ByteArray) (c : List Int) (n : Int) (hc : isBytes c) : Ev (fun k => spec_AnswerChallenge.f k x o c n) (ansC x o c n) := by
  refine Ev.up ?_
  by_cases hx : 1 ≤ x ∧ x < 1073741789
  · by_cases ha : asked o c n
    · simp only [spec_AnswerChallenge.f, spec_l2Secret.f, if_pos (show x ≥ 1 by omega), decide_eq_true hx.2, Option.bind_some, if_true, asked_eq, decide_eq_true ha, Bool.not_true, spec_AnswerChallenge.j0, Bool.false_eq_true, if_false, ansC, if_pos (show (1 ≤ x ∧ x < 1073741789) ∧ asked o c n from ⟨hx, ha⟩)]
      refine Ev.bind (specAns_ev o c n (by have := ha.2.1; omega) hc (by have := ha.2.2.1; omega) ha.2.2.2.1 (by have := ha.2.2.2.2; omega)) ?_
      exact Ev.bind (specSign_ev x (ansL o c n) hx.1 hx.2 (ansL_bytes _ _ _) (by rw [ansL_len]; omega)) (Ev.now _)
    · simp only [spec_AnswerChallenge.f, spec_l2Secret.f, if_pos (show x ≥ 1 by omega), decide_eq_true hx.2, Option.bind_some, if_true, asked_eq, decide_eq_false ha, Bool.not_false, spec_AnswerChallenge.j0, ansC, if_neg (show ¬ ((1 ≤ x ∧ x < 1073741789) ∧ asked o c n) from fun h => ha h.2)]
      exact Ev.now _
  · simp only [ansC, if_neg (show ¬ ((1 ≤ x ∧ x < 1073741789) ∧ asked o c n) from fun h => hx h.1), spec_AnswerChallenge.f, spec_l2Secret.f]
    by_cases h1 : x ≥ 1
    · simp only [if_pos h1, Option.bind_some, decide_eq_false (show ¬ x < 1073741789 by omega), Bool.false_eq_true, if_false, spec_AnswerChallenge.j0, if_true]
      exact Ev.now _
    · simp only [if_neg h1, Option.bind_some, Bool.false_eq_true, if_false, spec_AnswerChallenge.j0, if_true]
      exact Ev.now _
theorem FnChallenged : laws_FnChallenged.Pure := by
  intro code hcode
  by_cases hbig : (code.length : Int) > 1048576
  · exact ⟨0, by simp only [laws_FnChallenged.f, if_pos hbig]⟩
  obtain ⟨x, o, c, n, hc, hd⟩ := drawAns_ev code hcode
  apply Ev.rounds
  simp only [laws_FnChallenged.f, if_neg hbig]
  refine Ev.bind hd ?_
  dsimp only
  refine Ev.bind (implAnsC_ev x o c n hc) ?_
  refine Ev.bind (specAnsC_ev x o c n hc) ?_
  simp only [beq_self_eq_true, Bool.not_true, Bool.or_false, Bool.false_eq_true, if_false]
  by_cases hg : (1 ≤ x ∧ x < 1073741789) ∧ asked o c n
  case neg =>
    have e : ansC x o c n = (⟨#[]⟩, 0, 0, 0) := by unfold ansC; rw [if_neg hg]
    simp only [e]
    rw [show ((⟨#[]⟩ : ByteArray).toList == ([] : List UInt8)) = true by rw [ByteArray.toList_eq]; rfl]
    simp only [beq_self_eq_true, Bool.and_self, if_true]
    exact Ev.now _
  obtain ⟨hx, ha⟩ := hg
  have e : ansC x o c n = (o, n, (signL x (ansL o c n)).1, (signL x (ansL o c n)).2) := by unfold ansC; rw [if_pos ⟨hx, ha⟩]
  simp only [e]
  generalize hz : (o.toList == ([] : List UInt8) && (n == 0 && ((signL x (ansL o c n)).1 == 0 && (signL x (ansL o c n)).2 == 0))) = z
  cases z with
  | true => simp only [if_true]; exact Ev.now _
  | false =>
    simp only [Bool.false_eq_true, if_false]
    by_cases hn : n = 0
    · simp only [if_pos hn]; exact Ev.now _
    simp only [if_neg hn]
    have n0 := ha.2.2.2.1
    have n1 := ha.2.2.2.2
    have hp : pubOk (pwm 4 x.toNat) := pub_ok x.toNat (by omega) (by omega)
    have hv := sign_verified x (ansL o c n) hx.1 hx.2 (by rw [ansL_len]; omega)
    have ha1 : asked o c (n - 1) := ⟨ha.1, ha.2.1, ha.2.2.1, by omega, by omega⟩
    have hw : wrap64 (n - 1) = n - 1 := w64 (by omega) (by omega)
    have r1 : checkL (pwm 4 x.toNat) o (n - 1) c o n (signL x (ansL o c n)).1 (signL x (ansL o c n)).2 = (pwm 4 x.toNat, o, n, 0) := by
      unfold checkL
      rw [if_pos ⟨ha1, ha, hp⟩, if_pos rfl, if_neg (by omega), if_pos hv]
    have r2 : checkL (pwm 4 x.toNat) o n c o n (signL x (ansL o c n)).1 (signL x (ansL o c n)).2 = (0, ⟨#[]⟩, 0, 3) := by
      unfold checkL
      rw [if_pos ⟨ha, ha, hp⟩, if_pos rfl, if_pos (by omega)]
    refine Ev.bind ⟨50, fun k hk => specPublicOf_eq x hx.1 hx.2 k hk⟩ ?_
    simp only [hw]
    refine Ev.bind (implCheck_ev _ o (n - 1) c o n _ _ hc) ?_
    simp only [r1, if_true]
    refine Ev.bind (implCheck_ev _ o n c o n _ _ hc) ?_
    simp only [r2, if_true, if_pos (show o.size + 1 ≤ 9223372036854775807 by have := ha.2.1; omega)]
    by_cases hs : ((o ++ (⟨#[120]⟩ : ByteArray)).size : Int) > 100
    · simp only [if_pos hs]; exact Ev.now _
    simp only [if_neg hs]
    have hsz : (o ++ (⟨#[120]⟩ : ByteArray)).size = o.size + 1 := by rw [ByteArray.size_append]; rfl
    have hne : ¬ o.toList = (o ++ (⟨#[120]⟩ : ByteArray)).toList := fun h => by
      have := congrArg ByteArray.size (same_text h)
      omega
    have r3 : checkL (pwm 4 x.toNat) (o ++ (⟨#[120]⟩ : ByteArray)) (n - 1) c o n (signL x (ansL o c n)).1 (signL x (ansL o c n)).2 = (0, ⟨#[]⟩, 0, 2) := by
      unfold checkL
      rw [if_pos ⟨⟨by omega, by omega, ha1.2.2⟩, ⟨by omega, by omega, ha.2.2⟩, hp⟩, if_neg hne]
    refine Ev.bind (implCheck_ev _ _ (n - 1) c o n _ _ hc) ?_
    simp only [r3]
    exact Ev.now _
end Go.Proofs.Ytgolcojhnklfdaa.Pure
/- The law FnChallenged: whatever the input, the call returns true and the arguments read as before. No conditions. -/
namespace Go.Proofs.Ytgolcojhnklfdaa.fnChallenged
open Go.ChangeShapes Go.WideShapes Go.ChangeAt Go.RowKit Go.Proofs.Ytgolcojhnklfdaa.Read Go.Proofs.YtgolcojhnklfdaaW.PrintWords Go.Proofs.Ytgolcojhnklfdaa.Pr
open Go.ChangeMaps (open_string shut_string)
set_option linter.unusedVariables false
theorem own : ownKnob Try.prog.godebug = none := by kernel_rfl
theorem laidOut : laidOutB Try.prog = true := by kernel_rfl
set_option maxRecDepth 100000 in
theorem lifted (os : Os) (started : os.Started) (H : Type) (enc : TypeId × Value → H) :
    ReturnsInHanded {} Try.checked os 7 .any (Rows.fnChallengedSpec.pre6 enc Try.prog Try.f7 Rows.fnChallengedRow.domain false) (Rows.fnChallengedSpec.post enc Try.prog Try.f7 false true false false) := by
  refine returnsInHanded_of_change (C := Try.checked) own started (by kernel_rfl) Try.func7
    (ChangeSpec.witness6 (enc := enc) (C := Try.checked) false ⟨#[], #[.slice none 0 0], []⟩ 8 (by kernel_rfl) (by kernel_rfl) (by kernel_rfl) (by kernel_rfl)) ?_
  intro W base args ds gs before hval0 hW hcnd _
  have hval : ∀ (j : Nat) t v, Try.f7.params[j]? = some t → args[j]? = some v → Value.okWide Try.prog W .any base t v := hval0
  have hW' := hW
  obtain ⟨p, q, hA0, hV, rfl, hfz, hnd⟩ := hW
  have hA : DataW.TrodAll enc Try.prog W 0 (fun _ => true) true Try.f7.params.toList args.toList ds p := hA0
  rw [Try.params7] at hA hval
  obtain ⟨v0, vs0, d0, ds0, p0, q0, hargs, rfl, rfl, h0, r0⟩ := trodAll_cons hA
  obtain ⟨rfl, rfl, rfl⟩ := trodAll_nil r0
  obtain rfl : args = #[v0] := by cases args; simp_all
  obtain ⟨rfl, rfl⟩ := trodVars_none hV
  have lt0 : ∀ x ∈ p0, x.block < W.heap.size := by obtain ⟨m, hm⟩ := h0; exact DataW.trod_lt m _ _ _ hm
  have bk0 := fun {W' : World} (bel : Below W.heap.size W W') => Below.trod laidOut (by kernel_rfl) (of_decide_eq_true (by kernel_rfl)) h0 bel lt0
  obtain ⟨A0, c0, l0, rfl, hl0, hC0, o0⟩ := arg_slice Try.underlying26 (tellsL Try.underlying26 (by kernel_rfl) (tellsB Try.underlying5 (by kernel_rfl))) (hval 0 26 v0 rfl rfl) h0
  obtain ⟨k, hk⟩ := Pure.FnChallenged l0 o0
  refine (laws_FnChallenged.calls k _ _ l0 true W hC0 hl0 hk).mono fun e W' hpost => ?_
  obtain ⟨he, hb⟩ := hpost
  have bel : Below W.heap.size W W' := hb
  subst he
  exact ⟨_, rfl, _, _, _, [], _, [], hW', trodAll_mk1 (shut_bool Try.underlying4 _), (trodAll_cons_mk (bk0 bel) trodAll_mk0), rfl, bel.frame _, fun h => by cases h⟩
theorem over : Rows.fnChallengedRow.holds Try.pinned (OpenSpec.ofChange Rows.fnChallengedSpec) :=
  OpenClaim.holds_of_wide 7 Try.f7 rfl rfl rfl rfl rfl rfl rfl ⟨rfl, rfl, rfl, rfl, rfl⟩ rfl rfl rfl rfl rfl (by kernel_rfl) Try.func7 (by kernel_rfl)
    (of_decide_eq_true (by kernel_rfl)) (by unfold Func.isWrapper; first | (rw [if_pos (by decide +kernel)]; kernel_rfl) | (rw [if_neg (by decide +kernel)]; exact ⟨rfl, rfl⟩))
    (fun os started H enc _ => lifted os started H enc)
theorem proved : Rows.FnChallengedSaid := over
#print axioms proved
end Go.Proofs.Ytgolcojhnklfdaa.fnChallenged
namespace Go.Proofs.Ytgolcojhnklfdaa
/-- The row, under a short name, for the claim. -/
theorem fnChallenged_holds : Rows.FnChallengedSaid := fnChallenged.proved
end Go.Proofs.Ytgolcojhnklfdaa
