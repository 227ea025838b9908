/- Armour: the letters of data, five bits each; what the reference tells. Plain facts. -/
import Derived.Test.YtccbjchlcelkgaaPbytes
import Derived.Test.YtccbjchlcelkgaaHdigest
import Derived.Test.YtccbjchlcelkgaaPr62
import Derived.Laws.BitsLemmas
namespace Go.Proofs.Ytccbjchlcelkgaa.Pr
open Go.RowKit Go.Proofs.Ytccbjchlcelkgaa.Read Go.Proofs.YtccbjchlcelkgaaW.PrintWords
set_option linter.unusedVariables false
/-- The bit i of data, the greatest of a byte first; behind the end 0. -/
def bitv (data : List Int) (i : Nat) : Int := if i / 8 < data.length then rd data ((i / 8 : Nat) : Int) / 2 ^ (7 - i % 8) % 2 else 0
/-- The number that n bits from i on tell. -/
def val (data : List Int) (i : Nat) : Nat → Int
  | 0 => 0
  | n + 1 => 2 * val data i n + bitv data (i + n)
theorem bitv_range (data : List Int) (i : Nat) : 0 ≤ bitv data i ∧ bitv data i ≤ 1 := by
  unfold bitv
  split
  · omega
  · omega
theorem val_range (data : List Int) (i : Nat) : ∀ n, 0 ≤ val data i n ∧ val data i n < 2 ^ n
  | 0 => by simp [val]
  | n + 1 => by
    have h := val_range data i n
    have hb := bitv_range data (i + n)
    rw [val, Int.pow_succ]
    omega
theorem val_add (data : List Int) (i n : Nat) : ∀ m, val data i (n + m) = val data i n * 2 ^ m + val data (i + n) m
  | 0 => by simp [val]
  | m + 1 => by
    rw [show n + (m + 1) = (n + m) + 1 by omega, val, val_add data i n m, val, Int.pow_succ, Nat.add_assoc, Int.mul_add, Int.add_assoc]
    congr 1
    rw [← Int.mul_assoc, Int.mul_comm 2, Int.mul_assoc, Int.mul_comm 2]
theorem val_end (data : List Int) (i : Nat) (h : 8 * data.length ≤ i) : ∀ n, val data i n = 0
  | 0 => rfl
  | n + 1 => by
    rw [val, val_end data i h n]
    unfold bitv
    rw [if_neg (by omega)]
    rfl
theorem rd_byte {data : List Int} (hb : isBytes data) {m : Nat} (hm : m < data.length) : 0 ≤ rd data (m : Int) ∧ rd data (m : Int) ≤ 255 := by
  rw [rd_nat hm]
  have := hb _ (List.getElem_mem hm)
  omega
theorem val_byte (data : List Int) (hb : isBytes data) (m : Nat) (hm : m < data.length) : val data (8 * m) 8 = rd data (m : Int) := by
  have hr := rd_byte hb hm
  have e : ∀ j, j < 8 → bitv data (8 * m + j) = rd data (m : Int) / 2 ^ (7 - j) % 2 := fun j hj => by
    unfold bitv
    rw [show (8 * m + j) / 8 = m by omega, show (8 * m + j) % 8 = j by omega, if_pos hm]
  simp only [val, e 0 (by omega), e 1 (by omega), e 2 (by omega), e 3 (by omega), e 4 (by omega), e 5 (by omega), e 6 (by omega), e 7 (by omega)]
  simp only [show (7 - 0 : Nat) = 7 from rfl, show (7 - 1 : Nat) = 6 from rfl, show (7 - 2 : Nat) = 5 from rfl, show (7 - 3 : Nat) = 4 from rfl, show (7 - 4 : Nat) = 3 from rfl, show (7 - 5 : Nat) = 2 from rfl, show (7 - 6 : Nat) = 1 from rfl, show (7 - 7 : Nat) = 0 from rfl]
  omega
def lettersB : ByteArray := ⟨#[48, 49, 50, 51, 52, 53, 54, 55, 56, 57, 97, 98, 99, 100, 101, 102, 103, 104, 105, 106, 107, 108, 109, 110, 111, 112, 113, 114, 115, 116, 117, 118]⟩
def letU (n : Int) : UInt8 := lettersB.data.getD n.toNat 0
theorem letU_fin : ∀ n : Fin 32, bt lettersB ((n.val : Nat) : Int) = ((letU ((n.val : Nat) : Int)).toNat : Int) := by decide +kernel
theorem bt_let {n : Int} (h0 : 0 ≤ n) (h1 : n < 32) : bt lettersB n = ((letU n).toNat : Int) := by
  obtain ⟨m, rfl⟩ := Int.eq_ofNat_of_zero_le h0
  exact letU_fin ⟨m, by omega⟩
/-- The first n letters. -/
def armU (data : List Int) : Nat → List UInt8
  | 0 => []
  | n + 1 => armU data n ++ [letU (val data (5 * n) 5)]
theorem armU_len (data : List Int) : ∀ n, (armU data n).length = n
  | 0 => rfl
  | n + 1 => by simp [armU, armU_len data n]
def armN (data : List Int) : Nat := (8 * data.length + 4) / 5
def armB (data : List Int) : ByteArray := ⟨(armU data (armN data)).toArray⟩
def numsOf (l : List UInt8) : List Int := l.map fun u => (u.toNat : Int)
theorem str_nums (l : List UInt8) : strOfNums (numsOf l) = ⟨l.toArray⟩ := by
  unfold strOfNums numsOf
  congr 1
  congr 1
  rw [List.map_map]
  conv => rhs; rw [← List.map_id l]
  congr 1
  funext u
  simp
theorem bit_fin : ∀ x : Fin 256, ∀ s : Fin 8, Go.bits .and .i64 (shr .i64 (wrap64 ((x.val : Nat) : Int)) (IntKind.u64.wrap (((7 - s.val : Nat) : Nat) : Int))) 1 = ((x.val : Nat) : Int) / 2 ^ (7 - s.val) % 2 := by decide +kernel
theorem sArmor_l1 (data : List Int) (hb : isBytes data) (hl : data.length ≤ 1000000) (q : Nat) (hq : 5 * q < 8 * data.length) (x3 : List Int) (hx : x3.length = q) (d : Nat) : ∀ (k j : Nat), j + d = 5 → spec_l2Armor.l1 (k + d + 1) data x3 ((5 * q : Nat) : Int) (val data (5 * q) j) ((5 * q + j : Nat) : Int) = spec_l2Armor.l0 k data (x3 ++ [((letU (val data (5 * q) 5)).toNat : Int)]) ((5 * (q + 1) : Nat) : Int) := by
  have w5 : wrap64 (((5 * q : Nat) : Int) + 5) = ((5 * q + 5 : Nat) : Int) := by rw [w64 (by omega) (by omega)]; omega
  have w8 : wrap64 ((data.length : Int) * 8) = ((8 * data.length : Nat) : Int) := by rw [w64 (by omega) (by omega)]; omega
  induction d with
  | zero =>
    intro k j hj
    obtain rfl : j = 5 := by omega
    have hv := val_range data (5 * q) 5
    have h32 : val data (5 * q) 5 < 32 := by have := hv.2; omega
    simp only [spec_l2Armor.l1, w5, if_neg (show ¬ (((5 * q + 5 : Nat) : Int) < ((5 * q + 5 : Nat) : Int)) by omega)]
    rw [show spec_l2Letters.f = some lettersB from rfl, Option.bind_some, if_pos hv.1, if_pos (show val data (5 * q) 5 < (lettersB.size : Int) from h32), if_pos (by omega), bt_let hv.1 h32]
    rfl
  | succ d ih =>
    intro k j hj
    have hv := val_range data (5 * q) j
    have hp : (2 : Int) ^ j ≤ 16 := by
      rcases j with _ | _ | _ | _ | _ | j
      · decide
      · decide
      · decide
      · decide
      · decide
      · omega
    have e1 : wrap64 (((5 * q + j : Nat) : Int) + 1) = ((5 * q + (j + 1) : Nat) : Int) := by rw [w64 (by omega) (by omega)]; omega
    have e2 : wrap64 (val data (5 * q) j * 2) = 2 * val data (5 * q) j := by rw [w64 (by omega) (by omega)]; omega
    have ih2 := ih k (j + 1) (by omega)
    rw [show k + (d + 1) + 1 = (k + d + 1) + 1 by omega]
    generalize k + d + 1 = K at ih2 ⊢
    simp only [spec_l2Armor.l1, w5, w8, if_pos (show ((5 * q + j : Nat) : Int) < ((5 * q + 5 : Nat) : Int) by omega), e1, e2]
    have hval : val data (5 * q) (j + 1) = 2 * val data (5 * q) j + bitv data (5 * q + j) := rfl
    by_cases hin : 5 * q + j < 8 * data.length
    · have et : wrap64 (Int.tdiv ((5 * q + j : Nat) : Int) 8) = (((5 * q + j) / 8 : Nat) : Int) := by
        rw [Int.tdiv_eq_ediv_of_nonneg (by omega), w64 (by omega) (by omega)]; omega
      have em : Int.tmod ((5 * q + j : Nat) : Int) 8 = (((5 * q + j) % 8 : Nat) : Int) := by
        rw [Int.tmod_eq_emod_of_nonneg (by omega)]; omega
      have e7 : wrap64 (7 - (((5 * q + j) % 8 : Nat) : Int)) = ((7 - (5 * q + j) % 8 : Nat) : Int) := by rw [w64 (by omega) (by omega)]; omega
      have eu : IntKind.u64.wrap ((7 - (5 * q + j) % 8 : Nat) : Int) = ((7 - (5 * q + j) % 8 : Nat) : Int) := IntWalk.u64_in _ (by omega)
      have hm : (5 * q + j) / 8 < data.length := by omega
      have hr := rd_byte hb hm
      obtain ⟨x, hx2⟩ := Int.eq_ofNat_of_zero_le hr.1
      have hbit := bit_fin ⟨x, by omega⟩ ⟨(5 * q + j) % 8, by omega⟩
      simp only [← hx2] at hbit
      rw [eu] at hbit
      have hbv : bitv data (5 * q + j) = rd data (((5 * q + j) / 8 : Nat) : Int) / 2 ^ (7 - (5 * q + j) % 8) % 2 := by
        unfold bitv
        rw [if_pos hm]
      simp only [if_pos (show ((5 * q + j : Nat) : Int) < ((8 * data.length : Nat) : Int) by omega), et, em, e7, eu, if_pos (show (0 : Int) ≤ (((5 * q + j) / 8 : Nat) : Int) by omega), if_pos (show (((5 * q + j) / 8 : Nat) : Int) < (data.length : Int) by omega), if_pos (show (0 : Int) ≤ ((7 - (5 * q + j) % 8 : Nat) : Int) by omega), hbit, ← hbv]
      have hbr := bitv_range data (5 * q + j)
      rw [w64 (by omega) (by omega), ← hval]
      exact ih2
    · have hz : bitv data (5 * q + j) = 0 := by unfold bitv; rw [if_neg (by omega)]
      rw [hz, Int.add_zero] at hval
      rw [if_neg (by omega), ← hval]
      exact ih2
theorem sArmor_l0 (data : List Int) (hb : isBytes data) (hl : data.length ≤ 1000000) (d : Nat) : ∀ (k q : Nat), q + d = armN data → 7 * d < k → spec_l2Armor.l0 k data (numsOf (armU data q)) ((5 * q : Nat) : Int) = some (armB data) := by
  have w8 : wrap64 ((data.length : Int) * 8) = ((8 * data.length : Nat) : Int) := by rw [w64 (by omega) (by omega)]; omega
  induction d with
  | zero =>
    intro k q hq hk
    obtain ⟨k, rfl⟩ : ∃ m, k = m + 1 := ⟨k - 1, by omega⟩
    simp only [spec_l2Armor.l0, w8, if_neg (show ¬ (((5 * q : Nat) : Int) < ((8 * data.length : Nat) : Int)) by unfold armN at hq; omega), str_nums]
    rw [show q = armN data by omega]
    rfl
  | succ d ih =>
    intro k q hq hk
    obtain ⟨k, rfl⟩ : ∃ m, k = m + 1 + 5 + 1 := ⟨k - 7, by omega⟩
    have h8 : 5 * q < 8 * data.length := by unfold armN at hq; omega
    simp only [spec_l2Armor.l0, w8, if_pos (show ((5 * q : Nat) : Int) < ((8 * data.length : Nat) : Int) by omega)]
    have := sArmor_l1 data hb hl q h8 (numsOf (armU data q)) (by simp [numsOf, armU_len]) 5 k 0 (by omega)
    refine this.trans ?_
    rw [show numsOf (armU data q) ++ [((letU (val data (5 * q) 5)).toNat : Int)] = numsOf (armU data (q + 1)) by simp [numsOf, armU]]
    exact ih k (q + 1) (by omega) (by omega)
theorem specArmor_ev (data : List Int) (hb : isBytes data) (hl : data.length ≤ 1000000) : Ev (fun k => spec_l2Armor.f k data) (armB data) :=
  ⟨7 * armN data + 1, fun k hk => sArmor_l0 data hb hl (armN data) k 0 (by omega) (by omega)⟩
theorem i64_small (n : Int) (h0 : 0 ≤ n) (h1 : n < 2 ^ 40) : IntKind.i64.wrap n = n := IntWalk.i64_in _ (by omega)
theorem shr_natc (e n : Nat) (hn : n ≤ 64) : shr .i64 (e : Int) (n : Int) = ((e / 2 ^ n : Nat) : Int) := by
  unfold shr
  rw [Int.toNat_natCast, Nat.min_eq_left (show n ≤ IntKind.i64.bits from hn)]
  simp
/-- A split of a number of bits: what a shift keeps and what a mask keeps. -/
theorem val_split (data : List Int) (i n m : Nat) : val data i (n + m) / 2 ^ m = val data i n ∧ val data i (n + m) % 2 ^ m = val data (i + n) m := by
  have h := val_range data (i + n) m
  have hp : (0 : Int) < 2 ^ m := Int.pow_pos (by decide)
  rw [val_add, Int.add_comm]
  constructor
  · rw [Int.add_mul_ediv_right _ _ (by omega), Int.ediv_eq_zero_of_lt h.1 h.2, Int.zero_add]
  · rw [Int.add_mul_emod_self_right, Int.emod_eq_of_lt h.1 h.2]
theorem val_or (data : List Int) (hb : isBytes data) (i s : Nat) (hi : i < data.length) (hs : s ≤ 8 * i) (hs2 : 8 * i ≤ s + 4) : Go.bits .or .i64 (val data s (8 * i - s) * 256) (rd data (i : Int)) = val data s (8 * (i + 1) - s) := by
  have h := val_range data s (8 * i - s)
  have hr := rd_byte hb hi
  have hp : (2 : Int) ^ (8 * i - s) ≤ 16 := by
    obtain ⟨m, hm⟩ : ∃ m, m = 8 * i - s := ⟨_, rfl⟩
    rw [← hm]
    rcases m with _ | _ | _ | _ | _ | m
    · decide
    · decide
    · decide
    · decide
    · decide
    · omega
  rw [Go.bits_join .i64 40 (by decide) i64_small 8 _ _ (by omega) (by omega) (by omega) hr.1 (by omega) (by omega)]
  rw [show 8 * (i + 1) - s = (8 * i - s) + 8 by omega, val_add, show s + (8 * i - s) = 8 * i by omega, val_byte data hb i hi]
  rfl
theorem val_letter (data : List Int) (s q e : Nat) (h1 : s ≤ 5 * q) (h2 : 5 * q + 5 ≤ e) (h3 : e ≤ s + 12) : Go.bits .and .i64 (shr .i64 (val data s (e - s)) ((e - (5 * q + 5) : Nat) : Int)) 31 = val data (5 * q) 5 := by
  have h := val_range data s (e - s)
  obtain ⟨v, hv⟩ := Int.eq_ofNat_of_zero_le h.1
  have hs := (val_split data s (5 * q + 5 - s) (e - (5 * q + 5))).1
  rw [show 5 * q + 5 - s + (e - (5 * q + 5)) = e - s by omega] at hs
  have hs2 := val_split data s (5 * q - s) 5
  rw [show 5 * q - s + 5 = 5 * q + 5 - s by omega, show s + (5 * q - s) = 5 * q by omega] at hs2
  have hlt := val_range data s (5 * q + 5 - s)
  have hp : (2 : Int) ^ (5 * q + 5 - s) ≤ 2 ^ 12 := by
    have := Nat.pow_le_pow_right (show 0 < 2 by decide) (show 5 * q + 5 - s ≤ 12 by omega)
    exact_mod_cast this
  have e1 : shr .i64 (val data s (e - s)) ((e - (5 * q + 5) : Nat) : Int) = val data s (5 * q + 5 - s) := by
    rw [← hs, hv, shr_natc _ _ (by omega)]
    simp
  rw [e1, show (31 : Int) = 2 ^ 5 - 1 by decide, Go.bits_mask .i64 40 (by decide) i64_small 5 (by decide) _ hlt.1 (by omega)]
  exact hs2.2
theorem val_mask (data : List Int) (s q e : Nat) (h1 : s ≤ 5 * q) (h2 : 5 * q ≤ e) (h3 : e ≤ s + 12) : Go.bits .and .i64 (val data s (e - s)) (2 ^ (e - 5 * q) - 1) = val data (5 * q) (e - 5 * q) := by
  have h := val_range data s (e - s)
  have hs := (val_split data s (5 * q - s) (e - 5 * q)).2
  rw [show 5 * q - s + (e - 5 * q) = e - s by omega, show s + (5 * q - s) = 5 * q by omega] at hs
  have hp : (2 : Int) ^ (e - s) ≤ 2 ^ 12 := by
    have := Nat.pow_le_pow_right (show 0 < 2 by decide) (show e - s ≤ 12 by omega)
    exact_mod_cast this
  rw [Go.bits_mask .i64 40 (by decide) i64_small (e - 5 * q) (by omega) _ h.1 (by omega)]
  exact hs
theorem val_last (data : List Int) (q b : Nat) (h : 8 * data.length = 5 * q + b) (hb : b ≤ 5) : val data (5 * q) b * 2 ^ (5 - b) = val data (5 * q) 5 := by
  have e := val_add data (5 * q) b (5 - b)
  rw [show b + (5 - b) = 5 by omega, val_end data (5 * q + b) (by omega), Int.add_zero] at e
  exact e.symm
theorem and31 (n : Int) (h0 : 0 ≤ n) (h1 : n < 32) : Go.bits .and .i64 n 31 = n := by
  rw [show (31 : Int) = 2 ^ 5 - 1 by decide, Go.bits_mask .i64 40 (by decide) i64_small 5 (by decide) _ h0 (by omega)]
  exact Int.emod_eq_of_lt h0 h1
end Go.Proofs.Ytccbjchlcelkgaa.Pr
