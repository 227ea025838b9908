/- The law FnCodes: whatever the input, the call returns true and the arguments read as before. No conditions. -/
import Derived.Test.YtgolcojhnklfdaaDoorRead
import Derived.Test.YtgolcojhnklfdaaDoorPr6
import Derived.Test.YtgolcojhnklfdaaDoorPrgByteS
import Derived.Test.YtgolcojhnklfdaaDoorHitoa
import Derived.Test.YtgolcojhnklfdaaDoorPr22
import Derived.Test.YtgolcojhnklfdaaDoorHdigest
import Derived.Test.YtgolcojhnklfdaaDoorPrgS2
import Derived.Test.YtgolcojhnklfdaaDoorPr26
import Derived.Test.YtgolcojhnklfdaaDoorPr39
import Derived.Test.YtgolcojhnklfdaaDoorHbytes
import Derived.Test.YtgolcojhnklfdaaDoorPr27
import Derived.Test.YtgolcojhnklfdaaDoorPr10
import Derived.Test.YtgolcojhnklfdaaDoorPr12
import Derived.Test.YtgolcojhnklfdaaDoorPr14
import Derived.Test.YtgolcojhnklfdaaDoorPr15
import Derived.Test.YtgolcojhnklfdaaDoorPr19
import Derived.Test.YtgolcojhnklfdaaDoorPr18
import Derived.Laws.Strings
import Derived.Test.YtgolcojhnklfdaaDoorPrcur
import Derived.Test.YtgolcojhnklfdaaDoorPr30
import Derived.Test.YtgolcojhnklfdaaDoorPr31
import Derived.Test.YtgolcojhnklfdaaDoorPr43
import Derived.Test.YtgolcojhnklfdaaDoorPr16
import Derived.Test.YtgolcojhnklfdaaDoorPr17
import Derived.Test.YtgolcojhnklfdaaDoorRows
import Derived.Test.YtgolcojhnklfdaaDoorCards
import Derived.Test.YtgolcojhnklfdaaDoorTie
import Derived.WalkKit
import Derived.ProofKit
import Derived.OpenShut
import Derived.ShutString
import Derived.ChangeOld
import Derived.Below
import Derived.SevenTiedAt
import Derived.Stop.LaidErr
import Derived.Lib.LaidTab
/- The pure statement of the law FnCodes. -/
namespace Go.Proofs.YtgolcojhnklfdaaDoor.Pr
open Go.RowKit Go.Proofs.YtgolcojhnklfdaaDoor.Read Go.Proofs.YtgolcojhnklfdaaDoorW.PrintWords
set_option linter.unusedVariables false
/-- What is left of the law FnCodes: a statement about numbers and lists. -/
def laws_FnCodes.Pure : Prop := ∀ (l0 : (List Int)), (okL okB) l0 → ∃ k, laws_FnCodes.f k l0 = some true
end Go.Proofs.YtgolcojhnklfdaaDoor.Pr
/- The helpers over slices of bytes: copied, compared, marked, held: plain facts. -/
namespace Go.Proofs.YtgolcojhnklfdaaDoor.Pr
open Go.RowKit Go.Proofs.YtgolcojhnklfdaaDoor.Read Go.Proofs.YtgolcojhnklfdaaDoorW.PrintWords

theorem w64 {n : Int} (h0 : -9223372036854775808 ≤ n) (h1 : n ≤ 9223372036854775807) : wrap64 n = n := by unfold wrap64; omega
theorem rd_nat {l : List Int} {i : Nat} (h : i < l.length) : rd l (i : Int) = l[i] := by
  simp [rd, List.getD_eq_getElem?_getD, List.getElem?_eq_getElem h]
theorem list_rd_ext {a b : List Int} (hl : a.length = b.length) (h : ∀ i : Nat, i < a.length → rd a i = rd b i) : a = b := by
  apply List.ext_getElem hl
  intro i h1 h2
  have := h i h1
  rwa [rd_nat h1, rd_nat h2] at this


theorem toByteS_l0 (x0 : List Int) (hl : x0.length ≤ 281474976710656) (d : Nat) : ∀ (k i : Nat) (x3 : List Int), x0.length - i = d → i ≤ x0.length → x3.length = x0.length → d < k → laws_toByteS.l0 k x0 x3 i = some (x3.take i ++ x0.drop i) := by
  induction d with
  | zero =>
    intro k i x3 hd hi h3 hk
    obtain ⟨k, rfl⟩ : ∃ m, k = m + 1 := ⟨k - 1, by omega⟩
    simp only [laws_toByteS.l0]
    rw [if_neg (by omega), List.take_of_length_le (by omega), List.drop_of_length_le (by omega), List.append_nil]
  | succ d ih =>
    intro k i x3 hd hi h3 hk
    obtain ⟨k, rfl⟩ : ∃ m, k = m + 1 := ⟨k - 1, by omega⟩
    simp only [laws_toByteS.l0]
    rw [if_pos (by omega), if_pos (by omega), if_pos (by omega), w64 (by omega) (by omega)]
    have e := ih k (i + 1) (x3.set i (rd x0 i)) (by omega) (by omega) (by simpa using h3) (by omega)
    rw [Int.toNat_natCast]
    rw [show ((i : Int) + 1) = ((i + 1 : Nat) : Int) from rfl, e]
    congr 1
    have hlt : i < x0.length := by omega
    rw [List.take_succ_eq_append_getElem (by simp; omega), List.getElem_set_self, List.take_set_of_le (by omega), rd_nat hlt, List.append_assoc, List.singleton_append, ← List.drop_eq_getElem_cons hlt]
theorem toByteS_ev (l : List Int) (hl : l.length ≤ 281474976710656) : Ev (fun k => laws_toByteS.f k l) l :=
  ⟨l.length + 1, fun k hk => by
    show laws_toByteS.f k l = some l
    unfold laws_toByteS.f
    rw [if_pos (by omega), if_pos (by omega)]
    have := toByteS_l0 l hl l.length k 0 (List.replicate ((l.length : Int)).toNat 0) (by omega) (by omega) (by simp) (by omega)
    simpa using this⟩

theorem eqByteS_l0 (x0 x1 : List Int) (hl : x0.length = x1.length) (hm : x0.length ≤ 281474976710656) (d : Nat) : ∀ (k i : Nat), x0.length - i = d → i ≤ x0.length → d < k → laws_eqByteS.l0 k x0 x1 i = some (decide (x0.drop i = x1.drop i)) := by
  induction d with
  | zero =>
    intro k i hd hi hk
    obtain ⟨k, rfl⟩ : ∃ m, k = m + 1 := ⟨k - 1, by omega⟩
    simp only [laws_eqByteS.l0]
    rw [if_neg (by omega), List.drop_of_length_le (by omega), List.drop_of_length_le (by omega)]; simp
  | succ d ih =>
    intro k i hd hi hk
    obtain ⟨k, rfl⟩ : ∃ m, k = m + 1 := ⟨k - 1, by omega⟩
    simp only [laws_eqByteS.l0]
    have h0 : i < x0.length := by omega
    have h1 : i < x1.length := by omega
    rw [if_pos (by omega), if_pos (by omega), if_pos (by omega), w64 (by omega) (by omega), rd_nat h0, rd_nat h1, List.drop_eq_getElem_cons h0, List.drop_eq_getElem_cons h1]
    have e := ih k (i + 1) (by omega) (by omega) (by omega)
    rw [show ((i : Int) + 1) = ((i + 1 : Nat) : Int) from rfl, e]
    by_cases hx : x0[i] = x1[i]
    · rw [if_pos hx]; congr 1; rw [decide_eq_decide, hx, List.cons.injEq]; exact ⟨fun h => ⟨rfl, h⟩, fun h => h.2⟩
    · rw [if_neg hx]; congr 1; symm; rw [decide_eq_false_iff_not, List.cons.injEq]; exact fun h => hx h.1
theorem eqByteS_ev (a b : List Int) (hl : a.length ≤ 281474976710656) : Ev (fun k => laws_eqByteS.f k a b) (decide (a = b)) :=
  ⟨a.length + 1, fun k hk => by
    show laws_eqByteS.f k a b = _
    unfold laws_eqByteS.f
    by_cases h : a.length = b.length
    · rw [if_pos (by omega)]
      have := eqByteS_l0 a b h hl a.length k 0 (by omega) (by omega) (by omega)
      simpa using this
    · rw [if_neg (by omega)]
      have : a ≠ b := fun e => h (by rw [e])
      simp [this]⟩
theorem eqByteS_refl (a : List Int) (hl : a.length ≤ 281474976710656) : Ev (fun k => laws_eqByteS.f k a a) true := by
  have := eqByteS_ev a a hl
  simpa using this

/-- What a marked slice of n bytes holds, counted from k. -/
def markL : Nat → Int → List Int
  | 0, _ => []
  | n + 1, k => k % 256 :: markL n (k + 1)
theorem markL_len : ∀ (n : Nat) (k : Int), (markL n k).length = n
  | 0, _ => rfl
  | n + 1, k => by simp [markL, markL_len n]
end Go.Proofs.YtgolcojhnklfdaaDoor.Pr
/- Numerals: the reference's l1Num is the library's itoa. Plain facts. -/
namespace Go.Proofs.YtgolcojhnklfdaaDoor.Pr
open Go.RowKit Go.Proofs.YtgolcojhnklfdaaDoor.Read Go.Proofs.YtgolcojhnklfdaaDoorW.PrintWords
def digS (d : Nat) : ByteArray := ⟨#[UInt8.ofNat (48 + d)]⟩
theorem dig_fin : ∀ d : Fin 10, (strOfNums [((48 + (d.val : Int))) % 256]).data = (digS d.val).data := by decide +kernel
theorem dig_eq {d : Nat} (h : d < 10) : strOfNums [((48 + (d : Int))) % 256] = digS d := ByteArray.ext (dig_fin ⟨d, h⟩)
def decS (u : Nat) : ByteArray := ⟨(Lib.decDigits u).toArray⟩
theorem decS_small {u : Nat} (h : u < 10) : decS u = digS u := by
  unfold decS digS
  rw [Lib.decDigits, dif_pos h]
theorem decS_big {u : Nat} (h : ¬ u < 10) : decS u = decS (u / 10) ++ digS (u % 10) := by
  apply ByteArray.ext
  unfold decS digS
  rw [Lib.decDigits, dif_neg h]
  simp
theorem digS_size (d : Nat) : (digS d).size = 1 := rfl
theorem size_l0 (u : Nat) : 0 < u → ∃ K, ∀ k, K ≤ k → ∀ acc : ByteArray, acc.size + u ≤ 9000000000000000000 → spec_l1Size.l0 k (u : Int) acc = some (decS u ++ acc) := by
  induction u using Nat.strongRecOn with
  | _ u ih =>
    intro hu
    by_cases h : u < 10
    · refine ⟨2, fun k hk acc hacc => ?_⟩
      obtain ⟨k, rfl⟩ : ∃ m, k = m + 1 + 1 := ⟨k - 2, by omega⟩
      have e1 : Int.tmod (u : Int) 10 = (u : Int) := by rw [Int.tmod_eq_emod_of_nonneg (by omega)]; omega
      have e2 : Int.tdiv (u : Int) 10 = 0 := by rw [Int.tdiv_eq_ediv_of_nonneg (by omega)]; omega
      have e3 : wrap64 (48 + (u : Int)) = 48 + (u : Int) := w64 (by omega) (by omega)
      have e4 : wrap64 0 = 0 := w64 (by omega) (by omega)
      simp only [spec_l1Size.l0, if_neg (show ¬ ((u : Int) = 0) by omega), e1, e2, e3, e4, if_neg (show ¬ ((u : Int) < 0) by omega), Option.bind_some, dig_eq h, digS_size, if_pos (show 1 + acc.size ≤ 9223372036854775807 by omega), if_true]
      rw [decS_small h]
    · obtain ⟨K, hK⟩ := ih (u / 10) (by omega) (by omega)
      refine ⟨K + 1, fun k hk acc hacc => ?_⟩
      obtain ⟨k, rfl⟩ : ∃ m, k = m + 1 := ⟨k - 1, by omega⟩
      have e1 : Int.tmod (u : Int) 10 = ((u % 10 : Nat) : Int) := by rw [Int.tmod_eq_emod_of_nonneg (by omega)]; omega
      have e2 : wrap64 (Int.tdiv (u : Int) 10) = ((u / 10 : Nat) : Int) := by rw [Int.tdiv_eq_ediv_of_nonneg (by omega), w64 (by omega) (by omega)]; omega
      have e3 : wrap64 (48 + ((u % 10 : Nat) : Int)) = 48 + ((u % 10 : Nat) : Int) := w64 (by omega) (by omega)
      simp only [spec_l1Size.l0, if_neg (show ¬ ((u : Int) = 0) by omega), e1, e2, e3, if_neg (show ¬ (((u % 10 : Nat) : Int) < 0) by omega), Option.bind_some, dig_eq (show u % 10 < 10 by omega), digS_size, if_pos (show 1 + acc.size ≤ 9223372036854775807 by omega)]
      rw [hK k (by omega) _ (by rw [ByteArray.size_append, digS_size]; omega), decS_big h, ByteArray.append_assoc]
theorem itoa_nat (u : Nat) : (⟨(Lib.itoa (u : Int)).toArray⟩ : ByteArray) = decS u := by
  unfold Lib.itoa
  rw [if_neg (by omega), Int.toNat_natCast]
  rfl
/-- The reference's numeral, of a number that is not below 0. -/
theorem l1Num_ev (u : Nat) (h : u ≤ 8000000000000000000) : Ev (fun k => spec_l1Num.f k (u : Int)) (decS u) := by
  rcases Nat.eq_zero_or_pos u with rfl | hu
  · refine ⟨0, fun k _ => ?_⟩
    have : decS 0 = (⟨#[48]⟩ : ByteArray) := by rw [decS_small (by omega)]; rfl
    rw [this]
    rfl
  · obtain ⟨K, hK⟩ := size_l0 u hu
    refine ⟨K, fun k hk => ?_⟩
    show spec_l1Num.f k (u : Int) = _
    simp only [spec_l1Num.f, spec_l1Size.f, if_neg (show ¬ ((u : Int) < 0) by omega), if_neg (show ¬ ((u : Int) = 0) by omega)]
    rw [hK k hk _ (by show 0 + u ≤ _; omega), Option.bind_some]
    congr 1
    apply ByteArray.ext
    simp
theorem itoa_eq (u : Nat) (h : u ≤ 8000000000000000000) : strconv_Itoa.f (u : Int) = some (decS u) := by
  unfold strconv_Itoa.f
  rw [if_pos ⟨by omega, by omega⟩, itoa_nat]
theorem decS_len (u : Nat) : ∀ k, u < 10 ^ (k + 1) → (decS u).size ≤ k + 1 := by
  induction u using Nat.strongRecOn with
  | _ u ih =>
    intro k hk
    by_cases h : u < 10
    · rw [decS_small h, digS_size]; omega
    · rcases k with _ | k
      · omega
      · rw [decS_big h, ByteArray.size_append, digS_size]
        have := ih (u / 10) (by omega) k (by rw [Nat.pow_succ] at hk; omega)
        omega
end Go.Proofs.YtgolcojhnklfdaaDoor.Pr
/- The digest: the reference's and the program's come to one. Plain facts. -/
namespace Go.Proofs.YtgolcojhnklfdaaDoor.Pr
open Go.RowKit Go.Proofs.YtgolcojhnklfdaaDoor.Read Go.Proofs.YtgolcojhnklfdaaDoorW.PrintWords

def inP (a : List Int) : Prop := a.length = 4 ∧ ∀ j, j < 4 → 0 ≤ a.getD j 0 ∧ a.getD j 0 < 2147483579
theorem inP_start : inP [11, 22, 33, 44] := ⟨rfl, by decide⟩
theorem inP_mix {a : List Int} (h : inP a) (x : Int) (hx : 0 ≤ x) : inP (dgMix a x) := ⟨by rw [dgMix, mix_len, h.1], mix_bd a x hx h.1 h.2 4 (by omega)⟩
theorem inP_all : ∀ (l a : List Int), inP a → (∀ x ∈ l, 0 ≤ x) → inP (dgAll a l)
  | [], _, h, _ => h
  | x :: l, a, h, hx => inP_all l (dgMix a x) (inP_mix h x (hx x List.mem_cons_self)) (fun y hy => hx y (List.mem_cons_of_mem _ hy))
theorem dgAll_cons (a : List Int) (x : Int) (l : List Int) : dgAll a (x :: l) = dgAll (dgMix a x) l := rfl
theorem mt_at (i : Nat) (h : i < 4) : rd [1103515245, 69069, 1664525, 22695477] (i : Int) = mulT.getD i 0 := by
  match i, h with
  | 0, _ => rfl
  | 1, _ => rfl
  | 2, _ => rfl
  | 3, _ => rfl
theorem rd_getD (l : List Int) (i : Nat) : rd l (i : Int) = l.getD i 0 := by simp [rd]
theorem specMix_step (l : List Int) (h : inP l) (x : Int) (hx : 0 ≤ x ∧ x ≤ 255) (i : Nat) (hi : i < 4) (k : Nat) :
    spec_l2Mix.l0 (k + 1) (mixN l x i) x [1103515245, 69069, 1664525, 22695477] i = spec_l2Mix.l0 k (mixN l x (i + 1)) x [1103515245, 69069, 1664525, 22695477] ((i + 1 : Nat) : Int) := by
  have hlen : (mixN l x i).length = 4 := by rw [mix_len, h.1]
  have b1 := mix_bd l x hx.1 h.1 h.2 i (by omega) i hi
  have b2 := mix_bd l x hx.1 h.1 h.2 i (by omega) ((i + 1) % 4) (by omega)
  have b3 := mulOk i hi
  simp only [spec_l2Mix.l0]
  rw [w64 (n := (i : Int) + 1) (by omega) (by omega)]
  have e6 : Int.tmod ((i : Int) + 1) 4 = ((i + 1) % 4 : Nat) := by rw [Int.tmod_eq_emod_of_nonneg (by omega)]; omega
  rw [e6, mt_at i hi, rd_getD, rd_getD]
  obtain ⟨p1, e1⟩ : ∃ p, p = (mixN l x i).getD i 0 := ⟨_, rfl⟩
  obtain ⟨p2, e2⟩ : ∃ p, p = (mixN l x i).getD ((i + 1) % 4) 0 := ⟨_, rfl⟩
  obtain ⟨p3, e3⟩ : ∃ p, p = mulT.getD i 0 := ⟨_, rfl⟩
  have e5 : mixN l x (i + 1) = (mixN l x i).set i ((p1 * p3 + x + 1 + p2) % 2147483579) := by rw [e1, e2, e3]; rfl
  rw [e5, ← e1, ← e2, ← e3]
  rw [← e1] at b1; rw [← e2] at b2; rw [← e3] at b3
  have b4 := prod_bd b1.1 b1.2 b3.1 b3.2
  rw [if_pos (by omega), if_pos (by omega), if_pos (by omega), if_pos (by simp; omega), if_pos (by omega), if_pos (by omega), w64 (n := p1 * p3) (by omega) (by omega), w64 (n := p1 * p3 + x) (by omega) (by omega), w64 (n := p1 * p3 + x + 1) (by omega) (by omega), w64 (by omega) (by omega), Int.tmod_eq_emod_of_nonneg (by omega), Int.toNat_natCast]
  rfl
theorem specMix_eq (l : List Int) (h : inP l) (x : Int) (hx : 0 ≤ x ∧ x ≤ 255) (k : Nat) (hk : 5 ≤ k) : spec_l2Mix.f k l x = some (dgMix l x) := by
  obtain ⟨k, rfl⟩ : ∃ m, k = m + 5 := ⟨k - 5, by omega⟩
  unfold spec_l2Mix.f
  have e0 := specMix_step l h x hx 0 (by omega) (k + 4)
  have e1 := specMix_step l h x hx 1 (by omega) (k + 3)
  have e2 := specMix_step l h x hx 2 (by omega) (k + 2)
  have e3 := specMix_step l h x hx 3 (by omega) (k + 1)
  have e4 : spec_l2Mix.l0 (k + 1) (mixN l x 4) x [1103515245, 69069, 1664525, 22695477] ((3 + 1 : Nat) : Int) = some (mixN l x 4) := by
    simp only [spec_l2Mix.l0]; rw [if_neg (by omega)]
  exact e0.trans (e1.trans (e2.trans (e3.trans e4)))
theorem tm256 (n : Int) (h : 0 ≤ n) : Int.tmod n 256 % 256 = n % 256 := by rw [Int.tmod_eq_emod_of_nonneg h]; omega
theorem td256 (n : Int) (h : 0 ≤ n) (h2 : n ≤ 9223372036854775807) : wrap64 (Int.tdiv n 256) = n / 256 := by
  rw [Int.tdiv_eq_ediv_of_nonneg h, w64 (by omega) (by omega)]
theorem specBytes_eq (n : Int) (h : 0 ≤ n) (h2 : n ≤ 9223372036854775807) (k : Nat) (hk : 5 ≤ k) : spec_l2Bytes.f k n = some (yb n) := by
  obtain ⟨k, rfl⟩ : ∃ m, k = m + 5 := ⟨k - 5, by omega⟩
  unfold spec_l2Bytes.f
  rw [if_pos (by omega)]
  simp only [Option.bind_some, List.length_replicate]
  simp only [spec_l2Bytes.l0]
  have a1 := td256 n h h2
  have a2 := td256 (n / 256) (by omega) (by omega)
  have a3 := td256 (n / 256 / 256) (by omega) (by omega)
  have w1 : wrap64 ((0 : Int) + 1) = 1 := by unfold wrap64; omega
  have w2 : wrap64 ((1 : Int) + 1) = 2 := by unfold wrap64; omega
  have w3 : wrap64 ((2 : Int) + 1) = 3 := by unfold wrap64; omega
  have w4 : wrap64 ((3 : Int) + 1) = 4 := by unfold wrap64; omega
  rw [w1, w2, w3, w4, a1, a2, a3, tm256 n h, tm256 _ (by omega), tm256 _ (by omega), tm256 _ (by omega)]
  simp [yb, List.replicate]
  omega
theorem specDig_l3 (a : List Int) (h : inP a) : ∀ (k : Nat), 10 ≤ k → spec_l2Digest.l3 k [] a (a.length : Int) 0 = some (a.flatMap yb) := by
  intro k hk
  obtain ⟨k, rfl⟩ : ∃ m, k = m + 10 := ⟨k - 10, by omega⟩
  obtain ⟨hl, hb⟩ := h
  match a, hl with
  | [b0, b1, b2, b3], _ =>
    have h0 := hb 0 (by omega)
    have h1 := hb 1 (by omega)
    have h2 := hb 2 (by omega)
    have h3 := hb 3 (by omega)
    simp only [List.getD_cons_zero, List.getD_cons_succ] at h0 h1 h2 h3
    have w1 : wrap64 ((0 : Int) + 1) = 1 := by unfold wrap64; omega
    have w2 : wrap64 ((1 : Int) + 1) = 2 := by unfold wrap64; omega
    have w3 : wrap64 ((2 : Int) + 1) = 3 := by unfold wrap64; omega
    have w4 : wrap64 ((3 : Int) + 1) = 4 := by unfold wrap64; omega
    have r0 : rd [b0, b1, b2, b3] 0 = b0 := rfl
    have r1 : rd [b0, b1, b2, b3] 1 = b1 := rfl
    have r2 : rd [b0, b1, b2, b3] 2 = b2 := rfl
    have r3 : rd [b0, b1, b2, b3] 3 = b3 := rfl
    simp only [spec_l2Digest.l3, w1, w2, w3, w4, r0, r1, r2, r3]
    rw [specBytes_eq b0 (by omega) (by omega) _ (by omega), specBytes_eq b1 (by omega) (by omega) _ (by omega), specBytes_eq b2 (by omega) (by omega) _ (by omega), specBytes_eq b3 (by omega) (by omega) _ (by omega)]
    simp [yb]
theorem specDig_l2 (d : Nat) : ∀ (a : List Int) (k i : Nat), inP a → i + d = 8 → d + 12 ≤ k → spec_l2Digest.l2 k a i = some ((dgAll a (List.replicate d 0)).flatMap yb) := by
  induction d with
  | zero =>
    intro a k i h hi hk
    obtain ⟨k, rfl⟩ : ∃ m, k = m + 1 := ⟨k - 1, by omega⟩
    simp only [spec_l2Digest.l2]
    rw [if_neg (by omega), specDig_l3 a h k (by omega)]; rfl
  | succ d ih =>
    intro a k i h hi hk
    obtain ⟨k, rfl⟩ : ∃ m, k = m + 1 := ⟨k - 1, by omega⟩
    simp only [spec_l2Digest.l2]
    rw [if_pos (by omega), specMix_eq a h 0 (by omega) k (by omega)]
    simp only [Option.bind_some]
    rw [w64 (by omega) (by omega), show ((i : Int) + 1) = ((i + 1 : Nat) : Int) from rfl, ih (dgMix a 0) k (i + 1) (inP_mix h 0 (by omega)) (by omega) (by omega)]
    rfl
theorem wbyte {x : Int} (h : 0 ≤ x ∧ x ≤ 255) : wrap64 x = x := w64 (by omega) (by omega)
theorem drop_rd {l : List Int} {i : Nat} (h : i < l.length) : l.drop i = rd l i :: l.drop (i + 1) := by rw [List.drop_eq_getElem_cons h, rd_nat h]
theorem specDig_l1 (xs : List Int) (hx : isBytes xs) (hl : xs.length ≤ 1000000000) (d : Nat) : ∀ (a : List Int) (k i : Nat), inP a → i + d = xs.length → d + 24 ≤ k →
    spec_l2Digest.l1 k a xs (xs.length : Int) i = some ((dgAll (dgAll a (xs.drop i)) (List.replicate 8 0)).flatMap yb) := by
  induction d with
  | zero =>
    intro a k i h hi hk
    obtain ⟨k, rfl⟩ : ∃ m, k = m + 1 := ⟨k - 1, by omega⟩
    simp only [spec_l2Digest.l1]
    rw [if_neg (by omega), List.drop_of_length_le (by omega)]
    exact specDig_l2 8 a k 0 h (by omega) (by omega)
  | succ d ih =>
    intro a k i h hi hk
    obtain ⟨k, rfl⟩ : ∃ m, k = m + 1 := ⟨k - 1, by omega⟩
    have hlt : i < xs.length := by omega
    have hb := hx (rd xs i) (rd_mem hlt)
    simp only [spec_l2Digest.l1]
    rw [if_pos (by omega), if_pos (by omega), if_pos (by omega), wbyte hb, specMix_eq a h _ hb k (by omega)]
    simp only [Option.bind_some]
    rw [w64 (by omega) (by omega), show ((i : Int) + 1) = ((i + 1 : Nat) : Int) from rfl, ih _ k (i + 1) (inP_mix h _ hb.1) (by omega) (by omega), drop_rd hlt, dgAll_cons]
theorem specDig_l0 (xs ys : List Int) (hx : isBytes xs) (hl : xs.length ≤ 1000000000) (hly : ys.length ≤ 1000000000) (d : Nat) : ∀ (a : List Int) (k i : Nat), inP a → i + d = xs.length → d + 40 ≤ k →
    spec_l2Digest.l0 k ys a xs (xs.length : Int) i = some ((dgAll (dgAll (dgAll a (xs.drop i)) (yb ys.length)) (List.replicate 8 0)).flatMap yb) := by
  induction d with
  | zero =>
    intro a k i h hi hk
    obtain ⟨k, rfl⟩ : ∃ m, k = m + 1 := ⟨k - 1, by omega⟩
    simp only [spec_l2Digest.l0]
    rw [if_neg (by omega), List.drop_of_length_le (by omega), specBytes_eq _ (by omega) (by omega) k (by omega)]
    exact specDig_l1 (yb ys.length) (yb_bytes _) (by rw [yb_len]; omega) 4 a k 0 h (by rw [yb_len]) (by omega)
  | succ d ih =>
    intro a k i h hi hk
    obtain ⟨k, rfl⟩ : ∃ m, k = m + 1 := ⟨k - 1, by omega⟩
    have hlt : i < xs.length := by omega
    have hb := hx (rd xs i) (rd_mem hlt)
    simp only [spec_l2Digest.l0]
    rw [if_pos (by omega), if_pos (by omega), if_pos (by omega), wbyte hb, specMix_eq a h _ hb k (by omega)]
    simp only [Option.bind_some]
    rw [w64 (by omega) (by omega), show ((i : Int) + 1) = ((i + 1 : Nat) : Int) from rfl, ih _ k (i + 1) (inP_mix h _ hb.1) (by omega) (by omega), drop_rd hlt, dgAll_cons]
theorem specDigest_eq (l : List Int) (h : isBytes l) (hl : l.length ≤ 1000000000) (k : Nat) (hk : l.length + 40 ≤ k) : spec_l2Digest.f k l = some (dg l) := by
  have := specDig_l0 l l h hl hl l.length [11, 22, 33, 44] k 0 inP_start (by omega) hk
  simpa [spec_l2Digest.f, dg, dgS] using this
theorem specDigest_ev (l : List Int) (h : isBytes l) (hl : l.length ≤ 1000000000) : Ev (fun k => spec_l2Digest.f k l) (dg l) := ⟨_, fun k hk => specDigest_eq l h hl k hk⟩
theorem isBytes_flatMap_yb (a : List Int) : isBytes (a.flatMap yb) := by
  intro x hx
  obtain ⟨n, _, hn⟩ := List.mem_flatMap.1 hx
  exact yb_bytes n x hn
theorem dg_bytes (l : List Int) : isBytes (dg l) := isBytes_flatMap_yb _
theorem dgAll_len : ∀ (l a : List Int), (dgAll a l).length = a.length
  | [], _ => rfl
  | x :: l, a => by rw [dgAll_cons, dgAll_len l, dgMix, mix_len]
theorem dg_len (l : List Int) : (dg l).length = 16 := by
  have h : (dgS l).length = 4 := by simp [dgS, dgAll_len]
  unfold dg
  match dgS l, h with
  | [b0, b1, b2, b3], _ => rfl
theorem isBytes_append {a b : List Int} (h : isBytes a) (h2 : isBytes b) : isBytes (a ++ b) := fun x hx => (List.mem_append.1 hx).elim (h x) (h2 x)
theorem implDigest_eq (l : List Int) (h : isBytes l) (hl : l.length ≤ 20000) : impl_Digest.f l = some (dg l) := by
  unfold impl_Digest.f; rw [if_pos h, if_neg (by omega)]
theorem isBytes_okL {l : List Int} (h : okL okB l) : isBytes l := fun x hx => h.2 x hx
theorem bytesOf_isBytes (s : ByteArray) : isBytes (bytesOf s) := by
  intro x hx
  simp only [bytesOf, List.mem_map] at hx
  obtain ⟨b, _, rfl⟩ := hx
  have := b.toNat_lt
  omega
/-- The sum of a key and data. -/
def macL (key data : List Int) : List Int := dg (dg key ++ dg data)
end Go.Proofs.YtgolcojhnklfdaaDoor.Pr
/- Numbers of digests: the program's and the reference's are one. -/
namespace Go.Proofs.YtgolcojhnklfdaaDoor.Pr
open Go.RowKit Go.Proofs.YtgolcojhnklfdaaDoor.Read Go.Proofs.YtgolcojhnklfdaaDoorW.PrintWords
set_option linter.unusedVariables false
def numL (l : List Int) : Int := rd l 0 + 256 * rd l 1 + 65536 * rd l 2 + 16777216 * rd l 3
theorem or_nat (a b : Nat) (ha : a < 4611686018427387904) (hb : b < 4611686018427387904) : Go.bits .or .i64 (a : Int) (b : Int) = ((a ||| b : Nat) : Int) := by
  have h1 : (BitVec.ofInt 64 (a : Int)).toNat = a := by
    rw [BitVec.ofInt_natCast, BitVec.toNat_ofNat]; exact Nat.mod_eq_of_lt (by omega)
  have h2 : (BitVec.ofInt 64 (b : Int)).toNat = b := by
    rw [BitVec.ofInt_natCast, BitVec.toNat_ofNat]; exact Nat.mod_eq_of_lt (by omega)
  have h3 : a ||| b < 2 ^ 62 := Nat.or_lt_two_pow (by simpa using ha) (by simpa using hb)
  have e0 : Go.bits .or .i64 (a : Int) (b : Int) = IntKind.i64.wrap ((((BitVec.ofInt 64 (a : Int)) ||| (BitVec.ofInt 64 (b : Int))).toNat : Nat) : Int) := rfl
  rw [e0, BitVec.toNat_or, h1, h2]
  exact IntWalk.i64_in _ (by omega)
theorem or_add (i : Nat) (a b : Int) (ha0 : 0 ≤ a) (ha : a < (2 ^ i : Nat)) (hb0 : 0 ≤ b) (hb : b < 4294967296) (hi : i ≤ 24) : Go.bits .or .i64 a (b * (2 ^ i : Nat)) = a + b * (2 ^ i : Nat) := by
  obtain ⟨a, rfl⟩ : ∃ n : Nat, a = n := ⟨a.toNat, by omega⟩
  obtain ⟨b, rfl⟩ : ∃ n : Nat, b = n := ⟨b.toNat, by omega⟩
  have hp : 2 ^ i ≤ 16777216 := Nat.le_trans (Nat.pow_le_pow_right (by omega) hi) (by decide)
  have hb' : b * 2 ^ i < 4611686018427387904 := by
    have : b * 2 ^ i ≤ 4294967296 * 16777216 := Nat.mul_le_mul (by omega) hp
    omega
  rw [← Int.natCast_mul, or_nat a (b * 2 ^ i) (by omega) hb', Nat.or_comm, Nat.mul_comm, ← Nat.two_pow_add_eq_or_of_lt (show a < 2 ^ i by omega)]
  rw [Nat.mul_comm, Int.natCast_add, Int.natCast_mul]
  omega
theorem nrd_byte {l : List Int} (h : isBytes l) {i : Nat} (hi : i < l.length) : 0 ≤ rd l i ∧ rd l i ≤ 255 := by
  refine h _ ?_
  rw [rd_nat hi]
  exact List.getElem_mem hi
theorem implNum_eq (l : List Int) (h : isBytes l) (hl : 4 ≤ l.length) : impl_ynumber.f l = some (numL l) := by
  have b0 := nrd_byte h (i := 0) (by omega)
  have b1 := nrd_byte h (i := 1) (by omega)
  have b2 := nrd_byte h (i := 2) (by omega)
  have b3 := nrd_byte h (i := 3) (by omega)
  simp only [Int.cast_ofNat_Int] at b0 b1 b2 b3
  unfold impl_ynumber.f
  rw [if_neg (by omega), if_pos (by omega), if_pos (by omega), if_pos (by omega), if_pos (by omega), w64 (n := rd l 0) (by omega) (by omega), w64 (n := rd l 1) (by omega) (by omega), w64 (n := rd l 2) (by omega) (by omega), w64 (n := rd l 3) (by omega) (by omega), w64 (n := rd l 1 * 256) (by omega) (by omega), w64 (n := rd l 2 * 65536) (by omega) (by omega), w64 (n := rd l 3 * 16777216) (by omega) (by omega)]
  have e1 := or_add 8 (rd l 0) (rd l 1) (by omega) (by simp; omega) (by omega) (by omega) (by omega)
  have e2 := or_add 16 (rd l 0 + rd l 1 * 256) (rd l 2) (by omega) (by simp; omega) (by omega) (by omega) (by omega)
  have e3 := or_add 24 (rd l 0 + rd l 1 * 256 + rd l 2 * 65536) (rd l 3) (by omega) (by simp; omega) (by omega) (by omega) (by omega)
  simp only [show ((2 ^ 8 : Nat) : Int) = 256 from rfl, show ((2 ^ 16 : Nat) : Int) = 65536 from rfl, show ((2 ^ 24 : Nat) : Int) = 16777216 from rfl] at e1 e2 e3
  rw [e1, e2, e3]
  simp only [numL, Option.some.injEq]
  omega
theorem specNum_eq (l : List Int) (h : isBytes l) (hl : 4 ≤ l.length) (k : Nat) (hk : 5 ≤ k) : spec_l2Number.f k l = some (numL l) := by
  have b0 := nrd_byte h (i := 0) (by omega)
  have b1 := nrd_byte h (i := 1) (by omega)
  have b2 := nrd_byte h (i := 2) (by omega)
  have b3 := nrd_byte h (i := 3) (by omega)
  simp only [Int.cast_ofNat_Int] at b0 b1 b2 b3
  obtain ⟨k, rfl⟩ : ∃ m, k = m + 5 := ⟨k - 5, by omega⟩
  unfold spec_l2Number.f
  rw [spec_l2Number.l0, if_pos (by omega), if_pos (by omega), if_pos (by omega), show wrap64 ((3 : Int) - 1) = 2 from (w64 (by omega) (by omega)).trans (by omega), w64 (n := (0 : Int) * 256) (by omega) (by omega), w64 (n := rd l 3) (by omega) (by omega), w64 (n := (0 : Int) * 256 + rd l 3) (by omega) (by omega)]
  rw [spec_l2Number.l0, if_pos (by omega), if_pos (by omega), if_pos (by omega), show wrap64 ((2 : Int) - 1) = 1 from (w64 (by omega) (by omega)).trans (by omega), w64 (n := rd l 2) (by omega) (by omega), w64 (n := ((0 : Int) * 256 + rd l 3) * 256) (by omega) (by omega), w64 (n := ((0 : Int) * 256 + rd l 3) * 256 + rd l 2) (by omega) (by omega)]
  rw [spec_l2Number.l0, if_pos (by omega), if_pos (by omega), if_pos (by omega), show wrap64 ((1 : Int) - 1) = 0 from (w64 (by omega) (by omega)).trans (by omega), w64 (n := rd l 1) (by omega) (by omega), w64 (n := (((0 : Int) * 256 + rd l 3) * 256 + rd l 2) * 256) (by omega) (by omega), w64 (n := (((0 : Int) * 256 + rd l 3) * 256 + rd l 2) * 256 + rd l 1) (by omega) (by omega)]
  rw [spec_l2Number.l0, if_pos (by omega), if_pos (by omega), if_pos (by omega), show wrap64 ((0 : Int) - 1) = -1 from (w64 (by omega) (by omega)).trans (by omega), w64 (n := rd l 0) (by omega) (by omega), w64 (n := ((((0 : Int) * 256 + rd l 3) * 256 + rd l 2) * 256 + rd l 1) * 256) (by omega) (by omega), w64 (n := ((((0 : Int) * 256 + rd l 3) * 256 + rd l 2) * 256 + rd l 1) * 256 + rd l 0) (by omega) (by omega)]
  rw [spec_l2Number.l0, if_neg (by omega)]
  simp only [numL, Option.some.injEq]
  omega
theorem numL_range (l : List Int) (h : isBytes l) (hl : 4 ≤ l.length) : 0 ≤ numL l ∧ numL l ≤ 4294967295 := by
  have b0 := nrd_byte h (i := 0) (by omega)
  have b1 := nrd_byte h (i := 1) (by omega)
  have b2 := nrd_byte h (i := 2) (by omega)
  have b3 := nrd_byte h (i := 3) (by omega)
  simp only [Int.cast_ofNat_Int] at b0 b1 b2 b3
  unfold numL
  omega
end Go.Proofs.YtgolcojhnklfdaaDoor.Pr
/- Macs: the reference's and the program's are one. -/
namespace Go.Proofs.YtgolcojhnklfdaaDoor.Pr
open Go.RowKit Go.Proofs.YtgolcojhnklfdaaDoor.Read Go.Proofs.YtgolcojhnklfdaaDoorW.PrintWords
theorem Ev.up2 {α : Type} {g : Nat → Option α} {r : α} (h : Ev (fun k => g (k + 1)) r) : Ev g r := by
  obtain ⟨n, hn⟩ := h
  refine ⟨n + 1, fun k hk => ?_⟩
  obtain ⟨k, rfl⟩ : ∃ m, k = m + 1 := ⟨k - 1, by omega⟩
  exact hn k (by omega)
theorem macTwo_ev (a b : List Int) (ha : isBytes a) (hb : isBytes b) (la : a.length ≤ 100000000) (lb : b.length ≤ 100000000) : Ev (fun k => spec_l2Two.f k a b) (dg (a ++ b)) := by
  have hab := specDigest_ev (a ++ b) (isBytes_append ha hb) (by rw [List.length_append]; omega)
  simp only [spec_l2Two.f, List.length_nil, if_pos (show 0 + a.length < 140737488355328 by omega), List.nil_append, Option.bind_some, if_pos (show a.length + b.length < 140737488355328 by omega)]
  exact Ev.bind hab (Ev.now _)
theorem macS_ev (a b : List Int) (ha : isBytes a) (hb : isBytes b) (la : a.length ≤ 100000000) (lb : b.length ≤ 100000000) : Ev (fun k => spec_l2Mac.f k a b) (macL a b) := by
  simp only [spec_l2Mac.f]
  refine Ev.bind (specDigest_ev a ha (by omega)) ?_
  refine Ev.bind (specDigest_ev b hb (by omega)) ?_
  exact Ev.bind (macTwo_ev _ _ (dg_bytes a) (dg_bytes b) (by rw [dg_len]; omega) (by rw [dg_len]; omega)) (Ev.now _)
theorem macI_ev (a b : List Int) (ha : isBytes a) (hb : isBytes b) (la : a.length ≤ 20000) (lb : b.length ≤ 20000) : Ev (fun k => impl_Mac.f k a b) (macL a b) := by
  refine Ev.up2 ?_
  simp only [impl_Mac.f, if_neg (show ¬ ((a.length : Int) > 20000) by omega), decide_eq_false (show ¬ ((b.length : Int) > 20000) by omega), impl_Mac.j0, Bool.false_eq_true, if_false, implDigest_eq a ha la, implDigest_eq b hb lb, Option.bind_some, if_pos (show (dg a).length + (dg b).length < 140737488355328 by rw [dg_len, dg_len]; omega), implDigest_eq _ (isBytes_append (dg_bytes a) (dg_bytes b)) (show (dg a ++ dg b).length ≤ 20000 by rw [List.length_append, dg_len, dg_len]; omega)]
  exact Ev.now _
theorem mac_bytes (a b : List Int) : isBytes (macL a b) := dg_bytes _
theorem mac_len (a b : List Int) : (macL a b).length = 16 := dg_len _
theorem bytesS_eq (s : ByteArray) (h : s.size ≤ 9223372036854775807) : bytesOfS.f s = some (bytesOf s) := by unfold bytesOfS.f; rw [if_pos h]
end Go.Proofs.YtgolcojhnklfdaaDoor.Pr
/- Codes of a counter: the program's and the reference's are one. Plain facts. -/
namespace Go.Proofs.YtgolcojhnklfdaaDoor.Pr
open Go.RowKit Go.Proofs.YtgolcojhnklfdaaDoor.Read Go.Proofs.YtgolcojhnklfdaaDoorW.PrintWords
set_option linter.unusedVariables false
theorem yb_lo (t : Int) (h0 : 0 ≤ t) : yb (Int.tmod t 4294967296) = yb t := by
  rw [Int.tmod_eq_emod_of_nonneg h0]
  simp only [yb, List.cons.injEq, and_true]
  omega
/-- The last d digits of n. -/
def padS : Nat → Nat → ByteArray
  | 0, _ => ⟨#[]⟩
  | d + 1, n => padS d (n / 10) ++ digS (n % 10)
theorem padS_mod : ∀ (d n : Nat), padS d (n % 10 ^ d) = padS d n
  | 0, _ => rfl
  | d + 1, n => by
    rw [padS, padS]
    have e1 : n % 10 ^ (d + 1) / 10 = n / 10 % 10 ^ d := by rw [Nat.pow_succ, Nat.mul_comm, Nat.mod_mul_right_div_self]
    have e2 : n % 10 ^ (d + 1) % 10 = n % 10 := by rw [Nat.pow_succ]; exact Nat.mod_mul_left_mod n (10 ^ d) 10
    rw [e1, e2, padS_mod d (n / 10)]
theorem decS_pad : ∀ (d r : Nat), r < 10 ^ d → decS (10 ^ d + r) = digS 1 ++ padS d r
  | 0, r, h => by
    obtain rfl : r = 0 := by simpa using h
    rw [show 10 ^ 0 + 0 = 1 from rfl, decS_small (by omega)]
    apply ByteArray.ext
    simp [padS]
  | d + 1, r, h => by
    have hp : 0 < 10 ^ d := Nat.pow_pos (by omega)
    rw [Nat.pow_succ] at h
    rw [decS_big (by rw [Nat.pow_succ]; omega), show (10 ^ (d + 1) + r) / 10 = 10 ^ d + r / 10 by rw [Nat.pow_succ]; omega, show (10 ^ (d + 1) + r) % 10 = r % 10 by rw [Nat.pow_succ]; omega, decS_pad d (r / 10) (by omega), padS, ByteArray.append_assoc]
theorem sCode_l0 (d : Nat) (hd : d ≤ 8) (q : Nat) : ∀ (k i n : Nat) (acc : ByteArray), i + q = d → q < k → n ≤ 4294967295 → acc.size + q ≤ 100 → spec_l16Code.l0 k (d : Int) (n : Int) acc (i : Int) = some (padS q n ++ acc) := by
  induction q with
  | zero =>
    intro k i n acc hi hk hn ha
    obtain ⟨k, rfl⟩ : ∃ m, k = m + 1 := ⟨k - 1, by omega⟩
    simp only [spec_l16Code.l0, if_neg (show ¬ ((i : Int) < (d : Int)) by omega), padS]
    exact congrArg some (ByteArray.ext (by simp))
  | succ q ih =>
    intro k i n acc hi hk hn ha
    obtain ⟨k, rfl⟩ : ∃ m, k = m + 1 := ⟨k - 1, by omega⟩
    have e1 : Int.tmod (n : Int) 10 = ((n % 10 : Nat) : Int) := by rw [Int.tmod_eq_emod_of_nonneg (by omega)]; omega
    have e2 : wrap64 (Int.tdiv (n : Int) 10) = ((n / 10 : Nat) : Int) := by rw [Int.tdiv_eq_ediv_of_nonneg (by omega), w64 (by omega) (by omega)]; omega
    have e3 : wrap64 (48 + ((n % 10 : Nat) : Int)) = 48 + ((n % 10 : Nat) : Int) := w64 (by omega) (by omega)
    have e4 : wrap64 ((i : Int) + 1) = ((i + 1 : Nat) : Int) := by rw [w64 (by omega) (by omega)]; rfl
    simp only [spec_l16Code.l0, if_pos (show (i : Int) < (d : Int) by omega), e1, e2, e3, e4, Option.bind_some, dig_eq (show n % 10 < 10 by omega), digS_size, if_pos (show 1 + acc.size ≤ 9223372036854775807 by omega)]
    rw [ih k (i + 1) (n / 10) _ (by omega) (by omega) (by omega) (by rw [ByteArray.size_append, digS_size]; omega), padS, ByteArray.append_assoc]
/-- The number drawn of a secret and a counter. -/
def codeN (secret : List Int) (c : Int) : Nat := (numL (macL secret (yb c ++ yb (c / 4294967296)))).toNat
theorem codeN_eq (secret : List Int) (c : Int) : numL (macL secret (yb c ++ yb (c / 4294967296))) = (codeN secret c : Int) ∧ codeN secret c ≤ 4294967295 := by
  have h := numL_range (macL secret (yb c ++ yb (c / 4294967296))) (mac_bytes _ _) (by rw [mac_len]; omega)
  unfold codeN
  omega
attribute [irreducible] codeN
def codeOk (secret : List Int) (c d : Int) : Prop := 1 ≤ secret.length ∧ secret.length ≤ 64 ∧ 0 ≤ c ∧ c ≤ 1000000000000 ∧ 4 ≤ d ∧ d ≤ 8
instance (secret : List Int) (c d : Int) : Decidable (codeOk secret c d) := by unfold codeOk; infer_instance
def codeS (secret : List Int) (c d : Int) : ByteArray := if codeOk secret c d then padS d.toNat (codeN secret c) else ⟨#[]⟩
theorem data_len (c : Int) : (yb c ++ yb (c / 4294967296)).length = 8 := by rw [List.length_append, yb_len, yb_len]
theorem sCode_ev (secret : List Int) (hs : isBytes secret) (hl : secret.length ≤ 64) (c : Int) (h0 : 0 ≤ c) (h1 : c ≤ 1000000000000) (d : Nat) (hd : d ≤ 8) : Ev (fun k => spec_l16Code.f k secret c (d : Int)) (padS d (codeN secret c)) := by
  have hn := codeN_eq secret c
  have hhi : wrap64 (Int.tdiv c 4294967296) = c / 4294967296 := by rw [Int.tdiv_eq_ediv_of_nonneg h0]; exact w64 (by omega) (by omega)
  simp only [spec_l16Code.f, hhi]
  have b1 : Ev (fun k => spec_l2Bytes.f k (Int.tmod c 4294967296)) (yb c) := ⟨5, fun k hk => by
    show spec_l2Bytes.f k (Int.tmod c 4294967296) = _
    rw [specBytes_eq _ (by rw [Int.tmod_eq_emod_of_nonneg h0]; omega) (by rw [Int.tmod_eq_emod_of_nonneg h0]; omega) k hk, yb_lo c h0]⟩
  refine Ev.bind b1 ?_
  refine Ev.bind ⟨5, fun k hk => specBytes_eq (c / 4294967296) (by omega) (by omega) k hk⟩ ?_
  simp only [if_pos (show (yb c).length + (yb (c / 4294967296)).length < 140737488355328 by rw [yb_len, yb_len]; omega)]
  refine Ev.bind (macS_ev secret _ hs (isBytes_append (yb_bytes _) (yb_bytes _)) (by omega) (by rw [data_len]; omega)) ?_
  refine Ev.bind ⟨5, fun k hk => specNum_eq _ (mac_bytes _ _) (by rw [mac_len]; omega) k hk⟩ ?_
  rw [hn.1]
  refine ⟨d + 1, fun k hk => ?_⟩
  show spec_l16Code.l0 k (d : Int) (codeN secret c : Int) (⟨#[]⟩ : ByteArray) 0 = _
  have := sCode_l0 d hd d k 0 (codeN secret c) (⟨#[]⟩ : ByteArray) (by omega) (by omega) hn.2 (by show 0 + d ≤ 100; omega)
  rw [show ((0 : Nat) : Int) = 0 from rfl] at this
  rw [this]
  congr 1
  apply ByteArray.ext
  simp
theorem specCode_ev (secret : List Int) (hs : isBytes secret) (c d : Int) : Ev (fun k => spec_CodeOf.f k secret c d) (codeS secret c d) := by
  simp only [spec_CodeOf.f, spec_l16Secret.f]
  by_cases hok : codeOk secret c d
  · obtain ⟨g1, g2, g3, g4, g5, g6⟩ := hok
    obtain ⟨e, rfl⟩ := Int.eq_ofNat_of_zero_le (show 0 ≤ d by omega)
    rw [show codeS secret c (e : Int) = padS e (codeN secret c) from (if_pos ⟨g1, g2, g3, g4, g5, g6⟩).trans (by rw [Int.toNat_natCast])]
    simp only [if_pos (show (secret.length : Int) ≥ 1 by omega), if_pos (show (secret.length : Int) ≤ 64 by omega), if_pos (show (e : Int) ≥ 4 by omega), decide_eq_true g6, Option.bind_some, if_true, if_neg (show ¬ c < 0 by omega), if_neg (show ¬ c > 1000000000000 by omega)]
    exact Ev.bind (sCode_ev secret hs g2 c g3 g4 e (by omega)) (Ev.now _)
  · rw [show codeS secret c d = ⟨#[]⟩ from if_neg hok]
    by_cases g1 : (secret.length : Int) ≥ 1
    case neg => simp only [if_neg g1, Option.bind_some, Bool.false_eq_true, if_false]; exact Ev.now _
    by_cases g2 : (secret.length : Int) ≤ 64
    case neg => simp only [if_pos g1, if_neg g2, Option.bind_some, Bool.false_eq_true, if_false]; exact Ev.now _
    by_cases g5 : d ≥ 4
    case neg => simp only [if_pos g1, if_pos g2, if_neg g5, Option.bind_some, Bool.false_eq_true, if_false]; exact Ev.now _
    by_cases g6 : d ≤ 8
    case neg => simp only [if_pos g1, if_pos g2, if_pos g5, decide_eq_false g6, Option.bind_some, Bool.false_eq_true, if_false]; exact Ev.now _
    by_cases g3 : c < 0
    case pos => simp only [if_pos g1, if_pos g2, if_pos g5, decide_eq_true g6, Option.bind_some, if_true, if_pos g3]; exact Ev.now _
    by_cases g4 : c > 1000000000000
    case pos => simp only [if_pos g1, if_pos g2, if_pos g5, decide_eq_true g6, Option.bind_some, if_true, if_neg g3, if_pos g4]; exact Ev.now _
    exact absurd ⟨by omega, by omega, by omega, by omega, g5, g6⟩ hok
theorem iCode_l0 (secret : List Int) (hs : isBytes secret) (hl : secret.length ≤ 64) (c : Int) (h0 : 0 ≤ c) (h1 : c ≤ 1000000000000) (d : Nat) (hd : d ≤ 8) (q : Nat) : ∀ i, i + q = d → Ev (fun k => impl_CodeOf.l0 k secret c ((10 ^ i : Nat) : Int) (d : Int) (i : Int)) (padS d (codeN secret c)) := by
  induction q with
  | zero =>
    intro i hi
    obtain rfl : i = d := by omega
    have hn := codeN_eq secret c
    have hp : 0 < 10 ^ i := Nat.pow_pos (by omega)
    have hp8 : 10 ^ i ≤ 100000000 := by
      have := Nat.pow_le_pow_right (show 0 < 10 by omega) hd
      simpa using this
    refine Ev.up2 ?_
    have y1 : impl_ybytes.f c = some (yb c) := rfl
    have y2 : impl_ybytes.f (c / 4294967296) = some (yb (c / 4294967296)) := rfl
    simp only [impl_CodeOf.l0, if_neg (show ¬ ((i : Int) < (i : Int)) by omega), y1, y2, Option.bind_some, if_pos (show (yb c).length + (yb (c / 4294967296)).length < 140737488355328 by rw [yb_len, yb_len]; omega)]
    refine Ev.bind (macI_ev secret _ hs (isBytes_append (yb_bytes _) (yb_bytes _)) (by omega) (by rw [data_len]; omega)) ?_
    have hmod : codeN secret c % 10 ^ i < 10 ^ i := Nat.mod_lt _ hp
    have et : wrap64 (((10 ^ i : Nat) : Int) + Int.tmod (codeN secret c : Int) ((10 ^ i : Nat) : Int)) = ((10 ^ i + codeN secret c % 10 ^ i : Nat) : Int) := by
      have e : Int.tmod (codeN secret c : Int) ((10 ^ i : Nat) : Int) = ((codeN secret c % 10 ^ i : Nat) : Int) := by
        rw [Int.tmod_eq_emod_of_nonneg (by omega)]; exact (Int.natCast_emod _ _).symm
      rw [e]
      generalize codeN secret c % 10 ^ i = r at hmod ⊢
      generalize 10 ^ i = p at hp8 hmod ⊢
      rw [w64 (by omega) (by omega)]; omega
    have hne : ¬ (((10 ^ i : Nat) : Int) = 0) := by generalize 10 ^ i = p at hp; omega
    have ei := itoa_eq (10 ^ i + codeN secret c % 10 ^ i) (by generalize codeN secret c % 10 ^ i = r at hmod; generalize 10 ^ i = p at hp8 hmod; omega)
    have hsz : (digS 1 ++ padS i (codeN secret c)).size = 1 + (padS i (codeN secret c)).size := by rw [ByteArray.size_append, digS_size]
    have hext : (digS 1 ++ padS i (codeN secret c)).extract 1 (1 + (padS i (codeN secret c)).size) = padS i (codeN secret c) := by
      apply ByteArray.ext
      simp [digS]
    refine ⟨0, fun k _ => ?_⟩
    show (impl_ynumber.f (macL secret (yb c ++ yb (c / 4294967296)))).bind _ = _
    rw [implNum_eq _ (mac_bytes _ _) (by rw [mac_len]; omega), Option.bind_some, hn.1, if_neg hne, et, ei, Option.bind_some, decS_pad i _ hmod, padS_mod, hsz, if_pos (by omega), hext]
  | succ q ih =>
    intro i hi
    have hp8 : 10 ^ i ≤ 100000000 := by
      have := Nat.pow_le_pow_right (show 0 < 10 by omega) (show i ≤ 8 by omega)
      simpa using this
    have e1 : wrap64 (((10 ^ i : Nat) : Int) * 10) = ((10 ^ (i + 1) : Nat) : Int) := by
      rw [Nat.pow_succ]
      generalize 10 ^ i = p at hp8 ⊢
      rw [w64 (by omega) (by omega)]; omega
    have e2 : wrap64 ((i : Int) + 1) = ((i + 1 : Nat) : Int) := by rw [w64 (by omega) (by omega)]; rfl
    refine Ev.up2 ?_
    simp only [impl_CodeOf.l0, if_pos (show (i : Int) < (d : Int) by omega), e1, e2]
    exact ih (i + 1) (by omega)
theorem implCode_ev (secret : List Int) (hs : isBytes secret) (c d : Int) : Ev (fun k => impl_CodeOf.f k secret c d) (codeS secret c d) := by
  refine Ev.up2 ?_
  simp only [impl_CodeOf.f, impl_CodeOf.j0, if_true]
  by_cases hok : codeOk secret c d
  · obtain ⟨g1, g2, g3, g4, g5, g6⟩ := hok
    obtain ⟨e, rfl⟩ := Int.eq_ofNat_of_zero_le (show 0 ≤ d by omega)
    rw [show codeS secret c (e : Int) = padS e (codeN secret c) from (if_pos ⟨g1, g2, g3, g4, g5, g6⟩).trans (by rw [Int.toNat_natCast])]
    simp only [if_neg (show ¬ (secret.length : Int) < 1 by omega), if_neg (show ¬ (secret.length : Int) > 64 by omega), if_neg (show ¬ (c < 0) by omega), if_neg (show ¬ c > 1000000000000 by omega), if_neg (show ¬ (e : Int) < 4 by omega), decide_eq_false (show ¬ (e : Int) > 8 by omega), Bool.false_eq_true, if_false]
    exact iCode_l0 secret hs g2 c g3 g4 e (by omega) e 0 (by omega)
  · rw [show codeS secret c d = ⟨#[]⟩ from if_neg hok]
    by_cases g1 : (secret.length : Int) < 1
    case pos => simp only [if_pos g1]; exact Ev.now _
    by_cases g2 : (secret.length : Int) > 64
    case pos => simp only [if_neg g1, if_pos g2]; exact Ev.now _
    by_cases g3 : c < 0
    case pos => simp only [if_neg g1, if_neg g2, if_pos g3]; exact Ev.now _
    by_cases g4 : c > 1000000000000
    case pos => simp only [if_neg g1, if_neg g2, if_neg g3, if_pos g4]; exact Ev.now _
    by_cases g5 : d < 4
    case pos => simp only [if_neg g1, if_neg g2, if_neg g3, if_neg g4, if_pos g5]; exact Ev.now _
    by_cases g6 : d > 8
    case pos => simp only [if_neg g1, if_neg g2, if_neg g3, if_neg g4, if_neg g5, decide_eq_true g6, if_true]; exact Ev.now _
    exact absurd ⟨by omega, by omega, by omega, by omega, by omega, by omega⟩ hok
end Go.Proofs.YtgolcojhnklfdaaDoor.Pr
/- Codes of counters in a window: the program's and the reference's are one; what is found. Plain facts. -/
namespace Go.Proofs.YtgolcojhnklfdaaDoor.Pr
open Go.RowKit Go.Proofs.YtgolcojhnklfdaaDoor.Read Go.Proofs.YtgolcojhnklfdaaDoorW.PrintWords
set_option linter.unusedVariables false
/-- The first counter of n from c on whose code it is. -/
def findL (secret : List Int) (d : Int) (code : ByteArray) : Nat → Int → Int × Bool
  | 0, _ => (0, false)
  | n + 1, c => if (codeS secret c d).toList = code.toList then (c + 1, true) else findL secret d code n (c + 1)
theorem codeS_nil (secret : List Int) (c d : Int) (hn : ¬ codeOk secret c d) : codeS secret c d = ⟨#[]⟩ := if_neg hn
theorem empty_list : (⟨#[]⟩ : ByteArray).toList = [] := by
  show ByteArray.empty.toList = []
  simp
theorem find_none (secret : List Int) (d : Int) (code : ByteArray) (hne : ¬ code.toList = ([] : List UInt8)) (hno : ∀ c, ¬ codeOk secret c d) : ∀ n c, findL secret d code n c = (0, false)
  | 0, _ => rfl
  | n + 1, c => by
    rw [findL, codeS_nil secret c d (hno c), if_neg (fun e => hne (by rw [← e]; exact empty_list)), find_none secret d code hne hno n]
def checkOk (secret : List Int) (c w d : Int) : Prop := 0 ≤ w ∧ w ≤ 50 ∧ 0 ≤ c ∧ c ≤ 1000000000000 ∧ 1 ≤ secret.length ∧ secret.length ≤ 64 ∧ 4 ≤ d ∧ d ≤ 8
instance (secret : List Int) (c w d : Int) : Decidable (checkOk secret c w d) := by unfold checkOk; infer_instance
def checkL (secret : List Int) (c w d : Int) (code : ByteArray) : Int × Bool := if checkOk secret c w d ∧ ¬ code.toList = ([] : List UInt8) then findL secret d code (w.toNat + 1) c else (0, false)
theorem sCheck_l0 (secret : List Int) (hs : isBytes secret) (c w d : Int) (code : ByteArray) (hw : 0 ≤ w ∧ w ≤ 50) (hc : 0 ≤ c ∧ c ≤ 1000000000000) (hne : ¬ code.toList = ([] : List UInt8)) (q : Nat) : ∀ x : Int, x + q = c + w + 1 → c ≤ x → Ev (fun k => spec_CheckCode.l0 k secret c w d code x) (findL secret d code q x) := by
  have e1 : wrap64 (c + w) = c + w := w64 (by omega) (by omega)
  induction q with
  | zero =>
    intro x hx hcx
    refine Ev.up2 ?_
    simp only [spec_CheckCode.l0, e1, if_neg (show ¬ x ≤ c + w by omega)]
    exact Ev.now _
  | succ q ih =>
    intro x hx hcx
    have e2 : wrap64 (x + 1) = x + 1 := w64 (by omega) (by omega)
    refine Ev.up2 ?_
    simp only [spec_CheckCode.l0, e1, e2, if_pos (show x ≤ c + w by omega), findL]
    refine Ev.bind (specCode_ev secret hs x d) ?_
    by_cases h1 : (codeS secret x d).toList = ([] : List UInt8)
    · have h2 : ¬ (codeS secret x d).toList = code.toList := fun e => hne (e.symm.trans h1)
      simp only [if_pos h1, if_neg h2]
      exact ih (x + 1) (by omega) (by omega)
    · simp only [if_neg h1]
      by_cases h2 : (codeS secret x d).toList = code.toList
      · simp only [if_pos h2]; exact Ev.now _
      · simp only [if_neg h2]
        exact ih (x + 1) (by omega) (by omega)
theorem iCheck_l0 (secret : List Int) (hs : isBytes secret) (c w d : Int) (code : ByteArray) (hw : 0 ≤ w ∧ w ≤ 50) (hc : 0 ≤ c ∧ c ≤ 1000000000000) (q : Nat) : ∀ x : Int, x + q = w + 1 → 0 ≤ x → Ev (fun k => impl_CheckCode.l0 k secret c d code (w + 1) x) (findL secret d code q (c + x)) := by
  induction q with
  | zero =>
    intro x hx hcx
    refine Ev.up2 ?_
    simp only [impl_CheckCode.l0, if_neg (show ¬ x < w + 1 by omega)]
    exact Ev.now _
  | succ q ih =>
    intro x hx hcx
    have e1 : wrap64 (c + x) = c + x := w64 (by omega) (by omega)
    have e2 : wrap64 (c + x + 1) = c + x + 1 := w64 (by omega) (by omega)
    have e3 : wrap64 (x + 1) = x + 1 := w64 (by omega) (by omega)
    refine Ev.up2 ?_
    simp only [impl_CheckCode.l0, e1, e2, e3, if_pos (show x < w + 1 by omega), findL]
    refine Ev.bind (implCode_ev secret hs (c + x) d) ?_
    by_cases h2 : (codeS secret (c + x) d).toList = code.toList
    · simp only [if_pos h2]; exact Ev.now _
    · simp only [if_neg h2]
      have := ih (x + 1) (by omega) (by omega)
      rwa [← Int.add_assoc] at this
theorem sCheck_nil (secret : List Int) (hs : isBytes secret) (c w d : Int) (code : ByteArray) (hw : 0 ≤ w ∧ w ≤ 50) (hc : 0 ≤ c ∧ c ≤ 1000000000000) (hnil : code.toList = ([] : List UInt8)) (q : Nat) : ∀ x : Int, x + q = c + w + 1 → c ≤ x → Ev (fun k => spec_CheckCode.l0 k secret c w d code x) (0, false) := by
  have e1 : wrap64 (c + w) = c + w := w64 (by omega) (by omega)
  induction q with
  | zero =>
    intro x hx hcx
    refine Ev.up2 ?_
    simp only [spec_CheckCode.l0, e1, if_neg (show ¬ x ≤ c + w by omega)]
    exact Ev.now _
  | succ q ih =>
    intro x hx hcx
    have e2 : wrap64 (x + 1) = x + 1 := w64 (by omega) (by omega)
    refine Ev.up2 ?_
    simp only [spec_CheckCode.l0, e1, e2, if_pos (show x ≤ c + w by omega)]
    refine Ev.bind (specCode_ev secret hs x d) ?_
    by_cases h1 : (codeS secret x d).toList = ([] : List UInt8)
    · simp only [if_pos h1]
      exact ih (x + 1) (by omega) (by omega)
    · have h2 : ¬ (codeS secret x d).toList = code.toList := fun e => h1 (e.trans hnil)
      simp only [if_neg h1, if_neg h2]
      exact ih (x + 1) (by omega) (by omega)
theorem specCheck_ev (secret : List Int) (hs : isBytes secret) (c w d : Int) (code : ByteArray) : Ev (fun k => spec_CheckCode.f k secret c w d code) (checkL secret c w d code) := by
  refine Ev.up2 ?_
  simp only [spec_CheckCode.f, spec_l16Secret.f, spec_CheckCode.j0, if_true]
  by_cases hok : checkOk secret c w d
  · obtain ⟨g1, g2, g3, g4, g5, g6, g7, g8⟩ := hok
    simp only [if_pos (show (secret.length : Int) ≥ 1 by omega), if_pos (show (secret.length : Int) ≤ 64 by omega), if_pos (show d ≥ 4 by omega), decide_eq_true g8, Option.bind_some, if_true, if_neg (show ¬ c < 0 by omega), if_neg (show ¬ c > 1000000000000 by omega), if_neg (show ¬ w < 0 by omega), decide_eq_false (show ¬ w > 50 by omega), Bool.false_eq_true, if_false]
    by_cases hne : code.toList = ([] : List UInt8)
    · rw [show checkL secret c w d code = (0, false) from if_neg (fun h => h.2 hne)]
      exact sCheck_nil secret hs c w d code ⟨g1, g2⟩ ⟨g3, g4⟩ hne (w.toNat + 1) c (by omega) (by omega)
    rw [show checkL secret c w d code = findL secret d code (w.toNat + 1) c from if_pos ⟨⟨g1, g2, g3, g4, g5, g6, g7, g8⟩, hne⟩]
    exact sCheck_l0 secret hs c w d code ⟨g1, g2⟩ ⟨g3, g4⟩ hne (w.toNat + 1) c (by omega) (by omega)
  · rw [show checkL secret c w d code = (0, false) from if_neg (fun h => hok h.1)]
    by_cases g5 : (secret.length : Int) ≥ 1
    case neg => simp only [if_neg g5, Option.bind_some, Bool.false_eq_true, if_false]; exact Ev.now _
    by_cases g6 : (secret.length : Int) ≤ 64
    case neg => simp only [if_pos g5, if_neg g6, Option.bind_some, Bool.false_eq_true, if_false]; exact Ev.now _
    by_cases g7 : d ≥ 4
    case neg => simp only [if_pos g5, if_pos g6, if_neg g7, Option.bind_some, Bool.false_eq_true, if_false]; exact Ev.now _
    by_cases g8 : d ≤ 8
    case neg => simp only [if_pos g5, if_pos g6, if_pos g7, decide_eq_false g8, Option.bind_some, Bool.false_eq_true, if_false]; exact Ev.now _
    by_cases g3 : c < 0
    case pos => simp only [if_pos g5, if_pos g6, if_pos g7, decide_eq_true g8, Option.bind_some, if_true, if_pos g3]; exact Ev.now _
    by_cases g4 : c > 1000000000000
    case pos => simp only [if_pos g5, if_pos g6, if_pos g7, decide_eq_true g8, Option.bind_some, if_true, if_neg g3, if_pos g4]; exact Ev.now _
    by_cases g1 : w < 0
    case pos => simp only [if_pos g5, if_pos g6, if_pos g7, decide_eq_true g8, Option.bind_some, if_true, if_neg g3, if_neg g4, if_pos g1]; exact Ev.now _
    by_cases g2 : w > 50
    case pos => simp only [if_pos g5, if_pos g6, if_pos g7, decide_eq_true g8, Option.bind_some, if_true, if_neg g3, if_neg g4, if_neg g1, decide_eq_true g2]; exact Ev.now _
    exact absurd ⟨by omega, by omega, by omega, by omega, by omega, by omega, by omega, by omega⟩ hok
theorem implCheck_ev (secret : List Int) (hs : isBytes secret) (c w d : Int) (code : ByteArray) : Ev (fun k => impl_CheckCode.f k secret c w d code) (checkL secret c w d code) := by
  refine Ev.up2 ?_
  simp only [impl_CheckCode.f, impl_CheckCode.j0, if_true]
  by_cases g1 : w < 0
  case pos => simp only [if_pos g1, checkL, if_neg (show ¬ (checkOk secret c w d ∧ ¬ code.toList = ([] : List UInt8)) from fun h => by have := h.1.1; omega)]; exact Ev.now _
  by_cases g2 : w > 50
  case pos => simp only [if_neg g1, if_pos g2, checkL, if_neg (show ¬ (checkOk secret c w d ∧ ¬ code.toList = ([] : List UInt8)) from fun h => by have := h.1.2.1; omega)]; exact Ev.now _
  by_cases g3 : c < 0
  case pos => simp only [if_neg g1, if_neg g2, if_pos g3, checkL, if_neg (show ¬ (checkOk secret c w d ∧ ¬ code.toList = ([] : List UInt8)) from fun h => by have := h.1.2.2.1; omega)]; exact Ev.now _
  by_cases g4 : c > 1000000000000
  case pos => simp only [if_neg g1, if_neg g2, if_neg g3, if_pos g4, checkL, if_neg (show ¬ (checkOk secret c w d ∧ ¬ code.toList = ([] : List UInt8)) from fun h => by have := h.1.2.2.2.1; omega)]; exact Ev.now _
  by_cases hne : code.toList = ([] : List UInt8)
  · have hnb : (code.toList == ([] : List UInt8)) = true := beq_iff_eq.2 hne
    rw [show checkL secret c w d code = (0, false) from if_neg (fun h => h.2 hne)]
    simp only [if_neg g1, if_neg g2, if_neg g3, if_neg g4, hnb, if_true]
    exact Ev.now _
  have hnb : (code.toList == ([] : List UInt8)) = false := beq_eq_false_iff_ne.2 hne
  have ew : wrap64 (w + 1) = w + 1 := w64 (by omega) (by omega)
  simp only [if_neg g1, if_neg g2, if_neg g3, if_neg g4, hnb, Bool.false_eq_true, if_false, ew]
  have h := iCheck_l0 secret hs c w d code ⟨by omega, by omega⟩ ⟨by omega, by omega⟩ (w.toNat + 1) 0 (by omega) (by omega)
  rw [Int.add_zero] at h
  by_cases hok : checkOk secret c w d
  · rw [show checkL secret c w d code = findL secret d code (w.toNat + 1) c from if_pos ⟨hok, hne⟩]
    exact h
  · rw [show checkL secret c w d code = (0, false) from if_neg (fun h => hok h.1), ← find_none secret d code hne (fun x hx => hok ⟨by omega, by omega, by omega, by omega, hx.1, hx.2.1, hx.2.2.2.2.1, hx.2.2.2.2.2⟩) (w.toNat + 1) c]
    exact h
theorem findL_prop (secret : List Int) (d : Int) (code : ByteArray) : ∀ n c, (findL secret d code n c).2 = true → c < (findL secret d code n c).1 ∧ (findL secret d code n c).1 ≤ c + n ∧ (codeS secret ((findL secret d code n c).1 - 1) d).toList = code.toList
  | 0, _, h => by cases h
  | n + 1, c, h => by
    by_cases hc : (codeS secret c d).toList = code.toList
    · rw [findL, if_pos hc]
      refine ⟨by show c < c + 1; omega, by show c + 1 ≤ c + ((n + 1 : Nat) : Int); omega, ?_⟩
      show (codeS secret (c + 1 - 1) d).toList = code.toList
      rw [Int.add_sub_cancel]; exact hc
    · rw [findL, if_neg hc] at h ⊢
      obtain ⟨g1, g2, g3⟩ := findL_prop secret d code n (c + 1) h
      exact ⟨by omega, by omega, g3⟩
theorem checkL_prop (secret : List Int) (c w d : Int) (code : ByteArray) (h : (checkL secret c w d code).2 = true) : (0 ≤ w ∧ w ≤ 50) ∧ c < (checkL secret c w d code).1 ∧ (checkL secret c w d code).1 ≤ c + w + 1 ∧ (codeS secret ((checkL secret c w d code).1 - 1) d).toList = code.toList := by
  unfold checkL at h ⊢
  split
  · rename_i hc
    rw [if_pos hc] at h
    obtain ⟨g1, g2, g3⟩ := findL_prop _ _ _ _ _ h
    have hw := hc.1.1
    exact ⟨⟨hc.1.1, hc.1.2.1⟩, g1, by omega, g3⟩
  · rename_i hc
    rw [if_neg hc] at h
    cases h
end Go.Proofs.YtgolcojhnklfdaaDoor.Pr
/- Codes of a time: the program's and the reference's are one; what is found lies above the last one. Plain facts. -/
namespace Go.Proofs.YtgolcojhnklfdaaDoor.Pr
open Go.RowKit Go.Proofs.YtgolcojhnklfdaaDoor.Read Go.Proofs.YtgolcojhnklfdaaDoorW.PrintWords
set_option linter.unusedVariables false
/-- The first of n steps from x on that is above the last one and whose code it is. -/
def findT (secret : List Int) (last d : Int) (code : ByteArray) : Nat → Int → Int × Bool
  | 0, _ => (0, false)
  | n + 1, x => if 0 ≤ x ∧ x > last ∧ (codeS secret x d).toList = code.toList then (x, true) else findT secret last d code n (x + 1)
theorem findT_above (secret : List Int) (last d : Int) (code : ByteArray) : ∀ n x, (findT secret last d code n x).2 = true → (findT secret last d code n x).1 > last
  | 0, _, h => by cases h
  | n + 1, x, h => by
    by_cases hc : 0 ≤ x ∧ x > last ∧ (codeS secret x d).toList = code.toList
    · rw [findT, if_pos hc]; exact hc.2.1
    · rw [findT, if_neg hc] at h ⊢
      exact findT_above secret last d code n (x + 1) h
theorem findT_none (secret : List Int) (last d : Int) (code : ByteArray) (h : ∀ x, ¬ (codeS secret x d).toList = code.toList) : ∀ n x, findT secret last d code n x = (0, false)
  | 0, _ => rfl
  | n + 1, x => by rw [findT, if_neg (fun e => h x e.2.2), findT_none secret last d code h n (x + 1)]
theorem padS_size : ∀ (d n : Nat), (padS d n).size = d
  | 0, _ => rfl
  | d + 1, n => by rw [padS, ByteArray.size_append, padS_size d, digS_size]
theorem nil_toList : (⟨#[]⟩ : ByteArray).toList = [] := by
  show ByteArray.empty.toList = []
  simp
def secretOk (secret : List Int) (d : Int) : Prop := 1 ≤ secret.length ∧ secret.length ≤ 64 ∧ 4 ≤ d ∧ d ≤ 8
instance (secret : List Int) (d : Int) : Decidable (secretOk secret d) := by unfold secretOk; infer_instance
def timeOk (time last : Int) : Prop := 0 ≤ time ∧ time ≤ 100000000000 ∧ -1 ≤ last ∧ last ≤ 100000000000
instance (time last : Int) : Decidable (timeOk time last) := by unfold timeOk; infer_instance
def timedL (secret : List Int) (time last d : Int) (code : ByteArray) : Int × Bool := if secretOk secret d ∧ timeOk time last ∧ ¬ code.toList = ([] : List UInt8) then findT secret last d code 3 (time / 30 - 1) else (0, false)
theorem timedL_above (secret : List Int) (time last d : Int) (code : ByteArray) (h : (timedL secret time last d code).2 = true) : (timedL secret time last d code).1 > last := by
  unfold timedL at h ⊢
  split
  · rename_i hc
    rw [if_pos hc] at h
    exact findT_above _ _ _ _ _ _ h
  · rename_i hc
    rw [if_neg hc] at h
    cases h
theorem sTimed_l0 (secret : List Int) (hs : isBytes secret) (hl : 1 ≤ secret.length ∧ secret.length ≤ 64) (time last : Int) (ht : 0 ≤ time ∧ time ≤ 100000000000) (d : Nat) (hd : 4 ≤ d ∧ d ≤ 8) (code : ByteArray) (q : Nat) : ∀ x : Int, x + q = time / 30 + 2 → -1 ≤ x → Ev (fun k => spec_CheckTimed.l0 k secret time last (d : Int) code x) (findT secret last (d : Int) code q x) := by
  have e1 : wrap64 (wrap64 (Int.tdiv time 30) + 1) = time / 30 + 1 := by rw [Int.tdiv_eq_ediv_of_nonneg ht.1, w64 (n := time / 30) (by omega) (by omega), w64 (by omega) (by omega)]
  induction q with
  | zero =>
    intro x hx hm
    refine Ev.up2 ?_
    simp only [spec_CheckTimed.l0, e1, if_neg (show ¬ x ≤ time / 30 + 1 by omega)]
    exact Ev.now _
  | succ q ih =>
    intro x hx hm
    have e2 : wrap64 (x + 1) = x + 1 := w64 (by omega) (by omega)
    refine Ev.up2 ?_
    simp only [spec_CheckTimed.l0, e1, e2, if_pos (show x ≤ time / 30 + 1 by omega), findT]
    by_cases h0 : 0 ≤ x
    · by_cases h1 : x > last
      · have ec : codeS secret x (d : Int) = padS d (codeN secret x) := (if_pos ⟨hl.1, hl.2, h0, by omega, by omega, by omega⟩).trans (by rw [Int.toNat_natCast])
        simp only [if_pos (show x ≥ 0 from h0), if_pos h1]
        refine Ev.bind (sCode_ev secret hs hl.2 x h0 (by omega) d hd.2) ?_
        rw [← ec]
        by_cases h2 : (codeS secret x (d : Int)).toList = code.toList
        · simp only [if_pos h2, if_pos (show 0 ≤ x ∧ x > last ∧ (codeS secret x (d : Int)).toList = code.toList from ⟨h0, h1, h2⟩)]; exact Ev.now _
        · simp only [if_neg h2, if_neg (show ¬ (0 ≤ x ∧ x > last ∧ (codeS secret x (d : Int)).toList = code.toList) from fun e => h2 e.2.2)]
          exact ih (x + 1) (by omega) (by omega)
      · simp only [if_pos (show x ≥ 0 from h0), if_neg h1, if_neg (show ¬ (0 ≤ x ∧ x > last ∧ (codeS secret x (d : Int)).toList = code.toList) from fun e => h1 e.2.1)]
        exact ih (x + 1) (by omega) (by omega)
    · simp only [if_neg (show ¬ x ≥ 0 from h0), if_neg (show ¬ (0 ≤ x ∧ x > last ∧ (codeS secret x (d : Int)).toList = code.toList) from fun e => h0 e.1)]
      exact ih (x + 1) (by omega) (by omega)
theorem iTimed_l0 (secret : List Int) (hs : isBytes secret) (time last : Int) (ht : 0 ≤ time ∧ time ≤ 100000000000) (d : Int) (code : ByteArray) (q : Nat) : ∀ x : Int, x + q = time / 30 + 2 → -1 ≤ x → Ev (fun k => impl_CheckTimed.l0 k secret time last d code x) (findT secret last d code q x) := by
  have e1 : wrap64 (wrap64 (Int.tdiv time 30) + 1) = time / 30 + 1 := by rw [Int.tdiv_eq_ediv_of_nonneg ht.1, w64 (n := time / 30) (by omega) (by omega), w64 (by omega) (by omega)]
  induction q with
  | zero =>
    intro x hx hm
    refine Ev.up2 ?_
    simp only [impl_CheckTimed.l0, e1, if_neg (show ¬ x ≤ time / 30 + 1 by omega)]
    exact Ev.now _
  | succ q ih =>
    intro x hx hm
    have e2 : wrap64 (x + 1) = x + 1 := w64 (by omega) (by omega)
    refine Ev.up2 ?_
    simp only [impl_CheckTimed.l0, e1, e2, if_pos (show x ≤ time / 30 + 1 by omega), findT]
    by_cases h0 : 0 ≤ x
    · by_cases h1 : x > last
      · simp only [if_pos (show x ≥ 0 from h0), if_pos h1]
        refine Ev.bind (implCode_ev secret hs x d) ?_
        by_cases h2 : (codeS secret x d).toList = code.toList
        · simp only [if_pos h2, if_pos (show 0 ≤ x ∧ x > last ∧ (codeS secret x d).toList = code.toList from ⟨h0, h1, h2⟩)]; exact Ev.now _
        · simp only [if_neg h2, if_neg (show ¬ (0 ≤ x ∧ x > last ∧ (codeS secret x d).toList = code.toList) from fun e => h2 e.2.2)]
          exact ih (x + 1) (by omega) (by omega)
      · simp only [if_pos (show x ≥ 0 from h0), if_neg h1, if_neg (show ¬ (0 ≤ x ∧ x > last ∧ (codeS secret x d).toList = code.toList) from fun e => h1 e.2.1)]
        exact ih (x + 1) (by omega) (by omega)
    · simp only [if_neg (show ¬ x ≥ 0 from h0), if_neg (show ¬ (0 ≤ x ∧ x > last ∧ (codeS secret x d).toList = code.toList) from fun e => h0 e.1)]
      exact ih (x + 1) (by omega) (by omega)
theorem start_eq (time : Int) (ht : 0 ≤ time ∧ time ≤ 100000000000) : wrap64 (wrap64 (Int.tdiv time 30) - 1) = time / 30 - 1 := by
  rw [Int.tdiv_eq_ediv_of_nonneg ht.1, w64 (n := time / 30) (by omega) (by omega), w64 (by omega) (by omega)]
theorem findT_nil (secret : List Int) (last : Int) (d : Nat) (hl : 1 ≤ secret.length ∧ secret.length ≤ 64) (hd : 4 ≤ d ∧ d ≤ 8) (code : ByteArray) (hne : code.toList = ([] : List UInt8)) (n : Nat) : ∀ x : Int, -1 ≤ x → x + n ≤ 900000000000 → findT secret last (d : Int) code n x = (0, false) := by
  induction n with
  | zero => intro x _ _; rfl
  | succ n ih =>
    intro x h0 h1
    rw [findT, if_neg, ih (x + 1) (by omega) (by omega)]
    rintro ⟨g0, _, g2⟩
    have ec : codeS secret x (d : Int) = padS d (codeN secret x) := (if_pos ⟨hl.1, hl.2, g0, by omega, by omega, by omega⟩).trans (by rw [Int.toNat_natCast])
    rw [ec, hne, ByteArray.toList_eq] at g2
    have := congrArg List.length g2
    rw [data_length, padS_size] at this
    simp at this
    omega
theorem specTimed_ev (secret : List Int) (hs : isBytes secret) (time last d : Int) (code : ByteArray) : Ev (fun k => spec_CheckTimed.f k secret time last d code) (timedL secret time last d code) := by
  refine Ev.up2 ?_
  simp only [spec_CheckTimed.f, spec_l16Secret.f, spec_CheckTimed.j0, if_true]
  by_cases hsec : secretOk secret d
  case neg =>
    rw [show timedL secret time last d code = (0, false) from if_neg (fun h => hsec h.1)]
    by_cases g5 : (secret.length : Int) ≥ 1
    case neg => simp only [if_neg g5, Option.bind_some, Bool.false_eq_true, if_false]; exact Ev.now _
    by_cases g6 : (secret.length : Int) ≤ 64
    case neg => simp only [if_pos g5, if_neg g6, Option.bind_some, Bool.false_eq_true, if_false]; exact Ev.now _
    by_cases g7 : d ≥ 4
    case neg => simp only [if_pos g5, if_pos g6, if_neg g7, Option.bind_some, Bool.false_eq_true, if_false]; exact Ev.now _
    by_cases g8 : d ≤ 8
    case neg => simp only [if_pos g5, if_pos g6, if_pos g7, decide_eq_false g8, Option.bind_some, Bool.false_eq_true, if_false]; exact Ev.now _
    exact absurd ⟨by omega, by omega, g7, g8⟩ hsec
  obtain ⟨s1, s2, s3, s4⟩ := hsec
  simp only [if_pos (show (secret.length : Int) ≥ 1 by omega), if_pos (show (secret.length : Int) ≤ 64 by omega), if_pos (show d ≥ 4 from s3), decide_eq_true s4, Option.bind_some, if_true]
  by_cases htm : timeOk time last
  case neg =>
    rw [show timedL secret time last d code = (0, false) from if_neg (fun h => htm h.2.1)]
    by_cases g1 : time < 0
    case pos => simp only [if_pos g1]; exact Ev.now _
    by_cases g2 : time > 100000000000
    case pos => simp only [if_neg g1, if_pos g2]; exact Ev.now _
    by_cases g3 : last < -1
    case pos => simp only [if_neg g1, if_neg g2, if_pos g3]; exact Ev.now _
    by_cases g4 : last > 100000000000
    case pos => simp only [if_neg g1, if_neg g2, if_neg g3, decide_eq_true g4]; exact Ev.now _
    exact absurd ⟨by omega, by omega, by omega, by omega⟩ htm
  obtain ⟨t1, t2, t3, t4⟩ := htm
  simp only [if_neg (show ¬ time < 0 by omega), if_neg (show ¬ time > 100000000000 by omega), if_neg (show ¬ last < -1 by omega), decide_eq_false (show ¬ last > 100000000000 by omega), Bool.false_eq_true, if_false, start_eq time ⟨t1, t2⟩]
  obtain ⟨e, rfl⟩ := Int.eq_ofNat_of_zero_le (show 0 ≤ d by omega)
  have h := sTimed_l0 secret hs ⟨s1, s2⟩ time last ⟨t1, t2⟩ e ⟨by omega, by omega⟩ code 3 (time / 30 - 1) (by omega) (by omega)
  by_cases hne : code.toList = ([] : List UInt8)
  · rw [show timedL secret time last (e : Int) code = (0, false) from if_neg (fun h => h.2.2 hne), ← findT_nil secret last e ⟨s1, s2⟩ ⟨by omega, by omega⟩ code hne 3 (time / 30 - 1) (by omega) (by omega)]
    exact h
  · rw [show timedL secret time last (e : Int) code = findT secret last (e : Int) code 3 (time / 30 - 1) from if_pos ⟨⟨s1, s2, s3, s4⟩, ⟨t1, t2, t3, t4⟩, hne⟩]
    exact h
theorem implTimed_ev (secret : List Int) (hs : isBytes secret) (time last d : Int) (code : ByteArray) : Ev (fun k => impl_CheckTimed.f k secret time last d code) (timedL secret time last d code) := by
  refine Ev.up2 ?_
  simp only [impl_CheckTimed.f, impl_CheckTimed.j0, if_true]
  by_cases htm : timeOk time last
  case neg =>
    rw [show timedL secret time last d code = (0, false) from if_neg (fun h => htm h.2.1)]
    by_cases g1 : time < 0
    case pos => simp only [if_pos g1]; exact Ev.now _
    by_cases g2 : time > 100000000000
    case pos => simp only [if_neg g1, if_pos g2]; exact Ev.now _
    by_cases g3 : last < -1
    case pos => simp only [if_neg g1, if_neg g2, if_pos g3]; exact Ev.now _
    by_cases g4 : last > 100000000000
    case pos => simp only [if_neg g1, if_neg g2, if_neg g3, if_pos g4]; exact Ev.now _
    exact absurd ⟨by omega, by omega, by omega, by omega⟩ htm
  obtain ⟨t1, t2, t3, t4⟩ := htm
  simp only [if_neg (show ¬ time < 0 by omega), if_neg (show ¬ time > 100000000000 by omega), if_neg (show ¬ last < -1 by omega), if_neg (show ¬ last > 100000000000 by omega)]
  by_cases hne : code.toList = ([] : List UInt8)
  · rw [show timedL secret time last d code = (0, false) from if_neg (fun h => h.2.2 hne)]
    simp only [show (code.toList == ([] : List UInt8)) = true from beq_iff_eq.2 hne, if_true]
    exact Ev.now _
  simp only [show (code.toList == ([] : List UInt8)) = false from beq_eq_false_iff_ne.2 hne, Bool.false_eq_true, if_false, start_eq time ⟨t1, t2⟩]
  have h := iTimed_l0 secret hs time last ⟨t1, t2⟩ d code 3 (time / 30 - 1) (by omega) (by omega)
  by_cases hsec : secretOk secret d
  · rw [show timedL secret time last d code = findT secret last d code 3 (time / 30 - 1) from if_pos ⟨hsec, ⟨t1, t2, t3, t4⟩, hne⟩]
    exact h
  · rw [show timedL secret time last d code = (0, false) from if_neg (fun h => hsec h.1), ← findT_none secret last d code (fun x e => by
      rw [show codeS secret x d = ⟨#[]⟩ from if_neg (fun h => hsec ⟨h.1, h.2.1, h.2.2.2.2.1, h.2.2.2.2.2⟩), nil_toList] at e
      exact hne e.symm) 3 (time / 30 - 1)]
    exact h
end Go.Proofs.YtgolcojhnklfdaaDoor.Pr
/- The cursor that draws: each draw gives something, within its bound. -/
namespace Go.Proofs.YtgolcojhnklfdaaDoor.Pr
open Go.RowKit Go.Proofs.YtgolcojhnklfdaaDoor.Read Go.Proofs.YtgolcojhnklfdaaDoorW.PrintWords
theorem and255 (X : Int) : 0 ≤ Go.bits .and .u64 X 255 ∧ Go.bits .and .u64 X 255 ≤ 255 := by
  have h : ((BitVec.ofInt 64 X) &&& (BitVec.ofInt 64 255)).toNat ≤ 255 := by
    rw [BitVec.toNat_and]
    exact Nat.le_trans Nat.and_le_right (by decide)
  have e : Go.bits .and .u64 X 255 = IntKind.u64.wrap ((((BitVec.ofInt 64 X) &&& (BitVec.ofInt 64 255)).toNat : Nat) : Int) := rfl
  rw [e, IntKind.wrap_u64]
  omega
theorem cur_next (s : List Int) (hs : okL okB s) (p h : Int) (h0 : 0 ≤ p) (h1 : p ≤ 1000000000000) : ∃ v h', spec_l1Cur_next.f s p h = some (v, p + 1, h') ∧ 0 ≤ v ∧ v ≤ 255 := by
  have e : wrap64 (p + 1) = p + 1 := w64 (by omega) (by omega)
  unfold spec_l1Cur_next.f
  simp only [e]
  by_cases hp : p < (s.length : Int)
  · rw [if_pos hp, if_pos h0, if_pos (by omega)]
    have hm : rd s p ∈ s := by
      have : p.toNat < s.length := by omega
      simp [rd, List.getD_eq_getElem?_getD, List.getElem?_eq_getElem this]
    have hb : 0 ≤ rd s p ∧ rd s p ≤ 255 := hs.2 _ hm
    exact ⟨_, _, rfl, by rw [w64 (by omega) (by omega)]; exact hb.1, by rw [w64 (by omega) (by omega)]; exact hb.2⟩
  · rw [if_neg hp, if_neg (by omega)]
    have hb := and255 ((IntKind.u64.wrap ((IntKind.u64.wrap (IntKind.u64.wrap (h * 6364136223846793005))) + 1442695040888963407)) / 1099511627776)
    exact ⟨_, _, rfl, by rw [w64 (by omega) (by omega)]; exact hb.1, by rw [w64 (by omega) (by omega)]; exact hb.2⟩
theorem cur_pick (s : List Int) (hs : okL okB s) (p h n : Int) (h0 : 0 ≤ p) (h1 : p ≤ 999999999999) : ∃ v p' h', spec_l1Cur_pick.f s p h n = some (v, p', h') ∧ 0 ≤ v ∧ (v < n ∨ v = 0) ∧ p ≤ p' ∧ p' ≤ p + 2 := by
  unfold spec_l1Cur_pick.f
  by_cases hn : n ≤ 1
  · rw [if_pos hn]
    exact ⟨_, _, _, rfl, by omega, .inr rfl, by omega, by omega⟩
  · rw [if_neg hn]
    obtain ⟨v, h', e, v0, v1⟩ := cur_next s hs p h h0 (by omega)
    simp only [e, Option.bind_some]
    by_cases h2 : n > 200
    · rw [if_pos h2]
      obtain ⟨v2, h2', e2, v20, v21⟩ := cur_next s hs (p + 1) h' (by omega) (by omega)
      simp only [e2, Option.bind_some, if_neg (show ¬ n = 0 by omega), w64 (show -9223372036854775808 ≤ v * 256 by omega) (show v * 256 ≤ 9223372036854775807 by omega), w64 (show -9223372036854775808 ≤ v * 256 + v2 by omega) (show v * 256 + v2 ≤ 9223372036854775807 by omega)]
      refine ⟨_, _, _, rfl, ?_, .inl ?_, by omega, by omega⟩
      · rw [Int.tmod_eq_emod_of_nonneg (by omega)]; exact Int.emod_nonneg _ (by omega)
      · rw [Int.tmod_eq_emod_of_nonneg (by omega)]; exact Int.emod_lt_of_pos _ (by omega)
    · rw [if_neg h2, if_neg (show ¬ n = 0 by omega)]
      refine ⟨_, _, _, rfl, ?_, .inl ?_, by omega, by omega⟩
      · rw [Int.tmod_eq_emod_of_nonneg (by omega)]; exact Int.emod_nonneg _ (by omega)
      · rw [Int.tmod_eq_emod_of_nonneg (by omega)]; exact Int.emod_lt_of_pos _ (by omega)
theorem cur_one (s : List Int) (hs : okL okB s) (p h n : Int) (h0 : 0 ≤ p) (h1 : p ≤ 999999999999) : ∃ b p' h', spec_l1Cur_one.f s p h n = some (b, p', h') ∧ p ≤ p' ∧ p' ≤ p + 2 := by
  obtain ⟨v, p', h', e, _, _, g1, g2⟩ := cur_pick s hs p h n h0 h1
  unfold spec_l1Cur_one.f
  simp only [e, Option.bind_some]
  exact ⟨_, _, _, rfl, g1, g2⟩
end Go.Proofs.YtgolcojhnklfdaaDoor.Pr
/- More draws: bytes, one of a list's texts, a rare place, a secret. -/
namespace Go.Proofs.YtgolcojhnklfdaaDoor.Pr
open Go.RowKit Go.Proofs.YtgolcojhnklfdaaDoor.Read Go.Proofs.YtgolcojhnklfdaaDoorW.PrintWords
set_option linter.unusedVariables false
theorem bytes_l0 (s : List Int) (hs : okL okB s) (d : Nat) : ∀ (x5 : List Int) (p h : Int), 0 ≤ p → p + d ≤ 900000000000 → x5.length + d ≤ 1000000 → ∃ (L : List Int) (p' h' : Int), (∀ k, d < k → spec_l1Cur_bytes.l0 k x5 d s p h = some (x5 ++ L, p', h')) ∧ isBytes L ∧ L.length = d ∧ p ≤ p' ∧ p' ≤ p + d := by
  induction d with
  | zero =>
    intro x5 p h h0 h1 hl
    refine ⟨[], p, h, fun k hk => ?_, (by simp [isBytes]), rfl, by omega, by omega⟩
    obtain ⟨k, rfl⟩ : ∃ m, k = m + 1 := ⟨k - 1, by omega⟩
    simp only [spec_l1Cur_bytes.l0, if_neg (show ¬ (((0 : Nat) : Int) > 0) by omega), List.append_nil]
  | succ d ih =>
    intro x5 p h h0 h1 hl
    obtain ⟨v, h', e, v0, v1⟩ := cur_next s hs p h h0 (by omega)
    obtain ⟨L, p2, h2, hL, hb, hlen, g1, g2⟩ := ih (x5 ++ [v % 256]) (p + 1) h' (by omega) (by omega) (by rw [List.length_append, List.length_singleton]; omega)
    refine ⟨v % 256 :: L, p2, h2, fun k hk => ?_, ?_, by rw [List.length_cons, hlen], by omega, by omega⟩
    · obtain ⟨k, rfl⟩ : ∃ m, k = m + 1 := ⟨k - 1, by omega⟩
      have ed : wrap64 (((d + 1 : Nat) : Int) - 1) = (d : Int) := by rw [w64 (by omega) (by omega)]; omega
      simp only [spec_l1Cur_bytes.l0, if_pos (show (((d + 1 : Nat) : Int) > 0) by omega), e, Option.bind_some, if_pos (show x5.length < 140737488355328 by omega), ed]
      rw [hL k (by omega), List.append_assoc]
      rfl
    · intro x hx
      rcases List.mem_cons.1 hx with rfl | hx
      · omega
      · exact hb x hx
theorem cur_bytes (s : List Int) (hs : okL okB s) (p h : Int) (n : Nat) (hn : n ≤ 1000) (h0 : 0 ≤ p) (h1 : p ≤ 800000000000) : ∃ (L : List Int) (p' h' : Int), (∀ k, n < k → spec_l1Cur_bytes.f k s p h n = some (L, p', h')) ∧ isBytes L ∧ L.length ≤ n ∧ p ≤ p' ∧ p' ≤ p + 2 + n := by
  obtain ⟨v, p1, h1', e, v0, v1, g1, g2⟩ := cur_pick s hs p h n h0 (by omega)
  obtain ⟨m, rfl⟩ : ∃ m : Nat, v = m := ⟨v.toNat, by omega⟩
  obtain ⟨L, p2, h2, hL, hb, hlen, g3, g4⟩ := bytes_l0 s hs m [] p1 h1' (by omega) (by omega) (by simp; omega)
  refine ⟨L, p2, h2, fun k hk => ?_, hb, by omega, by omega, by omega⟩
  unfold spec_l1Cur_bytes.f
  simp only [e, Option.bind_some]
  rw [hL k (by omega)]
  rfl
end Go.Proofs.YtgolcojhnklfdaaDoor.Pr
/- What is drawn for codes: it comes to an end; the secret is one of bytes. Plain facts. -/
namespace Go.Proofs.YtgolcojhnklfdaaDoor.Pr
open Go.RowKit Go.Proofs.YtgolcojhnklfdaaDoor.Read Go.Proofs.YtgolcojhnklfdaaDoorW.PrintWords Go.Proofs.YtgolcojhnklfdaaDoorW.PrintLast Go.Proofs.YtgolcojhnklfdaaDoorW.PrintMore
set_option linter.unusedVariables false
theorem cur_codeSecret (s : List Int) (hs : okL okB s) (p h : Int) (h0 : 0 ≤ p) (h1 : p ≤ 700000000000) : ∃ (L : List Int) (p' h' : Int), (∀ k, 6 < k → spec_l1Cur_codeSecret.f k s p h = some (L, p', h')) ∧ isBytes L ∧ L.length ≤ 7 ∧ p ≤ p' ∧ p' ≤ p + 8 := by
  obtain ⟨L, p', h', e, hb, hl, g1, g2⟩ := cur_bytes s hs p h 6 (by omega) h0 (by omega)
  refine ⟨L ++ [7], p', h', fun k hk => ?_, isBytes_append hb (fun x hx => by simp at hx; omega), by simp; omega, g1, by omega⟩
  unfold spec_l1Cur_codeSecret.f
  have := e k hk
  rw [show ((6 : Nat) : Int) = 6 from rfl] at this
  rw [this, Option.bind_some, if_pos (by show L.length < _; omega)]
theorem ext_pre (t : ByteArray) (n : Nat) (h : n ≤ t.size) : (t.extract 0 n).size = n := by rw [ByteArray.size_extract, Nat.min_eq_left h, Nat.sub_zero]
theorem ext_suf (t : ByteArray) (n : Nat) : (t.extract n t.size).size = t.size - n := by rw [ByteArray.size_extract, Nat.min_self]
theorem size_one (x : Int) : (strOfNums [x]).size = 1 := rfl
theorem spoilt_l0 (s : List Int) (hs : okL okB s) (wi : ByteArray) (hw : 1 ≤ wi.size ∧ wi.size ≤ 1000) (d : Nat) : ∀ (t : ByteArray) (p h : Int), t.size + d ≤ 1000 → 0 ≤ p → p + 6 * d ≤ 900000000000 → ∃ (t' : ByteArray) (p' h' : Int), (∀ k, 2 * d + 2 < k → spec_l1Cur_spoilt.l0 k t wi (d : Int) s p h = some (t', p', h')) ∧ p ≤ p' ∧ p' ≤ p + 6 * d := by
  induction d with
  | zero =>
    intro t p h ht h0 h1
    refine ⟨t, p, h, fun k hk => ?_, by omega, by omega⟩
    obtain ⟨k, rfl⟩ : ∃ m, k = m + 1 + 1 := ⟨k - 2, by omega⟩
    rw [spec_l1Cur_spoilt.l0, if_neg (show ¬ (((0 : Nat) : Int) > 0) by omega), spec_l1Cur_spoilt.j1, if_neg Bool.false_ne_true]
  | succ d ih =>
    intro t p h ht h0 h1
    by_cases hz : t.size = 0
    · refine ⟨t, p, h, fun k hk => ?_, by omega, by omega⟩
      obtain ⟨k, rfl⟩ : ∃ m, k = m + 1 + 1 := ⟨k - 2, by omega⟩
      rw [spec_l1Cur_spoilt.l0, if_pos (show (((d + 1 : Nat) : Int) > 0) by omega), spec_l1Cur_spoilt.j1, decide_eq_false (show ¬ ((t.size : Int) > 0) by omega), if_neg Bool.false_ne_true]
    obtain ⟨i, p1, h1', e1, i0, i1, g1, g2⟩ := cur_pick s hs p h t.size h0 (by omega)
    obtain ⟨j, p2, h2', e2, j0, j1, g3, g4⟩ := cur_pick s hs p1 h1' wi.size (by omega) (by omega)
    obtain ⟨c, p3, h3', e3, c0, c1, g5, g6⟩ := cur_pick s hs p2 h2' 3 (by omega) (by omega)
    have hi : i < t.size := by omega
    obtain ⟨n, rfl⟩ := Int.eq_ofNat_of_zero_le i0
    have ew : Aside0 (wrap64 ((n : Int) + 1) = ((n + 1 : Nat) : Int)) := ⟨by rw [w64 (by omega) (by omega)]; rfl⟩
    have ed : Aside0 (wrap64 (((d + 1 : Nat) : Int) - 1) = (d : Int)) := ⟨by rw [w64 (by omega) (by omega)]; omega⟩
    have z1 : (t.extract 0 n).size = n := ext_pre t n (by omega)
    have z2 : (t.extract n t.size).size = t.size - n := ext_suf t n
    have z3 : (t.extract (n + 1) t.size).size = t.size - (n + 1) := ext_suf t (n + 1)
    have hd1 : (((d + 1 : Nat) : Int) > 0) := by omega
    have hdt : decide ((t.size : Int) > 0) = true := decide_eq_true (by omega)
    have hj : j < (wi.size : Int) := by omega
    have hn : (n : Int) ≤ (t.size : Int) := by omega
    by_cases hc0 : c = 0
    · obtain ⟨t', p', h', e, q1, q2⟩ := ih (((t.extract 0 n) ++ (strOfNums [bt wi j])) ++ (t.extract n t.size)) p3 h3' (by rw [ByteArray.size_append, ByteArray.size_append, z1, z2, size_one]; omega) (by omega) (by omega)
      refine ⟨t', p', h', fun k hk => ?_, by omega, by omega⟩
      obtain ⟨k, rfl⟩ : ∃ m, k = m + 1 + 1 := ⟨k - 2, by omega⟩
      rw [spec_l1Cur_spoilt.l0, if_pos hd1, spec_l1Cur_spoilt.j1, hdt, if_pos rfl, e1, Option.bind_some]
      dsimp only
      rw [e2, Option.bind_some]
      dsimp only
      rw [if_pos j0, if_pos hj, Option.bind_some, e3, Option.bind_some]
      dsimp only
      rw [if_pos hc0, if_pos i0, if_pos hn, Int.toNat_natCast, z1, size_one, if_pos (show n + 1 ≤ 9223372036854775807 by omega), ByteArray.size_append, z1, size_one, z2, if_pos (show n + 1 + (t.size - n) ≤ 9223372036854775807 by omega), ed.out]
      exact e k (by omega)
    by_cases hc1 : c = 1
    · obtain ⟨t', p', h', e, q1, q2⟩ := ih (((t.extract 0 n) ++ (strOfNums [bt wi j])) ++ (t.extract (n + 1) t.size)) p3 h3' (by rw [ByteArray.size_append, ByteArray.size_append, z1, z3, size_one]; omega) (by omega) (by omega)
      refine ⟨t', p', h', fun k hk => ?_, by omega, by omega⟩
      obtain ⟨k, rfl⟩ : ∃ m, k = m + 1 + 1 := ⟨k - 2, by omega⟩
      rw [spec_l1Cur_spoilt.l0, if_pos hd1, spec_l1Cur_spoilt.j1, hdt, if_pos rfl, e1, Option.bind_some]
      dsimp only
      rw [e2, Option.bind_some]
      dsimp only
      rw [if_pos j0, if_pos hj, Option.bind_some, e3, Option.bind_some]
      dsimp only
      rw [if_neg hc0, if_pos hc1, if_pos i0, if_pos hn, Int.toNat_natCast, z1, size_one, if_pos (show n + 1 ≤ 9223372036854775807 by omega), ew.out, if_pos (show (0 : Int) ≤ ((n + 1 : Nat) : Int) by omega), if_pos (show ((n + 1 : Nat) : Int) ≤ (t.size : Int) by omega), Int.toNat_natCast, ByteArray.size_append, z1, size_one, z3, if_pos (show n + 1 + (t.size - (n + 1)) ≤ 9223372036854775807 by omega), ed.out]
      exact e k (by omega)
    · obtain ⟨t', p', h', e, q1, q2⟩ := ih ((t.extract 0 n) ++ (t.extract (n + 1) t.size)) p3 h3' (by rw [ByteArray.size_append, z1, z3]; omega) (by omega) (by omega)
      refine ⟨t', p', h', fun k hk => ?_, by omega, by omega⟩
      obtain ⟨k, rfl⟩ : ∃ m, k = m + 1 + 1 := ⟨k - 2, by omega⟩
      rw [spec_l1Cur_spoilt.l0, if_pos hd1, spec_l1Cur_spoilt.j1, hdt, if_pos rfl, e1, Option.bind_some]
      dsimp only
      rw [e2, Option.bind_some]
      dsimp only
      rw [if_pos j0, if_pos hj, Option.bind_some, e3, Option.bind_some]
      dsimp only
      rw [if_neg hc0, if_neg hc1, if_pos i0, if_pos hn, Int.toNat_natCast, ew.out, if_pos (show (0 : Int) ≤ ((n + 1 : Nat) : Int) by omega), if_pos (show ((n + 1 : Nat) : Int) ≤ (t.size : Int) by omega), Int.toNat_natCast, z1, z3, if_pos (show n + (t.size - (n + 1)) ≤ 9223372036854775807 by omega), ed.out]
      exact e k (by omega)
theorem cur_spoilt (s : List Int) (hs : okL okB s) (wi : ByteArray) (hw : 1 ≤ wi.size ∧ wi.size ≤ 1000) (t : ByteArray) (ht : t.size ≤ 100) (p h : Int) (h0 : 0 ≤ p) (h1 : p ≤ 800000000000) : ∃ (t' : ByteArray) (p' h' : Int), (∀ k, 10 < k → spec_l1Cur_spoilt.f k s p h t wi = some (t', p', h')) ∧ p ≤ p' ∧ p' ≤ p + 20 := by
  obtain ⟨v, p1, h1', e, v0, v1, g1, g2⟩ := cur_pick s hs p h 3 h0 (by omega)
  obtain ⟨m, rfl⟩ := Int.eq_ofNat_of_zero_le v0
  obtain ⟨t', p', h', e2, q1, q2⟩ := spoilt_l0 s hs wi hw m t p1 h1' (by omega) (by omega) (by omega)
  refine ⟨t', p', h', fun k hk => ?_, by omega, by omega⟩
  unfold spec_l1Cur_spoilt.f
  rw [e, Option.bind_some]
  exact e2 k (by omega)
end Go.Proofs.YtgolcojhnklfdaaDoor.Pr
/- What is drawn for codes, whole. Plain facts. -/
namespace Go.Proofs.YtgolcojhnklfdaaDoor.Pr
open Go.RowKit Go.Proofs.YtgolcojhnklfdaaDoor.Read Go.Proofs.YtgolcojhnklfdaaDoorW.PrintWords Go.Proofs.YtgolcojhnklfdaaDoorW.PrintLast Go.Proofs.YtgolcojhnklfdaaDoorW.PrintMore
set_option linter.unusedVariables false
theorem three {i : Int} (h0 : 0 ≤ i) (h1 : i < 3 ∨ i = 0) : i = 0 ∨ i = 1 ∨ i = 2 := by omega
theorem code_j1 (s : List Int) (hs : okL okB s) (sec : List Int) (hb : isBytes sec) (hl : sec.length ≤ 64) (d : Nat) (hd : d ≤ 8) (n w : Int) (hn : -3 ≤ n ∧ n ≤ 1000000000001) (t : ByteArray) (p h : Int) (h0 : 0 ≤ p) (h1 : p ≤ 1000000) :
    ∃ (n' : Int) (t' : ByteArray), (-3 ≤ n' ∧ n' ≤ 1000000000001) ∧ Ev (fun k => spec_DrawCheckCode.j1 k sec n w (d : Int) t s p h) (sec, n', w, (d : Int), t') := by
  obtain ⟨b, p1, h1', e1, g1, g2⟩ := cur_one s hs p h 20 h0 (by omega)
  cases b with
  | false => exact ⟨n, t, hn, Ev.up2 (by simp only [spec_DrawCheckCode.j1, e1, Option.bind_some, Bool.false_eq_true, if_false]; exact Ev.now _)⟩
  | true =>
    obtain ⟨v, p2, h2', e2, v0, v1, g3, g4⟩ := cur_pick s hs p1 h1' 3 (by omega) (by omega)
    obtain ⟨i, p3, h3', e3, i0, i1, g5, g6⟩ := cur_pick s hs p2 h2' 3 (by omega) (by omega)
    obtain ⟨q, p4, h4', e4, q0, q1, g7, g8⟩ := cur_pick s hs p3 h3' 3 (by omega) (by omega)
    have ew : Aside0 (wrap64 (1000000000000 - v) = 1000000000000 - v) := ⟨w64 (by omega) (by omega)⟩
    obtain ⟨x, ex⟩ : ∃ x, x = rd [1000000000000 - v, 1000000000001, (-3)] i := ⟨_, rfl⟩
    have hx : -3 ≤ x ∧ x ≤ 1000000000001 ∧ (x < 0 → x = -3) := by
      rcases three i0 i1 with hi | hi | hi
      · have : x = 1000000000000 - v := by rw [ex, hi]; rfl
        omega
      · have : x = 1000000000001 := by rw [ex, hi]; rfl
        omega
      · have : x = -3 := by rw [ex, hi]; rfl
        omega
    have hlen : i < (([1000000000000 - v, 1000000000001, (-3)] : List Int).length : Int) := by
      show i < 3
      omega
    have hm : 0 ≤ Int.tmod x 3 ∧ Int.tmod x 3 ≤ 2 := by
      by_cases hneg : x < 0
      · rw [hx.2.2 hneg]; decide
      · rw [Int.tmod_eq_emod_of_nonneg (by omega)]; omega
    have hc : Aside0 (wrap64 (1000000000000 - Int.tmod x 3) = 1000000000000 - Int.tmod x 3) := ⟨w64 (by omega) (by omega)⟩
    by_cases hneg : x < 0
    · refine ⟨x, padS d (codeN sec q), ⟨hx.1, hx.2.1⟩, Ev.up2 ?_⟩
      simp only [spec_DrawCheckCode.j1, e1, e2, e3, Option.bind_some, if_true, ew.out, ← ex, if_pos i0, if_pos hlen, hc.out]
      refine Ev.bind (sCode_ev sec hb hl _ (by omega) (by omega) d hd) ?_
      simp only [if_pos hneg, e4, Option.bind_some]
      exact Ev.bind (sCode_ev sec hb hl q q0 (by omega) d hd) (Ev.now _)
    · refine ⟨x, padS d (codeN sec (1000000000000 - Int.tmod x 3)), ⟨hx.1, hx.2.1⟩, Ev.up2 ?_⟩
      simp only [spec_DrawCheckCode.j1, e1, e2, e3, Option.bind_some, if_true, ew.out, ← ex, if_pos i0, if_pos hlen, hc.out]
      refine Ev.bind (sCode_ev sec hb hl _ (by omega) (by omega) d hd) ?_
      simp only [if_neg hneg]
      exact Ev.now _
theorem code_j0 (s : List Int) (hs : okL okB s) (sec : List Int) (hb : isBytes sec) (hl : sec.length ≤ 64) (d : Nat) (hd : d ≤ 8) (n w : Int) (hn : -3 ≤ n ∧ n ≤ 1000000000001) (hw : -1 ≤ w ∧ w ≤ 51) (t : ByteArray) (p h : Int) (h0 : 0 ≤ p) (h1 : p ≤ 900000) :
    ∃ (n' w' : Int) (t' : ByteArray), (-3 ≤ n' ∧ n' ≤ 1000000000001) ∧ (-1 ≤ w' ∧ w' ≤ 51) ∧ Ev (fun k => spec_DrawCheckCode.j0 k sec n w (d : Int) t s p h) (sec, n', w', (d : Int), t') := by
  obtain ⟨b, p1, h1', e1, g1, g2⟩ := cur_one s hs p h 20 h0 (by omega)
  cases b with
  | false =>
    obtain ⟨n', t', k1, k2⟩ := code_j1 s hs sec hb hl d hd n w hn t p1 h1' (by omega) (by omega)
    refine ⟨n', w, t', k1, hw, Ev.up2 ?_⟩
    simp only [spec_DrawCheckCode.j0, e1, Option.bind_some, Bool.false_eq_true, if_false]
    exact k2
  | true =>
    obtain ⟨i, p2, h2', e2, i0, i1, g3, g4⟩ := cur_pick s hs p1 h1' 3 (by omega) (by omega)
    obtain ⟨x, ex⟩ : ∃ x, x = rd [(-1), 50, 51] i := ⟨_, rfl⟩
    have hx : -1 ≤ x ∧ x ≤ 51 := by
      rcases three i0 i1 with hi | hi | hi
      · have : x = -1 := by rw [ex, hi]; rfl
        omega
      · have : x = 50 := by rw [ex, hi]; rfl
        omega
      · have : x = 51 := by rw [ex, hi]; rfl
        omega
    have hlen : i < (([(-1), 50, 51] : List Int).length : Int) := by
      show i < 3
      omega
    obtain ⟨n', t', k1, k2⟩ := code_j1 s hs sec hb hl d hd n x hn t p2 h2' (by omega) (by omega)
    refine ⟨n', x, t', k1, hx, Ev.up2 ?_⟩
    simp only [spec_DrawCheckCode.j0, e1, e2, Option.bind_some, if_true, ← ex, if_pos i0, if_pos hlen]
    exact k2
theorem padS_len : ∀ (d n : Nat), (padS d n).size = d
  | 0, _ => rfl
  | d + 1, n => by rw [padS, ByteArray.size_append, padS_len d, digS_size]
theorem drawCode_ev (s : List Int) (hs : okL okB s) : ∃ (sec : List Int) (n w d : Int) (t : ByteArray), isBytes sec ∧ (-3 ≤ n ∧ n ≤ 1000000000001) ∧ (-1 ≤ w ∧ w ≤ 51) ∧ Ev (fun k => spec_DrawCheckCode.f k s) (sec, n, w, d, t) := by
  obtain ⟨L, p1, h1, e1, hb, hl, g1, g1'⟩ := cur_codeSecret s hs 0 0 (by omega) (by omega)
  obtain ⟨n, p2, h2, e2, n0, n1, g2, g2'⟩ := cur_pick s hs p1 h1 5000 (by omega) (by omega)
  obtain ⟨w, p3, h3, e3, w0, w1, g3, g3'⟩ := cur_pick s hs p2 h2 8 (by omega) (by omega)
  obtain ⟨c, p4, h4, e4, c0, c1, g4, g4'⟩ := cur_pick s hs p3 h3 5 (by omega) (by omega)
  obtain ⟨m, p5, h5, e5, m0, m1, g5, g5'⟩ := cur_pick s hs p4 h4 10 (by omega) (by omega)
  obtain ⟨b, p6, h6, e6, g6, g6'⟩ := cur_one s hs p5 h5 4 (by omega) (by omega)
  obtain ⟨e, rfl⟩ := Int.eq_ofNat_of_zero_le c0
  have ed : Aside0 (wrap64 (4 + (e : Int)) = ((4 + e : Nat) : Int)) := ⟨by rw [w64 (by omega) (by omega)]; omega⟩
  have ec : Aside0 (wrap64 (n + m) = n + m) := ⟨w64 (by omega) (by omega)⟩
  have hcode := sCode_ev L hb (by omega) (n + m) (by omega) (by omega) (4 + e) (by omega)
  cases b with
  | false =>
    obtain ⟨n', w', t', k1, k2, k3⟩ := code_j0 s hs L hb (by omega) (4 + e) (by omega) n w (by omega) (by omega) (padS (4 + e) (codeN L (n + m))) p6 h6 (by omega) (by omega)
    refine ⟨L, n', w', ((4 + e : Nat) : Int), t', hb, k1, k2, ?_⟩
    simp only [spec_DrawCheckCode.f, newCur.f, Option.bind_some]
    refine Ev.bind ⟨7, fun k hk => e1 k (by omega)⟩ ?_
    simp only [e2, e3, e4, e5, Option.bind_some, ed.out, ec.out]
    refine Ev.bind hcode ?_
    simp only [e6, Option.bind_some, Bool.false_eq_true, if_false]
    exact k3
  | true =>
    obtain ⟨t2, p7, h7, e7, g7, g7'⟩ := cur_spoilt s hs (⟨#[48, 49, 56, 57]⟩ : ByteArray) (by decide) (padS (4 + e) (codeN L (n + m))) (by rw [padS_len]; omega) p6 h6 (by omega) (by omega)
    obtain ⟨n', w', t', k1, k2, k3⟩ := code_j0 s hs L hb (by omega) (4 + e) (by omega) n w (by omega) (by omega) t2 p7 h7 (by omega) (by omega)
    refine ⟨L, n', w', ((4 + e : Nat) : Int), t', hb, k1, k2, ?_⟩
    simp only [spec_DrawCheckCode.f, newCur.f, Option.bind_some]
    refine Ev.bind ⟨7, fun k hk => e1 k (by omega)⟩ ?_
    simp only [e2, e3, e4, e5, Option.bind_some, ed.out, ec.out]
    refine Ev.bind hcode ?_
    simp only [e6, Option.bind_some, if_true]
    refine Ev.bind ⟨11, fun k hk => e7 k (by omega)⟩ ?_
    exact k3
theorem timed_j1 (s : List Int) (hs : okL okB s) (sec : List Int) (time c d : Int) (t : ByteArray) (p h : Int) (h0 : 0 ≤ p) (h1 : p ≤ 1000000) :
    ∃ (time' last : Int), Ev (fun k => spec_DrawCheckTimed.j1 k sec time c d t s p h) (sec, time', last, d, t) := by
  obtain ⟨v, p1, h1', e1, v0, v1, g1, g2⟩ := cur_pick s hs p h 4 h0 (by omega)
  obtain ⟨b, p2, h2', e2, g3, g4⟩ := cur_one s hs p1 h1' 20 (by omega) (by omega)
  cases b with
  | false => exact ⟨_, _, Ev.up2 (by simp only [spec_DrawCheckTimed.j1, e1, e2, Option.bind_some, Bool.false_eq_true, if_false]; exact Ev.now _)⟩
  | true =>
    obtain ⟨i, p3, h3', e3, i0, i1, g5, g6⟩ := cur_pick s hs p2 h2' 3 (by omega) (by omega)
    have hlen : i < (([(-1), 100000000000, 100000000001] : List Int).length : Int) := by
      show i < 3
      omega
    exact ⟨_, _, Ev.up2 (by simp only [spec_DrawCheckTimed.j1, e1, e2, e3, Option.bind_some, if_true, if_pos i0, if_pos hlen]; exact Ev.now _)⟩
theorem timed_j0 (s : List Int) (hs : okL okB s) (sec : List Int) (hb : isBytes sec) (hl : sec.length ≤ 64) (time : Int) (ht : 0 ≤ time ∧ time ≤ 4000) (p h : Int) (h0 : 0 ≤ p) (h1 : p ≤ 900000) :
    ∃ (time' last d : Int) (t : ByteArray), Ev (fun k => spec_DrawCheckTimed.j0 k sec time s p h) (sec, time', last, d, t) := by
  obtain ⟨v, p1, h1', e1, v0, v1, g1, g2⟩ := cur_pick s hs p h 5 h0 (by omega)
  obtain ⟨c, p2, h2', e2, c0, c1, g3, g4⟩ := cur_pick s hs p1 h1' 5 (by omega) (by omega)
  obtain ⟨e, rfl⟩ := Int.eq_ofNat_of_zero_le c0
  have ed : Aside0 (wrap64 (4 + (e : Int)) = ((4 + e : Nat) : Int)) := ⟨by rw [w64 (by omega) (by omega)]; omega⟩
  have q1 : Aside0 (wrap64 (Int.tdiv time 30) = time / 30) := ⟨by rw [Int.tdiv_eq_ediv_of_nonneg ht.1]; exact w64 (by omega) (by omega)⟩
  have q2 : Aside0 (wrap64 (time / 30 - 2) = time / 30 - 2) := ⟨w64 (by omega) (by omega)⟩
  have q3 : Aside0 (wrap64 (time / 30 - 2 + v) = time / 30 - 2 + v) := ⟨w64 (by omega) (by omega)⟩
  by_cases hc : time / 30 - 2 + v ≥ 0
  · obtain ⟨time', last, k1⟩ := timed_j1 s hs sec time (time / 30 - 2 + v) ((4 + e : Nat) : Int) (padS (4 + e) (codeN sec (time / 30 - 2 + v))) p2 h2' (by omega) (by omega)
    refine ⟨time', last, ((4 + e : Nat) : Int), padS (4 + e) (codeN sec (time / 30 - 2 + v)), Ev.up2 ?_⟩
    simp only [spec_DrawCheckTimed.j0, e1, e2, Option.bind_some, q1.out, q2.out, q3.out, ed.out, if_pos hc]
    exact Ev.bind (sCode_ev sec hb hl _ hc (by omega) (4 + e) (by omega)) k1
  · obtain ⟨time', last, k1⟩ := timed_j1 s hs sec time (time / 30 - 2 + v) ((4 + e : Nat) : Int) (⟨#[]⟩ : ByteArray) p2 h2' (by omega) (by omega)
    refine ⟨time', last, ((4 + e : Nat) : Int), (⟨#[]⟩ : ByteArray), Ev.up2 ?_⟩
    simp only [spec_DrawCheckTimed.j0, e1, e2, Option.bind_some, q1.out, q2.out, q3.out, ed.out, if_neg hc]
    exact k1
theorem drawTimed_ev (s : List Int) (hs : okL okB s) : ∃ (sec : List Int) (time last d : Int) (t : ByteArray), isBytes sec ∧ Ev (fun k => spec_DrawCheckTimed.f k s) (sec, time, last, d, t) := by
  obtain ⟨L, p1, h1, e1, hb, hl, g1, g1'⟩ := cur_codeSecret s hs 0 0 (by omega) (by omega)
  obtain ⟨n, p2, h2, e2, n0, n1, g2, g2'⟩ := cur_pick s hs p1 h1 4000 (by omega) (by omega)
  obtain ⟨b, p3, h3, e3, g3, g3'⟩ := cur_one s hs p2 h2 12 (by omega) (by omega)
  cases b with
  | false =>
    obtain ⟨time, last, d, t, k1⟩ := timed_j0 s hs L hb (by omega) n (by omega) p3 h3 (by omega) (by omega)
    refine ⟨L, time, last, d, t, hb, ?_⟩
    simp only [spec_DrawCheckTimed.f, newCur.f, Option.bind_some]
    refine Ev.bind ⟨7, fun k hk => e1 k (by omega)⟩ ?_
    simp only [e2, e3, Option.bind_some, Bool.false_eq_true, if_false]
    exact k1
  | true =>
    obtain ⟨m, p4, h4, e4, m0, m1, g4, g4'⟩ := cur_pick s hs p3 h3 70 (by omega) (by omega)
    obtain ⟨time, last, d, t, k1⟩ := timed_j0 s hs L hb (by omega) m (by omega) p4 h4 (by omega) (by omega)
    refine ⟨L, time, last, d, t, hb, ?_⟩
    simp only [spec_DrawCheckTimed.f, newCur.f, Option.bind_some]
    refine Ev.bind ⟨7, fun k hk => e1 k (by omega)⟩ ?_
    simp only [e2, e3, e4, Option.bind_some, if_true]
    exact k1
end Go.Proofs.YtgolcojhnklfdaaDoor.Pr
/- The law FnCodes, its plain part. -/
namespace Go.Proofs.YtgolcojhnklfdaaDoor.Pure
open Go.RowKit Go.Proofs.YtgolcojhnklfdaaDoor.Read Go.Proofs.YtgolcojhnklfdaaDoorW.PrintWords Go.Proofs.YtgolcojhnklfdaaDoor.Pr
theorem FnCodes : laws_FnCodes.Pure := by
  intro s hs
  apply Ev.rounds
  simp only [laws_FnCodes.f]
  by_cases h0 : (s.length : Int) > 1048576
  · simp only [if_pos h0]; exact Ev.now _
  simp only [if_neg h0]
  obtain ⟨sec, n, w, d, t, hb, hn, hw, hD⟩ := drawCode_ev s hs
  obtain ⟨sec2, time, last, e, u, hb2, hT⟩ := drawTimed_ev s hs
  refine Ev.bind hD (Ev.bind (implCheck_ev sec hb n w d t) (Ev.bind (specCheck_ev sec hb n w d t) ?_))
  simp only [if_true, bne_self_eq_false, Bool.false_eq_true, if_false]
  have habove := timedL_above sec2 time last e u
  by_cases hok : (checkL sec n w d t).2 = true
  · obtain ⟨hw2, k1, k2, k3⟩ := checkL_prop sec n w d t hok
    have e1 : wrap64 (wrap64 (n + w) + 1) = n + w + 1 := by rw [w64 (n := n + w) (by omega) (by omega)]; exact w64 (by omega) (by omega)
    have q1 : ¬ (checkL sec n w d t).1 ≤ n := by omega
    have q2 : ¬ (checkL sec n w d t).1 > wrap64 (wrap64 (n + w) + 1) := by rw [e1]; omega
    have e2 : wrap64 ((checkL sec n w d t).1 - 1) = (checkL sec n w d t).1 - 1 := w64 (by omega) (by omega)
    simp only [if_pos hok, if_neg q1, if_neg q2, e2]
    refine Ev.bind (implCode_ev sec hb ((checkL sec n w d t).1 - 1) d) ?_
    simp only [if_pos k3]
    refine Ev.bind hT (Ev.bind (implTimed_ev sec2 hb2 time last e u) (Ev.bind (specTimed_ev sec2 hb2 time last e u) ?_))
    simp only [if_true, bne_self_eq_false, Bool.false_eq_true, if_false]
    by_cases hy : (timedL sec2 time last e u).2 = true
    · simp only [if_pos hy]
      refine Ev.bind (implTimed_ev sec2 hb2 time (timedL sec2 time last e u).1 e u) ?_
      simp only [if_pos (habove hy)]
      by_cases h2 : (timedL sec2 time (timedL sec2 time last e u).1 e u).2 = true
      · simp only [if_pos h2, decide_eq_true (timedL_above sec2 time (timedL sec2 time last e u).1 e u h2)]; exact Ev.now _
      · simp only [if_neg h2]; exact Ev.now _
    · simp only [if_neg hy]; exact Ev.now _
  · simp only [if_neg hok]
    refine Ev.bind hT (Ev.bind (implTimed_ev sec2 hb2 time last e u) (Ev.bind (specTimed_ev sec2 hb2 time last e u) ?_))
    simp only [if_true, bne_self_eq_false, Bool.false_eq_true, if_false]
    by_cases hy : (timedL sec2 time last e u).2 = true
    · simp only [if_pos hy]
      refine Ev.bind (implTimed_ev sec2 hb2 time (timedL sec2 time last e u).1 e u) ?_
      simp only [if_pos (habove hy)]
      by_cases h2 : (timedL sec2 time (timedL sec2 time last e u).1 e u).2 = true
      · simp only [if_pos h2, decide_eq_true (timedL_above sec2 time (timedL sec2 time last e u).1 e u h2)]; exact Ev.now _
      · simp only [if_neg h2]; exact Ev.now _
    · simp only [if_neg hy]; exact Ev.now _
end Go.Proofs.YtgolcojhnklfdaaDoor.Pure
/- The law FnCodes: whatever the input, the call returns true and the arguments read as before. No conditions. -/
namespace Go.Proofs.YtgolcojhnklfdaaDoor.fnCodes
open Go.ChangeShapes Go.WideShapes Go.ChangeAt Go.RowKit Go.Proofs.YtgolcojhnklfdaaDoor.Read Go.Proofs.YtgolcojhnklfdaaDoorW.PrintWords Go.Proofs.YtgolcojhnklfdaaDoor.Pr
open Go.ChangeMaps (open_string shut_string)
set_option linter.unusedVariables false
theorem own : ownKnob Tryd.prog.godebug = none := by kernel_rfl
theorem laidOut : laidOutB Tryd.prog = true := by kernel_rfl
def tabCells (d : DataW Unit) : Array Value := match d with | .agg l => (l.map fun x => match x with | .lit (.int k z) => Value.int k z | _ => undef).toArray | _ => #[]
/-- The settled world, the listed tables as their initialisers lay them: the witness. -/
noncomputable def laidWorld (os : Os) : World := { World.holding Tryd.prog os ⟨#[], #[], []⟩ with heap := (fun h => h.modify 1 fun | .cells _ t frozen => .cells (tabCells Rows.laid_math_bits_deBruijn32tab) t frozen | o => o) <| (fun h => h.modify 2 fun | .cells _ t frozen => .cells (tabCells Rows.laid_math_bits_deBruijn64tab) t frozen | o => o) <| (fun h => h.modify 0 fun | .cells _ t frozen => .cells (tabCells Rows.laid_internal_strconv_uint64pow10) t frozen | o => o) <| (World.holding Tryd.prog os ⟨#[], #[], []⟩).heap }
set_option maxRecDepth 100000 in
theorem laidWorld_met (os : Os) (args : Array Value) : laidMet Tryd.prog Rows.fnCodesRow.laid ((laidWorld os).forCall (fun _ _ => 0) ⟨#[], args, []⟩).memory :=
  laidMet_of_run' 8 (by kernel_rfl) (by kernel_rfl)
set_option maxRecDepth 100000 in
theorem tab_of_laid {W : World} (h : laidMet Tryd.prog Rows.fnCodesRow.laid W) : TabW W := by
  have h2 : laidMet Tryd.prog (("internal/strconv.uint64pow10", Lib.tabData .u64 Lib.pow10Tab) :: []) W := laidMet.tail (laidMet.tail ((show laidMet Tryd.prog (("math/bits.deBruijn32tab", Rows.laid_math_bits_deBruijn32tab) :: ("math/bits.deBruijn64tab", Rows.laid_math_bits_deBruijn64tab) :: ("internal/strconv.uint64pow10", Lib.tabData .u64 Lib.pow10Tab) :: []) W from h)))
  exact Lib.tabIs_of_head (g := 0) (t := 76) (e := 44) (n := 20) (by kernel_rfl) (by kernel_rfl) Tryd.underlying76 Tryd.underlying44 (by kernel_rfl) (by kernel_rfl) h2
set_option maxRecDepth 100000 in
theorem lifted (os : Os) (started : os.Started) (H : Type) (enc : TypeId × Value → H) :
    ReturnsInHanded {} Tryd.checked os 6 .any (fun w args => (Rows.fnCodesSpec.pre enc Tryd.prog Tryd.f6 Rows.fnCodesRow.domain false w args ∧ laidMet Tryd.prog Rows.fnCodesRow.laid w) ∧ sizedMet enc Tryd.prog Tryd.f6 (OpenSpec.ofChange Rows.fnCodesSpec) false w args) (Rows.fnCodesSpec.post enc Tryd.prog Tryd.f6 false true false false) := by
  refine returnsInHanded_of_change_and (C := Tryd.checked) (X := fun w _ => laidMet Tryd.prog Rows.fnCodesRow.laid w) (fun _ _ _ hh h => h.of_heap hh) own started (by kernel_rfl) Tryd.func6
    (ChangeSpec.witness_at (enc := enc) (C := Tryd.checked) (os := os) (X := fun w _ => laidMet Tryd.prog Rows.fnCodesRow.laid w) false (laidWorld os) #[.slice none 0 0] 8 rfl (by kernel_rfl) (by kernel_rfl) (by kernel_rfl) (by kernel_rfl) (by kernel_rfl) (laidWorld_met os _)) ?_
  intro W base args ds gs before hval0 hW hcnd _ hL _
  have htab := tab_of_laid hL
  clear hL
  have hval : ∀ (j : Nat) t v, Tryd.f6.params[j]? = some t → args[j]? = some v → Value.okWide Tryd.prog W .any base t v := hval0
  have hW' := hW
  obtain ⟨p, q, hA0, hV, rfl, hfz, hnd⟩ := hW
  have hA : DataW.TrodAll enc Tryd.prog W 0 (fun _ => true) true Tryd.f6.params.toList args.toList ds p := hA0
  rw [Tryd.params6] at hA hval
  obtain ⟨v0, vs0, d0, ds0, p0, q0, hargs, rfl, rfl, h0, r0⟩ := trodAll_cons hA
  obtain ⟨rfl, rfl, rfl⟩ := trodAll_nil r0
  obtain rfl : args = #[v0] := by cases args; simp_all
  obtain ⟨rfl, rfl⟩ := trodVars_none hV
  have lt0 : ∀ x ∈ p0, x.block < W.heap.size := by obtain ⟨m, hm⟩ := h0; exact DataW.trod_lt m _ _ _ hm
  have bk0 := fun {W' : World} (bel : Below W.heap.size W W') => Below.trod laidOut (by kernel_rfl) (of_decide_eq_true (by kernel_rfl)) h0 bel lt0
  obtain ⟨A0, c0, l0, rfl, hl0, hC0, o0⟩ := arg_slice Tryd.underlying24 (tellsL Tryd.underlying24 (by kernel_rfl) (tellsB Tryd.underlying5 (by kernel_rfl))) (hval 0 24 v0 rfl rfl) h0
  obtain ⟨k, hk⟩ := Pure.FnCodes l0 o0
  refine (laws_FnCodes.calls k _ _ l0 true W htab hC0 hl0 hk).mono fun e W' hpost => ?_
  obtain ⟨he, hb⟩ := hpost
  have bel : Below W.heap.size W W' := hb
  subst he
  exact ⟨_, rfl, _, _, _, [], _, [], hW', trodAll_mk1 (shut_bool Tryd.underlying4 _), (trodAll_cons_mk (bk0 bel) trodAll_mk0), rfl, bel.frame _, fun h => by cases h⟩
theorem over : Rows.fnCodesRow.holds Tryd.pinned (OpenSpec.ofChange Rows.fnCodesSpec) :=
  OpenClaim.holds_of_wide 6 Tryd.f6 rfl rfl rfl rfl rfl rfl rfl ⟨rfl, rfl, rfl, rfl, rfl⟩ rfl rfl rfl rfl rfl (by kernel_rfl) Tryd.func6 (by kernel_rfl)
    (of_decide_eq_true (by kernel_rfl)) (by unfold Func.isWrapper; first | (rw [if_pos (by decide +kernel)]; kernel_rfl) | (rw [if_neg (by decide +kernel)]; exact ⟨rfl, rfl⟩))
    (fun os started H enc _ => lifted os started H enc)
theorem row_holds : Rows.FnCodesSaid := over
set_option maxRecDepth 100000 in
theorem proved : Rows.FnCodesCardSaid :=
  Claim7.holds_tied_plain_at .later [] [.data, .data, .data] true (true, "1e6a8922366cf09168929c257155384586c207a6c69de8522cb5cc8914ef7523") false over (fun _ h => by cases h) (by kernel_rfl) (fun _ h => by cases h) fnCodes_row_tie rfl ⟨rfl, rfl⟩ (by kernel_rfl) rfl
    (fun f fn hf hfn => by
      obtain rfl : f = 6 := Option.some.inj ((show Tryd.prog.funcNamed "loop.example/g00036/laws.FnCodes" = some 6 by kernel_rfl).symm.trans hf) |>.symm
      obtain rfl : fn = Tryd.f6 := (Option.some.inj (Tryd.func6.symm.trans hfn)).symm
      exact ⟨by kernel_rfl, fun j t ht => by
        rw [Tryd.params6] at ht
        have hm : t ∈ ([24] : List TypeId) := by
          have h2 : ([24] : List TypeId)[j]? = some t := by simpa using ht
          exact List.mem_of_getElem? h2
        simp only [List.mem_cons, List.not_mem_nil, or_false] at hm
        rcases hm with rfl
        · exact (show Tryd.prog.wantsStandIn 24 = false by kernel_rfl)⟩)
    (by kernel_rfl)
#print axioms proved
end Go.Proofs.YtgolcojhnklfdaaDoor.fnCodes
namespace Go.Proofs.YtgolcojhnklfdaaDoor
/-- The row, under a short name, for the claim. -/
theorem fnCodes_holds : Rows.FnCodesCardSaid := fnCodes.proved
end Go.Proofs.YtgolcojhnklfdaaDoor
