/- The law FnExactMakeCap: whatever the input, the call returns true and the arguments read as before. No conditions. -/
import Derived.Test.YtgolcojhnklfdaaRead
import Derived.Test.YtgolcojhnklfdaaPr9
import Derived.Test.YtgolcojhnklfdaaPrgByteS
import Derived.Test.YtgolcojhnklfdaaHdigest
import Derived.Test.YtgolcojhnklfdaaPrgS2
import Derived.Test.YtgolcojhnklfdaaHbytes
import Derived.Test.YtgolcojhnklfdaaPr103
import Derived.Test.YtgolcojhnklfdaaPr109
import Derived.Test.YtgolcojhnklfdaaPr107
import Derived.Test.YtgolcojhnklfdaaRows
import Derived.WalkKit
import Derived.ProofKit
import Derived.OpenShut
import Derived.ShutString
import Derived.ChangeOld
import Derived.Below
/- The pure statement of the law FnExactMakeCap. -/
namespace Go.Proofs.Ytgolcojhnklfdaa.Pr
open Go.RowKit Go.Proofs.Ytgolcojhnklfdaa.Read Go.Proofs.YtgolcojhnklfdaaW.PrintWords
set_option linter.unusedVariables false
/-- What is left of the law FnExactMakeCap: a statement about numbers and lists. -/
def laws_FnExactMakeCap.Pure : Prop := ∀ (l0 : (List Int)) (a1 : ByteArray), (okL okB) l0 → okS a1 → ∃ k, laws_FnExactMakeCap.f k l0 a1 = some true
end Go.Proofs.Ytgolcojhnklfdaa.Pr
/- The helpers over slices of bytes: copied, compared, marked, held: plain facts. -/
namespace Go.Proofs.Ytgolcojhnklfdaa.Pr
open Go.RowKit Go.Proofs.Ytgolcojhnklfdaa.Read Go.Proofs.YtgolcojhnklfdaaW.PrintWords

theorem w64 {n : Int} (h0 : -9223372036854775808 ≤ n) (h1 : n ≤ 9223372036854775807) : wrap64 n = n := by unfold wrap64; omega
theorem rd_nat {l : List Int} {i : Nat} (h : i < l.length) : rd l (i : Int) = l[i] := by
  simp [rd, List.getD_eq_getElem?_getD, List.getElem?_eq_getElem h]
theorem list_rd_ext {a b : List Int} (hl : a.length = b.length) (h : ∀ i : Nat, i < a.length → rd a i = rd b i) : a = b := by
  apply List.ext_getElem hl
  intro i h1 h2
  have := h i h1
  rwa [rd_nat h1, rd_nat h2] at this

theorem szByteS_eq (l : List Int) (n : Int) : laws_szByteS.f l n = some (if wrap64 (n - l.length) < 0 then -1 else wrap64 (n - l.length)) := by
  unfold laws_szByteS.f; split <;> rfl

theorem toByteS_l0 (x0 : List Int) (hl : x0.length ≤ 281474976710656) (d : Nat) : ∀ (k i : Nat) (x3 : List Int), x0.length - i = d → i ≤ x0.length → x3.length = x0.length → d < k → laws_toByteS.l0 k x0 x3 i = some (x3.take i ++ x0.drop i) := by
  induction d with
  | zero =>
    intro k i x3 hd hi h3 hk
    obtain ⟨k, rfl⟩ : ∃ m, k = m + 1 := ⟨k - 1, by omega⟩
    simp only [laws_toByteS.l0]
    rw [if_neg (by omega), List.take_of_length_le (by omega), List.drop_of_length_le (by omega), List.append_nil]
  | succ d ih =>
    intro k i x3 hd hi h3 hk
    obtain ⟨k, rfl⟩ : ∃ m, k = m + 1 := ⟨k - 1, by omega⟩
    simp only [laws_toByteS.l0]
    rw [if_pos (by omega), if_pos (by omega), if_pos (by omega), w64 (by omega) (by omega)]
    have e := ih k (i + 1) (x3.set i (rd x0 i)) (by omega) (by omega) (by simpa using h3) (by omega)
    rw [Int.toNat_natCast]
    rw [show ((i : Int) + 1) = ((i + 1 : Nat) : Int) from rfl, e]
    congr 1
    have hlt : i < x0.length := by omega
    rw [List.take_succ_eq_append_getElem (by simp; omega), List.getElem_set_self, List.take_set_of_le (by omega), rd_nat hlt, List.append_assoc, List.singleton_append, ← List.drop_eq_getElem_cons hlt]
theorem toByteS_ev (l : List Int) (hl : l.length ≤ 281474976710656) : Ev (fun k => laws_toByteS.f k l) l :=
  ⟨l.length + 1, fun k hk => by
    show laws_toByteS.f k l = some l
    unfold laws_toByteS.f
    rw [if_pos (by omega), if_pos (by omega)]
    have := toByteS_l0 l hl l.length k 0 (List.replicate ((l.length : Int)).toNat 0) (by omega) (by omega) (by simp) (by omega)
    simpa using this⟩

theorem eqByteS_l0 (x0 x1 : List Int) (hl : x0.length = x1.length) (hm : x0.length ≤ 281474976710656) (d : Nat) : ∀ (k i : Nat), x0.length - i = d → i ≤ x0.length → d < k → laws_eqByteS.l0 k x0 x1 i = some (decide (x0.drop i = x1.drop i)) := by
  induction d with
  | zero =>
    intro k i hd hi hk
    obtain ⟨k, rfl⟩ : ∃ m, k = m + 1 := ⟨k - 1, by omega⟩
    simp only [laws_eqByteS.l0]
    rw [if_neg (by omega), List.drop_of_length_le (by omega), List.drop_of_length_le (by omega)]; simp
  | succ d ih =>
    intro k i hd hi hk
    obtain ⟨k, rfl⟩ : ∃ m, k = m + 1 := ⟨k - 1, by omega⟩
    simp only [laws_eqByteS.l0]
    have h0 : i < x0.length := by omega
    have h1 : i < x1.length := by omega
    rw [if_pos (by omega), if_pos (by omega), if_pos (by omega), w64 (by omega) (by omega), rd_nat h0, rd_nat h1, List.drop_eq_getElem_cons h0, List.drop_eq_getElem_cons h1]
    have e := ih k (i + 1) (by omega) (by omega) (by omega)
    rw [show ((i : Int) + 1) = ((i + 1 : Nat) : Int) from rfl, e]
    by_cases hx : x0[i] = x1[i]
    · rw [if_pos hx]; congr 1; rw [decide_eq_decide, hx, List.cons.injEq]; exact ⟨fun h => ⟨rfl, h⟩, fun h => h.2⟩
    · rw [if_neg hx]; congr 1; symm; rw [decide_eq_false_iff_not, List.cons.injEq]; exact fun h => hx h.1
theorem eqByteS_ev (a b : List Int) (hl : a.length ≤ 281474976710656) : Ev (fun k => laws_eqByteS.f k a b) (decide (a = b)) :=
  ⟨a.length + 1, fun k hk => by
    show laws_eqByteS.f k a b = _
    unfold laws_eqByteS.f
    by_cases h : a.length = b.length
    · rw [if_pos (by omega)]
      have := eqByteS_l0 a b h hl a.length k 0 (by omega) (by omega) (by omega)
      simpa using this
    · rw [if_neg (by omega)]
      have : a ≠ b := fun e => h (by rw [e])
      simp [this]⟩
theorem eqByteS_refl (a : List Int) (hl : a.length ≤ 281474976710656) : Ev (fun k => laws_eqByteS.f k a a) true := by
  have := eqByteS_ev a a hl
  simpa using this

/-- What a marked slice of n bytes holds, counted from k. -/
def markL : Nat → Int → List Int
  | 0, _ => []
  | n + 1, k => k % 256 :: markL n (k + 1)
theorem markL_len : ∀ (n : Nat) (k : Int), (markL n k).length = n
  | 0, _ => rfl
  | n + 1, k => by simp [markL, markL_len n]
theorem markByteS_l0 (d : Nat) : ∀ (k i : Nat) (c : Int) (x0 : List Int), x0.length - i = d → i ≤ x0.length → x0.length ≤ 281474976710656 → 0 ≤ c → c + d ≤ 9000000000000000000 → d < k → laws_markByteS.l0 k x0 c i = some (c + d, x0.take i ++ markL d c) := by
  induction d with
  | zero =>
    intro k i c x0 hd hi hl hc hc2 hk
    obtain ⟨k, rfl⟩ : ∃ m, k = m + 1 := ⟨k - 1, by omega⟩
    simp only [laws_markByteS.l0]
    rw [if_neg (by omega), List.take_of_length_le (by omega)]; simp [markL]
  | succ d ih =>
    intro k i c x0 hd hi hl hc hc2 hk
    obtain ⟨k, rfl⟩ : ∃ m, k = m + 1 := ⟨k - 1, by omega⟩
    simp only [laws_markByteS.l0]
    rw [if_pos (by omega), if_pos (by omega), w64 (by omega) (by omega), w64 (by omega) (by omega), Int.toNat_natCast]
    have e := ih k (i + 1) (c + 1) (x0.set i (c % 256)) (by simp; omega) (by simp; omega) (by simpa using hl) (by omega) (by omega) (by omega)
    rw [show ((i : Int) + 1) = ((i + 1 : Nat) : Int) from rfl, e]
    have hlt : i < x0.length := by omega
    rw [List.take_succ_eq_append_getElem (by simp; omega), List.getElem_set_self, List.take_set_of_le (by omega), List.append_assoc, List.singleton_append, markL]
    congr 2; omega
theorem markByteS_ev (l : List Int) (c : Int) (hl : l.length ≤ 281474976710656) (hc : 0 ≤ c) (hc2 : c ≤ 8000000000000000000) : Ev (fun k => laws_markByteS.f k l c) (c + l.length, markL l.length c) :=
  ⟨l.length + 1, fun k hk => by
    have := markByteS_l0 l.length k 0 c l (by omega) (by omega) hl hc (by omega) (by omega)
    simpa [laws_markByteS.f] using this⟩
theorem heldByteS_l0 (n : Nat) : ∀ (k i : Nat) (c : Int) (x0 : List Int), x0.drop i = markL n c → i ≤ x0.length → x0.length ≤ 281474976710656 → 0 ≤ c → c + n ≤ 9000000000000000000 → n < k → laws_heldByteS.l0 k x0 c i = some (c + n) := by
  induction n with
  | zero =>
    intro k i c x0 hd hi hl hc hc2 hk
    obtain ⟨k, rfl⟩ : ∃ m, k = m + 1 := ⟨k - 1, by omega⟩
    have hlen := congrArg List.length hd
    rw [List.length_drop, markL_len] at hlen
    simp only [laws_heldByteS.l0]
    rw [if_neg (by omega)]; simp
  | succ n ih =>
    intro k i c x0 hd hi hl hc hc2 hk
    obtain ⟨k, rfl⟩ : ∃ m, k = m + 1 := ⟨k - 1, by omega⟩
    have hlen := congrArg List.length hd
    rw [List.length_drop, markL_len] at hlen
    have hlt : i < x0.length := by omega
    rw [List.drop_eq_getElem_cons hlt, markL] at hd
    injection hd with h1 h2
    simp only [laws_heldByteS.l0]
    rw [if_pos (by omega), if_pos (by omega), rd_nat hlt, if_pos h1, w64 (by omega) (by omega), w64 (by omega) (by omega), show ((i : Int) + 1) = ((i + 1 : Nat) : Int) from rfl, ih k (i + 1) (c + 1) x0 h2 (by omega) hl (by omega) (by omega) (by omega)]
    congr 1; omega
theorem heldByteS_ev (n : Nat) (c : Int) (hl : n ≤ 281474976710656) (hc : 0 ≤ c) (hc2 : c ≤ 8000000000000000000) : Ev (fun k => laws_heldByteS.f k (markL n c) c) (c + n) :=
  ⟨n + 1, fun k hk => by
    have := heldByteS_l0 n k 0 c (markL n c) (by simp) (by omega) (by rw [markL_len]; exact hl) hc (by omega) (by omega)
    simpa [laws_heldByteS.f] using this⟩
end Go.Proofs.Ytgolcojhnklfdaa.Pr
/- The digest: the reference's and the program's come to one. Plain facts. -/
namespace Go.Proofs.Ytgolcojhnklfdaa.Pr
open Go.RowKit Go.Proofs.Ytgolcojhnklfdaa.Read Go.Proofs.YtgolcojhnklfdaaW.PrintWords

def inP (a : List Int) : Prop := a.length = 4 ∧ ∀ j, j < 4 → 0 ≤ a.getD j 0 ∧ a.getD j 0 < 2147483579
theorem inP_start : inP [11, 22, 33, 44] := ⟨rfl, by decide⟩
theorem inP_mix {a : List Int} (h : inP a) (x : Int) (hx : 0 ≤ x) : inP (dgMix a x) := ⟨by rw [dgMix, mix_len, h.1], mix_bd a x hx h.1 h.2 4 (by omega)⟩
theorem inP_all : ∀ (l a : List Int), inP a → (∀ x ∈ l, 0 ≤ x) → inP (dgAll a l)
  | [], _, h, _ => h
  | x :: l, a, h, hx => inP_all l (dgMix a x) (inP_mix h x (hx x List.mem_cons_self)) (fun y hy => hx y (List.mem_cons_of_mem _ hy))
theorem dgAll_cons (a : List Int) (x : Int) (l : List Int) : dgAll a (x :: l) = dgAll (dgMix a x) l := rfl
theorem mt_at (i : Nat) (h : i < 4) : rd [1103515245, 69069, 1664525, 22695477] (i : Int) = mulT.getD i 0 := by
  match i, h with
  | 0, _ => rfl
  | 1, _ => rfl
  | 2, _ => rfl
  | 3, _ => rfl
theorem rd_getD (l : List Int) (i : Nat) : rd l (i : Int) = l.getD i 0 := by simp [rd]
theorem specMix_step (l : List Int) (h : inP l) (x : Int) (hx : 0 ≤ x ∧ x ≤ 255) (i : Nat) (hi : i < 4) (k : Nat) :
    spec_l2Mix.l0 (k + 1) (mixN l x i) x [1103515245, 69069, 1664525, 22695477] i = spec_l2Mix.l0 k (mixN l x (i + 1)) x [1103515245, 69069, 1664525, 22695477] ((i + 1 : Nat) : Int) := by
  have hlen : (mixN l x i).length = 4 := by rw [mix_len, h.1]
  have b1 := mix_bd l x hx.1 h.1 h.2 i (by omega) i hi
  have b2 := mix_bd l x hx.1 h.1 h.2 i (by omega) ((i + 1) % 4) (by omega)
  have b3 := mulOk i hi
  simp only [spec_l2Mix.l0]
  rw [w64 (n := (i : Int) + 1) (by omega) (by omega)]
  have e6 : Int.tmod ((i : Int) + 1) 4 = ((i + 1) % 4 : Nat) := by rw [Int.tmod_eq_emod_of_nonneg (by omega)]; omega
  rw [e6, mt_at i hi, rd_getD, rd_getD]
  obtain ⟨p1, e1⟩ : ∃ p, p = (mixN l x i).getD i 0 := ⟨_, rfl⟩
  obtain ⟨p2, e2⟩ : ∃ p, p = (mixN l x i).getD ((i + 1) % 4) 0 := ⟨_, rfl⟩
  obtain ⟨p3, e3⟩ : ∃ p, p = mulT.getD i 0 := ⟨_, rfl⟩
  have e5 : mixN l x (i + 1) = (mixN l x i).set i ((p1 * p3 + x + 1 + p2) % 2147483579) := by rw [e1, e2, e3]; rfl
  rw [e5, ← e1, ← e2, ← e3]
  rw [← e1] at b1; rw [← e2] at b2; rw [← e3] at b3
  have b4 := prod_bd b1.1 b1.2 b3.1 b3.2
  rw [if_pos (by omega), if_pos (by omega), if_pos (by omega), if_pos (by simp; omega), if_pos (by omega), if_pos (by omega), w64 (n := p1 * p3) (by omega) (by omega), w64 (n := p1 * p3 + x) (by omega) (by omega), w64 (n := p1 * p3 + x + 1) (by omega) (by omega), w64 (by omega) (by omega), Int.tmod_eq_emod_of_nonneg (by omega), Int.toNat_natCast]
  rfl
theorem specMix_eq (l : List Int) (h : inP l) (x : Int) (hx : 0 ≤ x ∧ x ≤ 255) (k : Nat) (hk : 5 ≤ k) : spec_l2Mix.f k l x = some (dgMix l x) := by
  obtain ⟨k, rfl⟩ : ∃ m, k = m + 5 := ⟨k - 5, by omega⟩
  unfold spec_l2Mix.f
  have e0 := specMix_step l h x hx 0 (by omega) (k + 4)
  have e1 := specMix_step l h x hx 1 (by omega) (k + 3)
  have e2 := specMix_step l h x hx 2 (by omega) (k + 2)
  have e3 := specMix_step l h x hx 3 (by omega) (k + 1)
  have e4 : spec_l2Mix.l0 (k + 1) (mixN l x 4) x [1103515245, 69069, 1664525, 22695477] ((3 + 1 : Nat) : Int) = some (mixN l x 4) := by
    simp only [spec_l2Mix.l0]; rw [if_neg (by omega)]
  exact e0.trans (e1.trans (e2.trans (e3.trans e4)))
theorem tm256 (n : Int) (h : 0 ≤ n) : Int.tmod n 256 % 256 = n % 256 := by rw [Int.tmod_eq_emod_of_nonneg h]; omega
theorem td256 (n : Int) (h : 0 ≤ n) (h2 : n ≤ 9223372036854775807) : wrap64 (Int.tdiv n 256) = n / 256 := by
  rw [Int.tdiv_eq_ediv_of_nonneg h, w64 (by omega) (by omega)]
theorem specBytes_eq (n : Int) (h : 0 ≤ n) (h2 : n ≤ 9223372036854775807) (k : Nat) (hk : 5 ≤ k) : spec_l2Bytes.f k n = some (yb n) := by
  obtain ⟨k, rfl⟩ : ∃ m, k = m + 5 := ⟨k - 5, by omega⟩
  unfold spec_l2Bytes.f
  rw [if_pos (by omega)]
  simp only [Option.bind_some, List.length_replicate]
  simp only [spec_l2Bytes.l0]
  have a1 := td256 n h h2
  have a2 := td256 (n / 256) (by omega) (by omega)
  have a3 := td256 (n / 256 / 256) (by omega) (by omega)
  have w1 : wrap64 ((0 : Int) + 1) = 1 := by unfold wrap64; omega
  have w2 : wrap64 ((1 : Int) + 1) = 2 := by unfold wrap64; omega
  have w3 : wrap64 ((2 : Int) + 1) = 3 := by unfold wrap64; omega
  have w4 : wrap64 ((3 : Int) + 1) = 4 := by unfold wrap64; omega
  rw [w1, w2, w3, w4, a1, a2, a3, tm256 n h, tm256 _ (by omega), tm256 _ (by omega), tm256 _ (by omega)]
  simp [yb, List.replicate]
  omega
theorem specDig_l3 (a : List Int) (h : inP a) : ∀ (k : Nat), 10 ≤ k → spec_l2Digest.l3 k [] a (a.length : Int) 0 = some (a.flatMap yb) := by
  intro k hk
  obtain ⟨k, rfl⟩ : ∃ m, k = m + 10 := ⟨k - 10, by omega⟩
  obtain ⟨hl, hb⟩ := h
  match a, hl with
  | [b0, b1, b2, b3], _ =>
    have h0 := hb 0 (by omega)
    have h1 := hb 1 (by omega)
    have h2 := hb 2 (by omega)
    have h3 := hb 3 (by omega)
    simp only [List.getD_cons_zero, List.getD_cons_succ] at h0 h1 h2 h3
    have w1 : wrap64 ((0 : Int) + 1) = 1 := by unfold wrap64; omega
    have w2 : wrap64 ((1 : Int) + 1) = 2 := by unfold wrap64; omega
    have w3 : wrap64 ((2 : Int) + 1) = 3 := by unfold wrap64; omega
    have w4 : wrap64 ((3 : Int) + 1) = 4 := by unfold wrap64; omega
    have r0 : rd [b0, b1, b2, b3] 0 = b0 := rfl
    have r1 : rd [b0, b1, b2, b3] 1 = b1 := rfl
    have r2 : rd [b0, b1, b2, b3] 2 = b2 := rfl
    have r3 : rd [b0, b1, b2, b3] 3 = b3 := rfl
    simp only [spec_l2Digest.l3, w1, w2, w3, w4, r0, r1, r2, r3]
    rw [specBytes_eq b0 (by omega) (by omega) _ (by omega), specBytes_eq b1 (by omega) (by omega) _ (by omega), specBytes_eq b2 (by omega) (by omega) _ (by omega), specBytes_eq b3 (by omega) (by omega) _ (by omega)]
    simp [yb]
theorem specDig_l2 (d : Nat) : ∀ (a : List Int) (k i : Nat), inP a → i + d = 8 → d + 12 ≤ k → spec_l2Digest.l2 k a i = some ((dgAll a (List.replicate d 0)).flatMap yb) := by
  induction d with
  | zero =>
    intro a k i h hi hk
    obtain ⟨k, rfl⟩ : ∃ m, k = m + 1 := ⟨k - 1, by omega⟩
    simp only [spec_l2Digest.l2]
    rw [if_neg (by omega), specDig_l3 a h k (by omega)]; rfl
  | succ d ih =>
    intro a k i h hi hk
    obtain ⟨k, rfl⟩ : ∃ m, k = m + 1 := ⟨k - 1, by omega⟩
    simp only [spec_l2Digest.l2]
    rw [if_pos (by omega), specMix_eq a h 0 (by omega) k (by omega)]
    simp only [Option.bind_some]
    rw [w64 (by omega) (by omega), show ((i : Int) + 1) = ((i + 1 : Nat) : Int) from rfl, ih (dgMix a 0) k (i + 1) (inP_mix h 0 (by omega)) (by omega) (by omega)]
    rfl
theorem wbyte {x : Int} (h : 0 ≤ x ∧ x ≤ 255) : wrap64 x = x := w64 (by omega) (by omega)
theorem drop_rd {l : List Int} {i : Nat} (h : i < l.length) : l.drop i = rd l i :: l.drop (i + 1) := by rw [List.drop_eq_getElem_cons h, rd_nat h]
theorem specDig_l1 (xs : List Int) (hx : isBytes xs) (hl : xs.length ≤ 1000000000) (d : Nat) : ∀ (a : List Int) (k i : Nat), inP a → i + d = xs.length → d + 24 ≤ k →
    spec_l2Digest.l1 k a xs (xs.length : Int) i = some ((dgAll (dgAll a (xs.drop i)) (List.replicate 8 0)).flatMap yb) := by
  induction d with
  | zero =>
    intro a k i h hi hk
    obtain ⟨k, rfl⟩ : ∃ m, k = m + 1 := ⟨k - 1, by omega⟩
    simp only [spec_l2Digest.l1]
    rw [if_neg (by omega), List.drop_of_length_le (by omega)]
    exact specDig_l2 8 a k 0 h (by omega) (by omega)
  | succ d ih =>
    intro a k i h hi hk
    obtain ⟨k, rfl⟩ : ∃ m, k = m + 1 := ⟨k - 1, by omega⟩
    have hlt : i < xs.length := by omega
    have hb := hx (rd xs i) (rd_mem hlt)
    simp only [spec_l2Digest.l1]
    rw [if_pos (by omega), if_pos (by omega), if_pos (by omega), wbyte hb, specMix_eq a h _ hb k (by omega)]
    simp only [Option.bind_some]
    rw [w64 (by omega) (by omega), show ((i : Int) + 1) = ((i + 1 : Nat) : Int) from rfl, ih _ k (i + 1) (inP_mix h _ hb.1) (by omega) (by omega), drop_rd hlt, dgAll_cons]
theorem specDig_l0 (xs ys : List Int) (hx : isBytes xs) (hl : xs.length ≤ 1000000000) (hly : ys.length ≤ 1000000000) (d : Nat) : ∀ (a : List Int) (k i : Nat), inP a → i + d = xs.length → d + 40 ≤ k →
    spec_l2Digest.l0 k ys a xs (xs.length : Int) i = some ((dgAll (dgAll (dgAll a (xs.drop i)) (yb ys.length)) (List.replicate 8 0)).flatMap yb) := by
  induction d with
  | zero =>
    intro a k i h hi hk
    obtain ⟨k, rfl⟩ : ∃ m, k = m + 1 := ⟨k - 1, by omega⟩
    simp only [spec_l2Digest.l0]
    rw [if_neg (by omega), List.drop_of_length_le (by omega), specBytes_eq _ (by omega) (by omega) k (by omega)]
    exact specDig_l1 (yb ys.length) (yb_bytes _) (by rw [yb_len]; omega) 4 a k 0 h (by rw [yb_len]) (by omega)
  | succ d ih =>
    intro a k i h hi hk
    obtain ⟨k, rfl⟩ : ∃ m, k = m + 1 := ⟨k - 1, by omega⟩
    have hlt : i < xs.length := by omega
    have hb := hx (rd xs i) (rd_mem hlt)
    simp only [spec_l2Digest.l0]
    rw [if_pos (by omega), if_pos (by omega), if_pos (by omega), wbyte hb, specMix_eq a h _ hb k (by omega)]
    simp only [Option.bind_some]
    rw [w64 (by omega) (by omega), show ((i : Int) + 1) = ((i + 1 : Nat) : Int) from rfl, ih _ k (i + 1) (inP_mix h _ hb.1) (by omega) (by omega), drop_rd hlt, dgAll_cons]
theorem specDigest_eq (l : List Int) (h : isBytes l) (hl : l.length ≤ 1000000000) (k : Nat) (hk : l.length + 40 ≤ k) : spec_l2Digest.f k l = some (dg l) := by
  have := specDig_l0 l l h hl hl l.length [11, 22, 33, 44] k 0 inP_start (by omega) hk
  simpa [spec_l2Digest.f, dg, dgS] using this
theorem specDigest_ev (l : List Int) (h : isBytes l) (hl : l.length ≤ 1000000000) : Ev (fun k => spec_l2Digest.f k l) (dg l) := ⟨_, fun k hk => specDigest_eq l h hl k hk⟩
theorem isBytes_flatMap_yb (a : List Int) : isBytes (a.flatMap yb) := by
  intro x hx
  obtain ⟨n, _, hn⟩ := List.mem_flatMap.1 hx
  exact yb_bytes n x hn
theorem dg_bytes (l : List Int) : isBytes (dg l) := isBytes_flatMap_yb _
theorem dgAll_len : ∀ (l a : List Int), (dgAll a l).length = a.length
  | [], _ => rfl
  | x :: l, a => by rw [dgAll_cons, dgAll_len l, dgMix, mix_len]
theorem dg_len (l : List Int) : (dg l).length = 16 := by
  have h : (dgS l).length = 4 := by simp [dgS, dgAll_len]
  unfold dg
  match dgS l, h with
  | [b0, b1, b2, b3], _ => rfl
theorem isBytes_append {a b : List Int} (h : isBytes a) (h2 : isBytes b) : isBytes (a ++ b) := fun x hx => (List.mem_append.1 hx).elim (h x) (h2 x)
theorem implDigest_eq (l : List Int) (h : isBytes l) (hl : l.length ≤ 20000) : impl_Digest.f l = some (dg l) := by
  unfold impl_Digest.f; rw [if_pos h, if_neg (by omega)]
theorem isBytes_okL {l : List Int} (h : okL okB l) : isBytes l := fun x hx => h.2 x hx
theorem bytesOf_isBytes (s : ByteArray) : isBytes (bytesOf s) := by
  intro x hx
  simp only [bytesOf, List.mem_map] at hx
  obtain ⟨b, _, rfl⟩ := hx
  have := b.toNat_lt
  omega
/-- The sum of a key and data. -/
def macL (key data : List Int) : List Int := dg (dg key ++ dg data)
end Go.Proofs.Ytgolcojhnklfdaa.Pr
/- Macs: the reference's and the program's are one. -/
namespace Go.Proofs.Ytgolcojhnklfdaa.Pr
open Go.RowKit Go.Proofs.Ytgolcojhnklfdaa.Read Go.Proofs.YtgolcojhnklfdaaW.PrintWords
theorem Ev.up2 {α : Type} {g : Nat → Option α} {r : α} (h : Ev (fun k => g (k + 1)) r) : Ev g r := by
  obtain ⟨n, hn⟩ := h
  refine ⟨n + 1, fun k hk => ?_⟩
  obtain ⟨k, rfl⟩ : ∃ m, k = m + 1 := ⟨k - 1, by omega⟩
  exact hn k (by omega)
theorem macTwo_ev (a b : List Int) (ha : isBytes a) (hb : isBytes b) (la : a.length ≤ 100000000) (lb : b.length ≤ 100000000) : Ev (fun k => spec_l2Two.f k a b) (dg (a ++ b)) := by
  have hab := specDigest_ev (a ++ b) (isBytes_append ha hb) (by rw [List.length_append]; omega)
  simp only [spec_l2Two.f, List.length_nil, if_pos (show 0 + a.length < 140737488355328 by omega), List.nil_append, Option.bind_some, if_pos (show a.length + b.length < 140737488355328 by omega)]
  exact Ev.bind hab (Ev.now _)
theorem macS_ev (a b : List Int) (ha : isBytes a) (hb : isBytes b) (la : a.length ≤ 100000000) (lb : b.length ≤ 100000000) : Ev (fun k => spec_l2Mac.f k a b) (macL a b) := by
  simp only [spec_l2Mac.f]
  refine Ev.bind (specDigest_ev a ha (by omega)) ?_
  refine Ev.bind (specDigest_ev b hb (by omega)) ?_
  exact Ev.bind (macTwo_ev _ _ (dg_bytes a) (dg_bytes b) (by rw [dg_len]; omega) (by rw [dg_len]; omega)) (Ev.now _)
theorem macI_ev (a b : List Int) (ha : isBytes a) (hb : isBytes b) (la : a.length ≤ 20000) (lb : b.length ≤ 20000) : Ev (fun k => impl_Mac.f k a b) (macL a b) := by
  refine Ev.up2 ?_
  simp only [impl_Mac.f, if_neg (show ¬ ((a.length : Int) > 20000) by omega), decide_eq_false (show ¬ ((b.length : Int) > 20000) by omega), impl_Mac.j0, Bool.false_eq_true, if_false, implDigest_eq a ha la, implDigest_eq b hb lb, Option.bind_some, if_pos (show (dg a).length + (dg b).length < 140737488355328 by rw [dg_len, dg_len]; omega), implDigest_eq _ (isBytes_append (dg_bytes a) (dg_bytes b)) (show (dg a ++ dg b).length ≤ 20000 by rw [List.length_append, dg_len, dg_len]; omega)]
  exact Ev.now _
theorem mac_bytes (a b : List Int) : isBytes (macL a b) := dg_bytes _
theorem mac_len (a b : List Int) : (macL a b).length = 16 := dg_len _
theorem bytesS_eq (s : ByteArray) (h : s.size ≤ 9223372036854775807) : bytesOfS.f s = some (bytesOf s) := by unfold bytesOfS.f; rw [if_pos h]
end Go.Proofs.Ytgolcojhnklfdaa.Pr
/- Ids: what is good, told the same by the program and by the reference. -/
namespace Go.Proofs.Ytgolcojhnklfdaa.Pr
open Go.RowKit Go.Proofs.Ytgolcojhnklfdaa.Read Go.Proofs.YtgolcojhnklfdaaW.PrintWords
def letC (c : Int) : Bool := decide (97 ≤ c ∧ c ≤ 122 ∨ 65 ≤ c ∧ c ≤ 90)
def digC (c : Int) : Bool := decide (48 ≤ c ∧ c ≤ 57)
theorem sletter_eq (c : Int) : spec_l1Letter.f c = some (letC c) := by
  unfold spec_l1Letter.f letC
  split
  · split
    · congr 1; symm; rw [decide_eq_true_eq]; omega
    · split
      · congr 1; rw [decide_eq_decide]; omega
      · congr 1; symm; rw [decide_eq_false_iff_not]; omega
  · split
    · congr 1; rw [decide_eq_decide]; omega
    · congr 1; symm; rw [decide_eq_false_iff_not]; omega
theorem sdigit_eq (c : Int) : spec_l1Digit.f c = some (digC c) := by
  unfold spec_l1Digit.f digC
  split
  · congr 1; rw [decide_eq_decide]; omega
  · congr 1; symm; rw [decide_eq_false_iff_not]; omega
theorem iletter_eq (c : Int) : impl_yletter.f c = some (letC c) := by
  unfold impl_yletter.f letC
  split
  · split
    · congr 1; symm; rw [decide_eq_true_eq]; omega
    · split
      · congr 1; rw [decide_eq_decide]; omega
      · congr 1; symm; rw [decide_eq_false_iff_not]; omega
  · split
    · congr 1; rw [decide_eq_decide]; omega
    · congr 1; symm; rw [decide_eq_false_iff_not]; omega
theorem idigit_eq (c : Int) : impl_ydigit.f c = some (digC c) := by
  unfold impl_ydigit.f digC
  split
  · congr 1; rw [decide_eq_decide]; omega
  · congr 1; symm; rw [decide_eq_false_iff_not]; omega
def idC (c : Int) : Bool := if letC c = true then true else if digC c = true then true else if c = 95 then true else if c = 45 then true else if c = 46 then true else false
/-- Are the last d bytes of s all those of an id? -/
def idN (s : ByteArray) : Nat → Bool
  | 0 => true
  | d + 1 => if idC (bt s ((s.size - (d + 1) : Nat) : Int)) = true then idN s d else false
theorem l7Id_l0 (s : ByteArray) (hs : s.size ≤ 9223372036854775807) (d : Nat) : ∀ (k i : Nat), s.size - i = d → i ≤ s.size → d < k → spec_l7Id.l0 k s i = some (if idN s d = true then (if (s.size : Int) ≥ 1 then decide ((s.size : Int) ≤ 40) else false) else false) := by
  induction d with
  | zero =>
    intro k i hd hi hk
    obtain ⟨k, rfl⟩ : ∃ m, k = m + 1 := ⟨k - 1, by omega⟩
    simp only [spec_l7Id.l0, idN, if_true]
    rw [if_neg (by omega)]
    split <;> rfl
  | succ d ih =>
    intro k i hd hi hk
    obtain ⟨k, rfl⟩ : ∃ m, k = m + 1 := ⟨k - 1, by omega⟩
    have e0 : s.size - (d + 1) = i := by omega
    simp only [spec_l7Id.l0, idN, e0, sletter_eq, sdigit_eq, Option.bind_some]
    rw [if_pos (by omega), if_pos (by omega), w64 (by omega) (by omega), show ((i : Int) + 1) = ((i + 1 : Nat) : Int) from rfl, ih k (i + 1) (by omega) (by omega) (by omega)]
    unfold idC
    split
    · simp only [if_true]
    · split
      · simp only [if_true]
      · split
        · simp only [if_true]
        · split
          · simp only [if_true]
          · split <;> simp only [if_true, Bool.false_eq_true, if_false]
theorem ygoodId_l0 (s : ByteArray) (hs : s.size ≤ 9223372036854775807) (d : Nat) : ∀ (k i : Nat), s.size - i = d → i ≤ s.size → d < k → impl_ygoodId.l0 k s (s.size : Int) i = some (idN s d) := by
  induction d with
  | zero =>
    intro k i hd hi hk
    obtain ⟨k, rfl⟩ : ∃ m, k = m + 1 := ⟨k - 1, by omega⟩
    simp only [impl_ygoodId.l0]
    rw [if_neg (by omega)]
    rfl
  | succ d ih =>
    intro k i hd hi hk
    obtain ⟨k, rfl⟩ : ∃ m, k = m + 1 := ⟨k - 1, by omega⟩
    have e0 : s.size - (d + 1) = i := by omega
    simp only [impl_ygoodId.l0, idN, e0, impl_ywordByte.f, iletter_eq, idigit_eq, Option.bind_some]
    rw [if_pos (by omega), if_pos (by omega), if_pos (by omega), w64 (by omega) (by omega), show ((i : Int) + 1) = ((i + 1 : Nat) : Int) from rfl, ih k (i + 1) (by omega) (by omega) (by omega)]
    unfold idC
    by_cases h1 : letC (bt s (i : Int)) = true
    · simp only [h1, if_true, Option.bind_some]
    · simp only [h1, Bool.false_eq_true, if_false]
      by_cases h2 : digC (bt s (i : Int)) = true
      · simp only [h2, if_true, Option.bind_some]
      · simp only [h2, Bool.false_eq_true, if_false, Option.bind_some, beq_iff_eq]
        by_cases h3 : bt s (i : Int) = 95
        · simp only [h3, if_true]
        · simp only [h3, if_false]
          by_cases h4 : bt s (i : Int) = 45
          · simp only [h4, if_true]
          · simp only [h4, if_false]
            by_cases h5 : bt s (i : Int) = 46
            · simp only [h5, if_true]
            · simp only [h5, if_false, Bool.false_eq_true]
/-- Is s an id? -/
def goodId (s : ByteArray) : Bool := idN s s.size && (decide (1 ≤ s.size) && decide (s.size ≤ 40))
theorem specId_ev (s : ByteArray) (hs : s.size ≤ 9223372036854775807) : Ev (fun k => spec_l7Id.f k s) (goodId s) := by
  refine ⟨s.size + 1, fun k hk => ?_⟩
  show spec_l7Id.f k s = _
  unfold spec_l7Id.f
  have e := l7Id_l0 s hs s.size k 0 (by omega) (by omega) (by omega)
  rw [show (0 : Int) = ((0 : Nat) : Int) from rfl, e]
  congr 1
  unfold goodId
  cases idN s s.size with
  | false => rfl
  | true =>
    simp only [if_true, Bool.true_and]
    by_cases h : 1 ≤ s.size
    · rw [if_pos (by omega), decide_eq_true h, Bool.true_and, decide_eq_decide]; omega
    · rw [if_neg (by omega), decide_eq_false h, Bool.false_and]
theorem implId_ev (s : ByteArray) (hs : s.size ≤ 9223372036854775807) : Ev (fun k => impl_ygoodId.f k s) (goodId s) := by
  refine ⟨s.size + 2, fun k hk => ?_⟩
  show impl_ygoodId.f k s = _
  obtain ⟨k, rfl⟩ : ∃ m, k = m + 1 := ⟨k - 1, by omega⟩
  unfold impl_ygoodId.f goodId
  by_cases h1 : 1 ≤ s.size
  · by_cases h2 : s.size ≤ 40
    · rw [if_neg (by omega), decide_eq_false (by omega), decide_eq_true h1, decide_eq_true h2]
      simp only [impl_ygoodId.j0, Bool.false_eq_true, if_false, Bool.and_true]
      exact ygoodId_l0 s hs s.size k 0 (by omega) (by omega) (by omega)
    · rw [if_neg (by omega), decide_eq_true (by omega), decide_eq_false h2]
      simp only [impl_ygoodId.j0, if_true, Bool.and_false]
  · rw [if_pos (by omega), decide_eq_false h1]
    simp only [impl_ygoodId.j0, if_true, Bool.false_and, Bool.and_false]
end Go.Proofs.Ytgolcojhnklfdaa.Pr
/- The law FnExactMakeCap, its plain part. -/
namespace Go.Proofs.Ytgolcojhnklfdaa.Pure
open Go.RowKit Go.Proofs.Ytgolcojhnklfdaa.Read Go.Proofs.YtgolcojhnklfdaaW.PrintWords Go.Proofs.Ytgolcojhnklfdaa.Pr
def capOk (root : List Int) (id : ByteArray) : Prop := root.length ≤ 64 ∧ goodId id = true
instance (root : List Int) (id : ByteArray) : Decidable (capOk root id) := by unfold capOk; infer_instance
def capId (root : List Int) (id : ByteArray) : ByteArray := if capOk root id then id else ⟨#[]⟩
def capTag (root : List Int) (id : ByteArray) : List Int := if capOk root id then macL root (bytesOf id) else []
theorem good_size {id : ByteArray} (h : goodId id = true) : id.size ≤ 40 := by
  unfold goodId at h
  simp only [Bool.and_eq_true, decide_eq_true_eq] at h
  exact h.2.2
theorem bytes_size (id : ByteArray) : (bytesOf id).length = id.size := by simp [bytesOf]
theorem specMake_ev (root : List Int) (id : ByteArray) (hr : isBytes root) (hi : id.size ≤ 9223372036854775807) : Ev (fun k => spec_MakeCap.f k root id) (capId root id, [], capTag root id) := by
  refine Ev.up2 ?_
  simp only [spec_MakeCap.f, spec_MakeCap.j0]
  by_cases h1 : (root.length : Int) > 64
  · have hno : ¬ capOk root id := fun h => by have := h.1; omega
    simp only [if_pos h1, if_true, capId, capTag, if_neg hno]
    exact Ev.now _
  simp only [if_neg h1]
  refine Ev.bind (show Ev (fun k => spec_l7Id.f (k + 1) id) (goodId id) from (specId_ev id hi).elim fun n hn => ⟨n, fun k hk => hn (k + 1) (by omega)⟩) ?_
  by_cases h2 : goodId id = true
  · have hok : capOk root id := ⟨by omega, h2⟩
    have hs := good_size h2
    simp only [h2, Bool.not_true, Bool.false_eq_true, if_false, capId, capTag, if_pos hok, bytesS_eq id hi, Option.bind_some]
    exact Ev.bind (macS_ev root _ hr (bytesOf_isBytes id) (by omega) (by rw [bytes_size]; omega)) (Ev.now _)
  · have hno : ¬ capOk root id := fun h => h2 h.2
    simp only [Bool.not_eq_true] at h2
    simp only [h2, Bool.not_false, if_true, capId, capTag, if_neg hno]
    exact Ev.now _
theorem implMake_ev (root : List Int) (id : ByteArray) (hr : isBytes root) (hi : id.size ≤ 9223372036854775807) : Ev (fun k => impl_MakeCap.f k root id) (capId root id, [], capTag root id) := by
  refine Ev.up2 ?_
  simp only [impl_MakeCap.f, impl_MakeCap.j0]
  by_cases h1 : (root.length : Int) > 64
  · have hno : ¬ capOk root id := fun h => by have := h.1; omega
    simp only [if_pos h1, if_true, capId, capTag, if_neg hno]
    exact Ev.now _
  simp only [if_neg h1]
  refine Ev.bind (show Ev (fun k => impl_ygoodId.f (k + 1) id) (goodId id) from (implId_ev id hi).elim fun n hn => ⟨n, fun k hk => hn (k + 1) (by omega)⟩) ?_
  by_cases h2 : goodId id = true
  · have hok : capOk root id := ⟨by omega, h2⟩
    have hs := good_size h2
    simp only [h2, Bool.not_true, Bool.false_eq_true, if_false, capId, capTag, if_pos hok, bytesS_eq id hi, Option.bind_some]
    exact Ev.bind (macI_ev root _ hr (bytesOf_isBytes id) (by omega) (by rw [bytes_size]; omega)) (Ev.now _)
  · have hno : ¬ capOk root id := fun h => h2 h.2
    simp only [Bool.not_eq_true] at h2
    simp only [h2, Bool.not_false, if_true, capId, capTag, if_neg hno]
    exact Ev.now _
theorem tag_len (root : List Int) (id : ByteArray) : (capTag root id).length ≤ 16 := by
  unfold capTag
  split
  · rw [mac_len]; omega
  · simp
theorem eqTerms_nil : Ev (fun k => laws_eqCavTermS.f k [] []) true := ⟨1, fun k hk => by
  obtain ⟨k, rfl⟩ : ∃ m, k = m + 1 := ⟨k - 1, by omega⟩
  rfl⟩
theorem heldTerms_nil (m : Int) : Ev (fun k => laws_heldCavTermS.f k [] m) m := ⟨1, fun k hk => by
  obtain ⟨k, rfl⟩ : ∃ m, k = m + 1 := ⟨k - 1, by omega⟩
  rfl⟩
theorem eqCap_refl (id : ByteArray) (tag : List Int) (h : tag.length ≤ 16) : Ev (fun k => laws_eqCap.f k id [] tag id [] tag) true := by
  simp only [laws_eqCap.f, if_true]
  refine Ev.bind eqTerms_nil ?_
  simp only [if_true]
  refine Ev.bind (eqByteS_refl tag (by omega)) ?_
  simp only [if_true]
  exact Ev.now _
theorem markCap_ev (id : ByteArray) (tag : List Int) (h : tag.length ≤ 16) : Ev (fun k => laws_markCap.f k id [] tag 1) (1 + tag.length, markL tag.length 1) := by
  simp only [laws_markCap.f, show laws_markCavTermS.f [] 1 = some 1 from rfl, Option.bind_some]
  exact Ev.bind (markByteS_ev tag 1 (by omega) (by omega) (by omega)) (Ev.now _)
theorem heldCap_ev (id : ByteArray) (n : Nat) (h : n ≤ 16) : Ev (fun k => laws_heldCap.f k id [] (markL n 1) 1) (1 + n) := by
  simp only [laws_heldCap.f]
  refine Ev.bind (heldTerms_nil 1) ?_
  simp only [show ¬ ((1 : Int) < 0) by omega, if_false]
  refine Ev.bind (heldByteS_ev n 1 (by omega) (by omega) (by omega)) ?_
  simp only [if_neg (show ¬ ((1 : Int) + n < 0) by omega)]
  exact Ev.now _
theorem FnExactMakeCap : laws_FnExactMakeCap.Pure := by
  intro root id hroot hid
  have hb := isBytes_okL hroot
  apply Ev.rounds
  simp only [laws_FnExactMakeCap.f]
  by_cases h0 : (root.length : Int) > 1048576
  · simp only [if_pos h0]; exact Ev.now _
  by_cases h4 : (id.size : Int) > 1048576
  · simp only [if_neg h0, if_pos h4]; exact Ev.now _
  simp only [if_neg h0, if_neg h4]
  have hL := toByteS_ev root (by omega)
  have hs := specMake_ev root id hb hid
  have hi := implMake_ev root id hb hid
  have hn := tag_len root id
  have he := eqCap_refl (capId root id) (capTag root id) hn
  refine Ev.bind hL (Ev.bind hs (Ev.bind hL (Ev.bind hi (Ev.bind he ?_))))
  simp only [if_true]
  refine Ev.bind hL (Ev.bind (eqByteS_refl root (by omega)) ?_)
  simp only [if_true]
  refine Ev.bind (markByteS_ev root 1 (by omega) (by omega) (by omega)) ?_
  simp only [if_neg (show ¬ ((1 : Int) + root.length < 0) by omega)]
  refine Ev.bind he ?_
  simp only [if_true]
  refine Ev.bind (markCap_ev (capId root id) (capTag root id) hn) (Ev.bind (heldCap_ev (capId root id) _ hn) ?_)
  simp only [if_neg (show ¬ ((1 : Int) + (capTag root id).length < 0) by omega), if_true]
  refine Ev.bind hL (Ev.bind hi (Ev.bind he ?_))
  simp only [if_true]
  refine Ev.bind (heldCap_ev (capId root id) _ hn) ?_
  simp only [if_neg (show ¬ ((1 : Int) + (capTag root id).length < 0) by omega), if_true]
  exact Ev.now _
end Go.Proofs.Ytgolcojhnklfdaa.Pure
/- The law FnExactMakeCap: whatever the input, the call returns true and the arguments read as before. No conditions. -/
namespace Go.Proofs.Ytgolcojhnklfdaa.fnExactMakeCap
open Go.ChangeShapes Go.WideShapes Go.ChangeAt Go.RowKit Go.Proofs.Ytgolcojhnklfdaa.Read Go.Proofs.YtgolcojhnklfdaaW.PrintWords Go.Proofs.Ytgolcojhnklfdaa.Pr
open Go.ChangeMaps (open_string shut_string)
set_option linter.unusedVariables false
theorem own : ownKnob Try.prog.godebug = none := by kernel_rfl
theorem laidOut : laidOutB Try.prog = true := by kernel_rfl
set_option maxRecDepth 100000 in
theorem lifted (os : Os) (started : os.Started) (H : Type) (enc : TypeId × Value → H) :
    ReturnsInHanded {} Try.checked os 9 .any (Rows.fnExactMakeCapSpec.pre6 enc Try.prog Try.f9 Rows.fnExactMakeCapRow.domain false) (Rows.fnExactMakeCapSpec.post enc Try.prog Try.f9 false true false false) := by
  refine returnsInHanded_of_change (C := Try.checked) own started (by kernel_rfl) Try.func9
    (ChangeSpec.witness6 (enc := enc) (C := Try.checked) false ⟨#[], #[.slice none 0 0, .string ByteArray.empty], []⟩ 8 (by kernel_rfl) (by kernel_rfl) (by kernel_rfl) (by kernel_rfl)) ?_
  intro W base args ds gs before hval0 hW hcnd _
  have hval : ∀ (j : Nat) t v, Try.f9.params[j]? = some t → args[j]? = some v → Value.okWide Try.prog W .any base t v := hval0
  have hW' := hW
  obtain ⟨p, q, hA0, hV, rfl, hfz, hnd⟩ := hW
  have hA : DataW.TrodAll enc Try.prog W 0 (fun _ => true) true Try.f9.params.toList args.toList ds p := hA0
  rw [Try.params9] at hA hval
  obtain ⟨v0, vs0, d0, ds0, p0, q0, hargs, rfl, rfl, h0, r0⟩ := trodAll_cons hA
  obtain ⟨v1, vs1, d1, ds1, p1, q1, rfl, rfl, rfl, h1, r1⟩ := trodAll_cons r0
  obtain ⟨rfl, rfl, rfl⟩ := trodAll_nil r1
  obtain rfl : args = #[v0, v1] := by cases args; simp_all
  obtain ⟨rfl, rfl⟩ := trodVars_none hV
  have lt0 : ∀ x ∈ p0, x.block < W.heap.size := by obtain ⟨m, hm⟩ := h0; exact DataW.trod_lt m _ _ _ hm
  have bk0 := fun {W' : World} (bel : Below W.heap.size W W') => Below.trod laidOut (by kernel_rfl) (of_decide_eq_true (by kernel_rfl)) h0 bel lt0
  obtain ⟨A0, c0, l0, rfl, hl0, hC0, o0⟩ := arg_slice Try.underlying26 (tellsL Try.underlying26 (by kernel_rfl) (tellsB Try.underlying5 (by kernel_rfl))) (hval 0 26 v0 rfl rfl) h0
  have lt1 : ∀ x ∈ p1, x.block < W.heap.size := by obtain ⟨m, hm⟩ := h1; exact DataW.trod_lt m _ _ _ hm
  have bk1 := fun {W' : World} (bel : Below W.heap.size W W') => Below.trod laidOut (by kernel_rfl) (of_decide_eq_true (by kernel_rfl)) h1 bel lt1
  obtain ⟨a1, rfl, _, _, o1⟩ := open_string Try.underlying9 (hval 1 9 v1 rfl rfl) h1
  unfold maxLen at o1
  obtain ⟨k, hk⟩ := Pure.FnExactMakeCap l0 a1 o0 o1
  refine (laws_FnExactMakeCap.calls k _ _ l0 a1 true W hC0 hl0 hk).mono fun e W' hpost => ?_
  obtain ⟨he, hb⟩ := hpost
  have bel : Below W.heap.size W W' := hb
  subst he
  exact ⟨_, rfl, _, _, _, [], _, [], hW', trodAll_mk1 (shut_bool Try.underlying4 _), (trodAll_cons_mk (bk0 bel) (trodAll_cons_mk (bk1 bel) trodAll_mk0)), rfl, bel.frame _, fun h => by cases h⟩
theorem over : Rows.fnExactMakeCapRow.holds Try.pinned (OpenSpec.ofChange Rows.fnExactMakeCapSpec) :=
  OpenClaim.holds_of_wide 9 Try.f9 rfl rfl rfl rfl rfl rfl rfl ⟨rfl, rfl, rfl, rfl, rfl⟩ rfl rfl rfl rfl rfl (by kernel_rfl) Try.func9 (by kernel_rfl)
    (of_decide_eq_true (by kernel_rfl)) (by unfold Func.isWrapper; first | (rw [if_pos (by decide +kernel)]; kernel_rfl) | (rw [if_neg (by decide +kernel)]; exact ⟨rfl, rfl⟩))
    (fun os started H enc _ => lifted os started H enc)
theorem proved : Rows.FnExactMakeCapSaid := over
#print axioms proved
end Go.Proofs.Ytgolcojhnklfdaa.fnExactMakeCap
namespace Go.Proofs.Ytgolcojhnklfdaa
/-- The row, under a short name, for the claim. -/
theorem fnExactMakeCap_holds : Rows.FnExactMakeCapSaid := fnExactMakeCap.proved
end Go.Proofs.Ytgolcojhnklfdaa
