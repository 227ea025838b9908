/- The law FnArmored: whatever the input, the call returns true and the arguments read as before. No conditions. -/
import Derived.Test.YtccbjchlcelkgaaRead
import Derived.Test.YtccbjchlcelkgaaPr4
import Derived.Test.YtccbjchlcelkgaaParmor
import Derived.Test.YtccbjchlcelkgaaHarmor
import Derived.Test.YtccbjchlcelkgaaPr18
import Derived.Test.YtccbjchlcelkgaaPr66
import Derived.Test.YtccbjchlcelkgaaPr21
import Derived.Test.YtccbjchlcelkgaaPr17
import Derived.Test.YtccbjchlcelkgaaPbytes
import Derived.Test.YtccbjchlcelkgaaPrcur
import Derived.Test.YtccbjchlcelkgaaPr54
import Derived.Test.YtccbjchlcelkgaaPr68
import Derived.Test.YtccbjchlcelkgaaHdigest
import Derived.Test.YtccbjchlcelkgaaPr65
import Derived.Test.YtccbjchlcelkgaaPr55
import Derived.Test.YtccbjchlcelkgaaPr75
import Derived.Test.YtccbjchlcelkgaaPr64
import Derived.Test.YtccbjchlcelkgaaPr59
import Derived.Test.YtccbjchlcelkgaaRows
import Derived.WalkKit
import Derived.ProofKit
import Derived.OpenShut
import Derived.ShutString
import Derived.ChangeOld
import Derived.Below
/- The pure statement of the law FnArmored. -/
namespace Go.Proofs.Ytccbjchlcelkgaa.Pr
open Go.RowKit Go.Proofs.Ytccbjchlcelkgaa.Read Go.Proofs.YtccbjchlcelkgaaW.PrintWords
set_option linter.unusedVariables false
/-- What is left of the law FnArmored: a statement about numbers and lists. -/
def laws_FnArmored.Pure : Prop := ∀ (l0 : (List Int)), (okL okB) l0 → ∃ k, laws_FnArmored.f k l0 = some true
end Go.Proofs.Ytccbjchlcelkgaa.Pr
/- Armour read: the bits that letters tell, the bytes of these; both readings tell the same; what was armoured comes back. Plain facts. -/
namespace Go.Proofs.Ytccbjchlcelkgaa.Pr
open Go.RowKit Go.Proofs.Ytccbjchlcelkgaa.Read Go.Proofs.YtccbjchlcelkgaaW.PrintWords
set_option linter.unusedVariables false
theorem Ev.upU {α : Type} {g : Nat → Option α} {r : α} (h : Ev (fun k => g (k + 1)) r) : Ev g r := by
  obtain ⟨n, h⟩ := h
  refine ⟨n + 1, fun k hk => ?_⟩
  obtain ⟨k, rfl⟩ : ∃ m, k = m + 1 := ⟨k - 1, by omega⟩
  exact h k (by omega)
/-- Where a byte stands among the letters; -1: nowhere. -/
def li (b : Int) : Int := Lib.indexByte lettersB.data.toList b.toNat.toUInt8
theorem li_fin : ∀ b : Fin 256, -1 ≤ li ((b.val : Nat) : Int) ∧ li ((b.val : Nat) : Int) < 32 := by decide +kernel
theorem li_rng {b : Int} (h0 : 0 ≤ b) (h1 : b ≤ 255) : -1 ≤ li b ∧ li b < 32 := by
  obtain ⟨m, rfl⟩ := Int.eq_ofNat_of_zero_le h0
  exact li_fin ⟨m, by omega⟩
theorem li_let : ∀ n : Fin 32, li ((letU ((n.val : Nat) : Int)).toNat : Int) = ((n.val : Nat) : Int) := by decide +kernel
/-- The last letter from k on that is b. -/
def lastL (b : Int) : Nat → Int → Int → Int
  | 0, _, v => v
  | d + 1, k, v => lastL b d (k + 1) (if bt lettersB k = b then k else v)
theorem last_fin : ∀ b : Fin 256, lastL ((b.val : Nat) : Int) 32 0 (-1) = li ((b.val : Nat) : Int) := by decide +kernel
theorem last_li {b : Int} (h0 : 0 ≤ b) (h1 : b ≤ 255) : lastL b 32 0 (-1) = li b := by
  obtain ⟨m, rfl⟩ := Int.eq_ofNat_of_zero_le h0
  exact last_fin ⟨m, by omega⟩
/-- The number that n bits from i on tell. -/
def gval (f : Nat → Int) (i : Nat) : Nat → Int
  | 0 => 0
  | n + 1 => 2 * gval f i n + f (i + n)
theorem gval_congr {f g : Nat → Int} {i : Nat} : ∀ {n : Nat}, (∀ j, j < n → f (i + j) = g (i + j)) → gval f i n = gval g i n
  | 0, _ => rfl
  | n + 1, h => by rw [gval, gval, gval_congr (fun j hj => h j (by omega)), h n (by omega)]
theorem gval_val (data : List Int) (i : Nat) : ∀ n, gval (bitv data) i n = val data i n
  | 0 => rfl
  | n + 1 => by rw [gval, val, gval_val data i n]
theorem gval_range {f : Nat → Int} (hf : ∀ p, 0 ≤ f p ∧ f p ≤ 1) (i : Nat) : ∀ n, 0 ≤ gval f i n ∧ gval f i n < 2 ^ n
  | 0 => by simp [gval]
  | n + 1 => by
    have h := gval_range hf i n
    have hb := hf (i + n)
    rw [gval, Int.pow_succ]
    omega
theorem gval_add (f : Nat → Int) (i n : Nat) : ∀ m, gval f i (n + m) = gval f i n * 2 ^ m + gval f (i + n) m
  | 0 => by simp [gval]
  | m + 1 => by
    rw [show n + (m + 1) = (n + m) + 1 by omega, gval, gval_add f i n m, gval, Int.pow_succ, Nat.add_assoc, Int.mul_add, Int.add_assoc]
    congr 1
    rw [← Int.mul_assoc, Int.mul_comm 2, Int.mul_assoc, Int.mul_comm 2]
theorem gval_split {f : Nat → Int} (hf : ∀ p, 0 ≤ f p ∧ f p ≤ 1) (i n m : Nat) : gval f i (n + m) / 2 ^ m = gval f i n ∧ gval f i (n + m) % 2 ^ m = gval f (i + n) m := by
  have h := gval_range hf (i + n) m
  have hp : (0 : Int) < 2 ^ m := Int.pow_pos (by decide)
  rw [gval_add, Int.add_comm]
  constructor
  · rw [Int.add_mul_ediv_right _ _ (by omega), Int.ediv_eq_zero_of_lt h.1 h.2, Int.zero_add]
  · rw [Int.add_mul_emod_self_right, Int.emod_eq_of_lt h.1 h.2]
theorem gval_zero {f : Nat → Int} {i : Nat} : ∀ {n : Nat}, (∀ j, j < n → f (i + j) = 0) → gval f i n = 0
  | 0, _ => rfl
  | n + 1, h => by rw [gval, gval_zero (fun j hj => h j (by omega)), h n (by omega)]; rfl
/-- The number of the letter at i. -/
def tv (s : ByteArray) (i : Nat) : Int := li (bt s (i : Int))
/-- The bit p of a text of letters. -/
def tb (s : ByteArray) (p : Nat) : Int := tv s (p / 5) / 2 ^ (4 - p % 5) % 2
theorem tb_range (s : ByteArray) (p : Nat) : 0 ≤ tb s p ∧ tb s p ≤ 1 := by unfold tb; omega
theorem tv_rng (s : ByteArray) (i : Nat) : -1 ≤ tv s i ∧ tv s i < 32 := li_rng (bt_range s i).1 (bt_range s i).2
theorem tb_letter (s : ByteArray) (i : Nat) (h : 0 ≤ tv s i) : gval (tb s) (5 * i) 5 = tv s i := by
  have h2 := (tv_rng s i).2
  have e : ∀ j, j < 5 → tb s (5 * i + j) = tv s i / 2 ^ (4 - j) % 2 := fun j hj => by
    unfold tb
    rw [show (5 * i + j) / 5 = i by omega, show (5 * i + j) % 5 = j by omega]
  simp only [gval, e 0 (by omega), e 1 (by omega), e 2 (by omega), e 3 (by omega), e 4 (by omega)]
  simp only [show (4 - 0 : Nat) = 4 from rfl, show (4 - 1 : Nat) = 3 from rfl, show (4 - 2 : Nat) = 2 from rfl, show (4 - 3 : Nat) = 1 from rfl, show (4 - 4 : Nat) = 0 from rfl]
  omega
/-- The first n bytes that a text tells. -/
def decN (s : ByteArray) (n : Nat) : List Int := (List.range n).map fun m => gval (tb s) (8 * m) 8
theorem decN_len (s : ByteArray) (n : Nat) : (decN s n).length = n := by simp [decN]
theorem decN_succ (s : ByteArray) (n : Nat) : decN s (n + 1) = decN s n ++ [gval (tb s) (8 * n) 8] := by simp [decN, List.range_succ]
theorem decN_bytes (s : ByteArray) (n : Nat) : isBytes (decN s n) := by
  intro x hx
  obtain ⟨m, hm, rfl⟩ := List.mem_map.1 hx
  have := gval_range (tb_range s) (8 * m) 8
  omega
def lenT (s : ByteArray) : Nat := 5 * s.size / 8
def goodT (s : ByteArray) : Prop := ∀ i, i < s.size → 0 ≤ tv s i
instance (s : ByteArray) : Decidable (goodT s) := by unfold goodT; infer_instance
def unarmL (s : ByteArray) : List Int × Bool := if goodT s ∧ lenT s ≤ 20000 ∧ armB (decN s (lenT s)) = s then (decN s (lenT s), true) else ([], false)
theorem unarm_big {s : ByteArray} (h : 20000 < lenT s) : unarmL s = ([], false) := if_neg (fun g => by have := g.2.1; omega)
theorem unarm_bad {s : ByteArray} {i : Nat} (hi : i < s.size) (h : tv s i < 0) : unarmL s = ([], false) := if_neg (fun g => by have := g.1 i hi; omega)
/-- What was armoured comes back. -/
theorem unarm_arm (d : List Int) (hb : isBytes d) (hl : d.length ≤ 20000) : unarmL (armB d) = (d, true) := by
  have hsz : (armB d).size = armN d := by
    show (armU d (armN d)).toArray.size = _
    rw [List.size_toArray, armU_len]
  have hN : armN d = (8 * d.length + 4) / 5 := rfl
  have hrd : ∀ n i, i < n → (armU d n).getD i 0 = letU (val d (5 * i) 5) := by
    intro n
    induction n with
    | zero => intro i h; omega
    | succ n ih =>
      intro i h
      rw [armU, List.getD_eq_getElem?_getD]
      by_cases h2 : i < n
      · rw [List.getElem?_append_left (by rw [armU_len]; exact h2), ← List.getD_eq_getElem?_getD]
        exact ih i h2
      · obtain rfl : i = n := by omega
        rw [List.getElem?_append_right (by rw [armU_len]; omega), armU_len]
        simp
  have hbt : ∀ i, i < armN d → bt (armB d) (i : Int) = ((letU (val d (5 * i) 5)).toNat : Int) := by
    intro i hi
    unfold bt
    simp only [Int.toNat_natCast]
    rw [dif_pos (by rw [hsz]; exact hi)]
    have := hrd (armN d) i hi
    rw [List.getD_eq_getElem?_getD, List.getElem?_eq_getElem (by rw [armU_len]; exact hi)] at this
    rw [← this]
    rfl
  have htv : ∀ i, i < armN d → tv (armB d) i = val d (5 * i) 5 := by
    intro i hi
    have hv := val_range d (5 * i) 5
    obtain ⟨m, hm⟩ := Int.eq_ofNat_of_zero_le hv.1
    unfold tv
    rw [hbt i hi, hm]
    exact li_let ⟨m, by omega⟩
  have hlen : lenT (armB d) = d.length := by unfold lenT; rw [hsz]; omega
  have htb : ∀ p, p < 8 * d.length → tb (armB d) p = bitv d p := by
    intro p hp
    obtain ⟨q, r, hr, rfl⟩ : ∃ q r, r < 5 ∧ p = 5 * q + r := ⟨p / 5, p % 5, by omega, by omega⟩
    unfold tb
    rw [show (5 * q + r) / 5 = q by omega, show (5 * q + r) % 5 = r by omega, htv q (by omega)]
    have h := (val_split d (5 * q) (r + 1) (4 - r)).1
    rw [show r + 1 + (4 - r) = 5 by omega] at h
    rw [h, val]
    have := bitv_range d (5 * q + r)
    omega
  have hdec : decN (armB d) d.length = d := by
    refine list_rd_ext (by rw [decN_len]) (fun i hi => ?_)
    rw [decN_len] at hi
    rw [rd_nat (by rw [decN_len]; exact hi)]
    simp only [decN, List.getElem_map, List.getElem_range]
    rw [← val_byte d hb i hi, ← gval_val]
    exact gval_congr (fun j hj => htb _ (by omega))
  have hg : goodT (armB d) := fun i hi => by rw [htv i (by omega)]; exact (val_range d (5 * i) 5).1
  unfold unarmL
  rw [hlen, hdec, if_pos ⟨hg, hl, rfl⟩]
end Go.Proofs.Ytccbjchlcelkgaa.Pr
/- Armour read, by the program and by the reference: both tell the same. Plain facts. -/
namespace Go.Proofs.Ytccbjchlcelkgaa.Pr
open Go.RowKit Go.Proofs.Ytccbjchlcelkgaa.Read Go.Proofs.YtccbjchlcelkgaaW.PrintWords
set_option linter.unusedVariables false
theorem same_txt {a b : ByteArray} : a.toList = b.toList ↔ a = b := by
  constructor
  · intro h
    rw [ByteArray.toList_eq, ByteArray.toList_eq] at h
    exact ByteArray.ext (Array.ext' h)
  · rintro rfl; rfl
theorem gbits_or (v t : Int) (h0 : 0 ≤ v) (h1 : v < 4096) (t0 : 0 ≤ t) (t1 : t < 32) : Go.bits .or .i64 (wrap64 (v * 32)) t = v * 32 + t := by
  rw [show wrap64 (v * 32) = v * 32 from w64 (by omega) (by omega)]
  exact Go.bits_join .i64 40 (by decide) i64_small 5 _ _ (by omega) (by omega) (by omega) t0 (by omega) (by omega)
theorem mask_fin : ∀ b : Fin 16, wrap64 ((shl .i64 1 ((b.val : Nat) : Int)) - 1) = 2 ^ b.val - 1 := by decide +kernel
theorem pow_small {n : Nat} (h : n ≤ 13) : (2 : Int) ^ n ≤ 8192 := by
  have h2 : (2 : Nat) ^ n ≤ 8192 := Nat.pow_le_pow_right (show 0 < 2 by decide) h
  have h3 : ((2 ^ n : Nat) : Int) ≤ ((8192 : Nat) : Int) := Int.ofNat_le.2 h2
  rw [Int.natCast_pow] at h3
  exact h3
theorem and_mask (x : Int) (b : Nat) (hb : b < 16) (h0 : 0 ≤ x) (h1 : x < 2 ^ 20) : Go.bits .and .i64 x (wrap64 ((shl .i64 1 (b : Int)) - 1)) = x % 2 ^ b := by
  rw [show (b : Int) = (((⟨b, hb⟩ : Fin 16).val : Nat) : Int) from rfl, mask_fin ⟨b, hb⟩]
  exact Go.bits_mask .i64 40 (by decide) i64_small b (by omega) _ h0 (by omega)
theorem iUn_l0 (s : ByteArray) (hs : s.size ≤ 100000) (q : Nat) : ∀ (i st b : Nat), i + q = s.size → b < 8 → 5 * i = 8 * st + b → (∀ j, j < i → 0 ≤ tv s j) → Ev (fun k => impl_Unarmor.l0 k s (decN s st) (gval (tb s) (8 * st) b) (b : Int) (s.size : Int) (i : Int)) (unarmL s) := by
  induction q with
  | zero =>
    intro i st b hi hb he hg
    refine Ev.upU ?_
    obtain rfl : st = lenT s := by unfold lenT; omega
    have hgood : goodT s := fun j hj => hg j (by omega)
    simp only [impl_Unarmor.l0, if_neg (show ¬ ((i : Int) < (s.size : Int)) by omega), decN_len]
    by_cases hl : (lenT s : Int) > 20000
    · rw [unarm_big (by omega)]
      simp only [if_pos hl]; exact Ev.now _
    simp only [if_neg hl, impl_Armor.f, if_pos (decN_bytes s (lenT s)), decN_len, Option.bind_some]
    by_cases ha : armB (decN s (lenT s)) = s
    · rw [show unarmL s = (decN s (lenT s), true) from if_pos ⟨hgood, by omega, ha⟩]
      simp only [ha, if_true]; exact Ev.now _
    · rw [show unarmL s = ([], false) from if_neg (fun g => ha g.2.2)]
      simp only [if_neg (fun e => ha (same_txt.1 e))]; exact Ev.now _
  | succ q ih =>
    intro i st b hi hb he hg
    refine Ev.upU ?_
    have hwi : wrap64 ((i : Int) + 1) = ((i + 1 : Nat) : Int) := by rw [w64 (by omega) (by omega)]; rfl
    have HWI := Aside0.mk hwi
    clear hwi
    have etv : strings_IndexByte.f (⟨#[48, 49, 50, 51, 52, 53, 54, 55, 56, 57, 97, 98, 99, 100, 101, 102, 103, 104, 105, 106, 107, 108, 109, 110, 111, 112, 113, 114, 115, 116, 117, 118]⟩ : ByteArray) (bt s (i : Int)) = some (tv s i) := rfl
    simp only [impl_Unarmor.l0, if_pos (show (i : Int) < (s.size : Int) by omega), if_pos (show (0 : Int) ≤ (i : Int) by omega), etv, Option.bind_some]
    by_cases ht : tv s i < 0
    · rw [unarm_bad (by omega) ht]
      simp only [if_pos ht]; exact Ev.now _
    have htr := tv_rng s i
    have hlet := tb_letter s i (by omega)
    have hr := gval_range (tb_range s) (8 * st) b
    have hp : (2 : Int) ^ b ≤ 8192 := pow_small (by omega)
    have hp7 : (2 : Int) ^ b ≤ 128 := by
      have := Nat.pow_le_pow_right (show 0 < 2 by decide) (show b ≤ 7 by omega)
      exact_mod_cast this
    have eor : Go.bits .or .i64 (wrap64 (gval (tb s) (8 * st) b * 32)) (tv s i) = gval (tb s) (8 * st) (b + 5) := by
      rw [gbits_or _ _ hr.1 (by omega) (by omega) htr.2, gval_add, show 8 * st + b = 5 * i by omega, hlet]
      rfl
    have hr5 := gval_range (tb_range s) (8 * st) (b + 5)
    have hp5 : (2 : Int) ^ (b + 5) ≤ 8192 := pow_small (by omega)
    have w5 : wrap64 ((b : Int) + 5) = ((b + 5 : Nat) : Int) := by rw [w64 (by omega) (by omega)]; rfl
    have hg2 : ∀ j, j < i + 1 → 0 ≤ tv s j := fun j hj => by
      by_cases h : j < i
      · exact hg j h
      · obtain rfl : j = i := by omega
        omega
    have hlen : (decN s st).length < 140737488355328 := by rw [decN_len]; omega
    rw [w5, eor, HWI.out]
    simp only [if_neg ht]
    by_cases h8 : ((b + 5 : Nat) : Int) ≥ 8
    · have w8 : wrap64 (((b + 5 : Nat) : Int) - 8) = ((b - 3 : Nat) : Int) := by rw [w64 (by omega) (by omega)]; omega
      rw [w8]
      simp only [if_pos h8, if_pos (show (0 : Int) ≤ ((b - 3 : Nat) : Int) by omega), if_pos hlen]
      have hsp := gval_split (tb_range s) (8 * st) 8 (b - 3)
      rw [show 8 + (b - 3) = b + 5 by omega] at hsp
      have h8r := gval_range (tb_range s) (8 * st) 8
      have esh : shr .i64 (gval (tb s) (8 * st) (b + 5)) ((b - 3 : Nat) : Int) = gval (tb s) (8 * st) 8 := by
        rw [← hsp.1]
        obtain ⟨x, hx⟩ := Int.eq_ofNat_of_zero_le hr5.1
        rw [hx, shr_natc _ _ (by omega)]
        simp
      rw [esh, and_mask _ (b - 3) (by omega) hr5.1 (by omega), hsp.2, show 8 * st + 8 = 8 * (st + 1) by omega, Int.emod_eq_of_lt h8r.1 (by omega), ← decN_succ]
      exact ih (i + 1) (st + 1) (b - 3) (by omega) (by omega) (by omega) hg2
    · simp only [if_neg h8, if_pos (show (0 : Int) ≤ ((b + 5 : Nat) : Int) by omega)]
      rw [and_mask _ (b + 5) (by omega) hr5.1 (by omega), Int.emod_eq_of_lt hr5.1 hr5.2]
      exact ih (i + 1) st (b + 5) (by omega) (by omega) (by omega) hg2
theorem implUnarmor_ev (s : ByteArray) : Ev (fun k => impl_Unarmor.f k s) (unarmL s) := by
  simp only [impl_Unarmor.f]
  by_cases h : (s.size : Int) > 32008
  · rw [unarm_big (by unfold lenT; omega)]
    simp only [if_pos h]; exact Ev.now _
  · simp only [if_neg h]
    exact iUn_l0 s (by omega) s.size 0 0 0 (by omega) (by omega) (by omega) (fun j hj => by omega)
/-! The reference's reading. -/
/-- The bits below p. -/
def cut (f : Nat → Int) (p q : Nat) : Int := if q < p then f q else 0
theorem cut_range {f : Nat → Int} (hf : ∀ p, 0 ≤ f p ∧ f p ≤ 1) (p q : Nat) : 0 ≤ cut f p q ∧ cut f p q ≤ 1 := by
  unfold cut
  split
  · exact hf q
  · omega
def partL (s : ByteArray) (L p : Nat) : List Int := (List.range L).map fun m => gval (cut (tb s) p) (8 * m) 8
theorem partL_len (s : ByteArray) (L p : Nat) : (partL s L p).length = L := by simp [partL]
theorem partL_rd (s : ByteArray) (L p m : Nat) (h : m < L) : rd (partL s L p) (m : Int) = gval (cut (tb s) p) (8 * m) 8 := by
  rw [rd_nat (by rw [partL_len]; exact h)]
  simp [partL]
theorem partL_zero (s : ByteArray) (L : Nat) : partL s L 0 = List.replicate L 0 := by
  refine list_rd_ext (by simp [partL_len]) (fun i hi => ?_)
  rw [partL_len] at hi
  rw [partL_rd s L 0 i hi, rd_nat (by simpa using hi), gval_zero (fun j _ => by simp [cut])]
  simp
theorem partL_end (s : ByteArray) (L p : Nat) (h : 8 * L ≤ p) : partL s L p = decN s L := by
  refine list_rd_ext (by rw [partL_len, decN_len]) (fun i hi => ?_)
  rw [partL_len] at hi
  rw [partL_rd s L p i hi, rd_nat (by rw [decN_len]; exact hi)]
  simp only [decN, List.getElem_map, List.getElem_range]
  exact gval_congr (fun j hj => if_pos (by omega))
theorem partL_past (s : ByteArray) (L p : Nat) (h : 8 * L ≤ p) : partL s L (p + 1) = partL s L p := by rw [partL_end s L p h, partL_end s L (p + 1) (by omega)]
theorem cut_other (f : Nat → Int) (p m : Nat) (h : p / 8 ≠ m) : gval (cut f (p + 1)) (8 * m) 8 = gval (cut f p) (8 * m) 8 := by
  refine gval_congr (fun j hj => ?_)
  unfold cut
  by_cases h2 : 8 * m + j < p
  · rw [if_pos h2, if_pos (by omega)]
  · rw [if_neg h2, if_neg (by omega)]
theorem cut_own (f : Nat → Int) (p : Nat) : ∃ G : Int, gval (cut f p) (8 * (p / 8)) 8 = G * 2 ^ (8 - p % 8) ∧ gval (cut f (p + 1)) (8 * (p / 8)) 8 = G * 2 ^ (8 - p % 8) + f p * 2 ^ (7 - p % 8) := by
  obtain ⟨m, a, ha, rfl⟩ : ∃ m a, a < 8 ∧ p = 8 * m + a := ⟨p / 8, p % 8, by omega, by omega⟩
  rw [show (8 * m + a) / 8 = m by omega, show (8 * m + a) % 8 = a by omega]
  refine ⟨gval f (8 * m) a, ?_, ?_⟩
  · have h := gval_add (cut f (8 * m + a)) (8 * m) a (8 - a)
    rw [show a + (8 - a) = 8 by omega] at h
    rw [h, gval_congr (g := f) (fun j hj => if_pos (by omega)), gval_zero (i := 8 * m + a) (fun j hj => if_neg (by omega)), Int.add_zero]
  · have h := gval_add (cut f (8 * m + a + 1)) (8 * m) a (8 - a)
    rw [show a + (8 - a) = 8 by omega] at h
    have h2 := gval_add (cut f (8 * m + a + 1)) (8 * m + a) 1 (7 - a)
    rw [show 1 + (7 - a) = 8 - a by omega, gval_zero (i := 8 * m + a + 1) (fun j hj => if_neg (by omega)), Int.add_zero] at h2
    rw [h, h2, gval_congr (i := 8 * m) (g := f) (fun j hj => if_pos (by omega))]
    congr 2
    show 2 * 0 + cut f (8 * m + a + 1) (8 * m + a + 0) = f (8 * m + a)
    unfold cut
    rw [if_pos (by omega)]
    simp
theorem or_fin : ∀ x : Fin 256, ∀ a : Fin 8, x.val % 2 ^ (8 - a.val) = 0 → Go.bits .or .u8 ((x.val : Nat) : Int) (shl .u8 1 (((7 - a.val : Nat) : Nat) : Int)) = ((x.val : Nat) : Int) + 2 ^ (7 - a.val) := by decide +kernel
theorem partL_set (s : ByteArray) (L p : Nat) (h : p < 8 * L) (h1 : tb s p = 1) : (partL s L p).set (p / 8) (Go.bits .or .u8 (rd (partL s L p) ((p / 8 : Nat) : Int)) (shl .u8 1 ((7 - p % 8 : Nat) : Int))) = partL s L (p + 1) := by
  have hm : p / 8 < L := by omega
  obtain ⟨G, e1, e2⟩ := cut_own (tb s) p
  have hr := gval_range (cut_range (tb_range s) p) (8 * (p / 8)) 8
  rw [partL_rd s L p _ hm]
  have hor : Go.bits .or .u8 (gval (cut (tb s) p) (8 * (p / 8)) 8) (shl .u8 1 ((7 - p % 8 : Nat) : Int)) = gval (cut (tb s) (p + 1)) (8 * (p / 8)) 8 := by
    rw [e2, h1, Int.one_mul, ← e1]
    obtain ⟨x, hx⟩ := Int.eq_ofNat_of_zero_le hr.1
    have hx256 : x < 256 := by have := hr.2; omega
    rw [hx] at e1 ⊢
    refine or_fin ⟨x, hx256⟩ ⟨p % 8, by omega⟩ ?_
    show x % 2 ^ (8 - p % 8) = 0
    have : (x : Int) % 2 ^ (8 - p % 8) = 0 := by rw [e1]; exact Int.mul_emod_left _ _
    exact_mod_cast this
  rw [hor]
  refine list_rd_ext (by simp [partL_len]) (fun i hi => ?_)
  simp only [List.length_set, partL_len] at hi
  rw [partL_rd s L (p + 1) i hi, rd_nat (by simpa [partL_len] using hi), List.getElem_set]
  split
  · rename_i hh; rw [← hh]
  · rename_i hh
    rw [cut_other (tb s) p i hh, ← partL_rd s L p i hi, rd_nat (by rw [partL_len]; exact hi)]
theorem partL_skip (s : ByteArray) (L p : Nat) (h1 : tb s p = 0) : partL s L (p + 1) = partL s L p := by
  refine list_rd_ext (by rw [partL_len, partL_len]) (fun i hi => ?_)
  rw [partL_len] at hi
  rw [partL_rd s L (p + 1) i hi, partL_rd s L p i hi]
  by_cases hh : p / 8 = i
  · obtain ⟨G, e1, e2⟩ := cut_own (tb s) p
    rw [← hh, e1, e2, h1, Int.zero_mul, Int.add_zero]
  · exact cut_other (tb s) p i hh
theorem bit5_fin : ∀ v : Fin 32, ∀ r : Fin 5, Go.bits .and .i64 (shr .i64 ((v.val : Nat) : Int) (IntKind.u64.wrap (wrap64 (4 - ((r.val : Nat) : Int))))) 1 = ((v.val : Nat) : Int) / 2 ^ (4 - r.val) % 2 := by decide +kernel
theorem sUn_l2 (s : ByteArray) (hs : s.size ≤ 100000) (L : Nat) (hL : L ≤ 100000) (i : Nat) (hi : i < s.size) (h0 : 0 ≤ tv s i) (R : List Int × Bool) (hn : Ev (fun k => spec_l2Unarmor.l0 k s (partL s L (5 * (i + 1))) ((i + 1 : Nat) : Int)) R) (d : Nat) : ∀ r : Nat, r + d = 5 → Ev (fun k => spec_l2Unarmor.l2 k s (partL s L (5 * i + r)) (i : Int) (tv s i) (r : Int)) R := by
  induction d with
  | zero =>
    intro r hr
    obtain rfl : r = 5 := by omega
    refine Ev.upU ?_
    have hwi : wrap64 ((i : Int) + 1) = ((i + 1 : Nat) : Int) := by rw [w64 (by omega) (by omega)]; rfl
    simp only [spec_l2Unarmor.l2, if_neg (show ¬ (((5 : Nat) : Int) < 5) by omega), hwi]
    exact hn
  | succ d ih =>
    intro r hr
    refine Ev.upU ?_
    have hnext := ih (r + 1) (by omega)
    rw [← Nat.add_assoc] at hnext
    have w1 : wrap64 ((i : Int) * 5) = ((5 * i : Nat) : Int) := by rw [w64 (by omega) (by omega)]; omega
    have w2 : wrap64 (((5 * i : Nat) : Int) + (r : Int)) = ((5 * i + r : Nat) : Int) := by rw [w64 (by omega) (by omega)]; rfl
    have w3 : wrap64 ((L : Int) * 8) = ((8 * L : Nat) : Int) := by rw [w64 (by omega) (by omega)]; omega
    have w4 : wrap64 ((r : Int) + 1) = ((r + 1 : Nat) : Int) := by rw [w64 (by omega) (by omega)]; rfl
    have w5 : IntKind.u64.wrap (wrap64 (4 - (r : Int))) = ((4 - r : Nat) : Int) := by rw [show wrap64 (4 - (r : Int)) = ((4 - r : Nat) : Int) by rw [w64 (by omega) (by omega)]; omega]; exact IntWalk.u64_in _ (by omega)
    have et : wrap64 (Int.tdiv ((5 * i + r : Nat) : Int) 8) = (((5 * i + r) / 8 : Nat) : Int) := by
      rw [Int.tdiv_eq_ediv_of_nonneg (by omega), w64 (by omega) (by omega)]; omega
    have em : Int.tmod ((5 * i + r : Nat) : Int) 8 = (((5 * i + r) % 8 : Nat) : Int) := by
      rw [Int.tmod_eq_emod_of_nonneg (by omega)]; omega
    have e7 : IntKind.u64.wrap (wrap64 (7 - (((5 * i + r) % 8 : Nat) : Int))) = ((7 - (5 * i + r) % 8 : Nat) : Int) := by
      rw [show wrap64 (7 - (((5 * i + r) % 8 : Nat) : Int)) = ((7 - (5 * i + r) % 8 : Nat) : Int) by rw [w64 (by omega) (by omega)]; omega]; exact IntWalk.u64_in _ (by omega)
    obtain ⟨v, hv⟩ := Int.eq_ofNat_of_zero_le h0
    have hv32 := (tv_rng s i).2
    have hbit : Go.bits .and .i64 (shr .i64 (tv s i) (IntKind.u64.wrap (wrap64 (4 - (r : Int))))) 1 = tb s (5 * i + r) := by
      unfold tb
      rw [show (5 * i + r) / 5 = i by omega, show (5 * i + r) % 5 = r by omega, hv]
      exact bit5_fin ⟨v, by omega⟩ ⟨r, by omega⟩
    rw [w5] at hbit
    have hr5 : (r : Int) < 5 := by omega
    have W := Aside0.mk (And.intro w1 (And.intro w2 (And.intro w3 (And.intro w4 (And.intro w5 (And.intro et (And.intro em e7)))))))
    clear w1 w2 w3 w4 w5 et em e7
    obtain ⟨w1, w2, w3, w4, w5, et, em, e7⟩ := W.out
    simp only [spec_l2Unarmor.l2, if_pos hr5, w1, w2, w3, w4, w5, partL_len]
    by_cases hin : ((5 * i + r : Nat) : Int) < ((8 * L : Nat) : Int)
    · have hb := tb_range s (5 * i + r)
      simp only [if_pos hin, if_pos (show (0 : Int) ≤ ((4 - r : Nat) : Int) by exact Int.natCast_nonneg _), hbit]
      by_cases h1 : tb s (5 * i + r) = 1
      · have hlt : (((5 * i + r) / 8 : Nat) : Int) < (L : Int) := by clear w1 w2 w3 w4 w5 et em e7 W; omega
        simp only [if_pos h1, et, em, e7, if_pos (Int.natCast_nonneg ((5 * i + r) / 8)), if_pos hlt, if_pos (Int.natCast_nonneg (7 - (5 * i + r) % 8)), Int.toNat_natCast]
        rw [partL_set s L (5 * i + r) (by clear w1 w2 w3 w4 w5 et em e7 W; omega) h1]
        exact hnext
      · have h10 : tb s (5 * i + r) = 0 := by clear w1 w2 w3 w4 w5 et em e7 W; omega
        simp only [if_neg h1]
        rw [partL_skip s L (5 * i + r) h10] at hnext
        exact hnext
    · simp only [if_neg hin]
      rw [partL_past s L (5 * i + r) (by clear w1 w2 w3 w4 w5 et em e7 W; omega)] at hnext
      exact hnext
theorem sUn_l1 (s : ByteArray) (D : List Int) (i : Nat) (hi : i < s.size) (d : Nat) : ∀ (k : Nat) (v : Int) (R : List Int × Bool), k + d = 32 → Ev (fun f => if lastL (bt s (i : Int)) d (k : Int) v < 0 then some (([] : List Int), false) else spec_l2Unarmor.l2 f s D (i : Int) (lastL (bt s (i : Int)) d (k : Int) v) 0) R → Ev (fun f => spec_l2Unarmor.l1 f s D (i : Int) v (k : Int)) R := by
  induction d with
  | zero =>
    intro k v R hk h
    obtain rfl : k = 32 := by omega
    refine Ev.upU ?_
    simp only [spec_l2Unarmor.l1, if_neg (show ¬ (((32 : Nat) : Int) < 32) by omega)]
    exact h
  | succ d ih =>
    intro k v R hk h
    refine Ev.upU ?_
    have w1 : wrap64 ((k : Int) + 1) = ((k + 1 : Nat) : Int) := by rw [w64 (by omega) (by omega)]; rfl
    have hz : ((lettersB.size : Nat) : Int) = 32 := rfl
    simp only [spec_l2Unarmor.l1, if_pos (show (k : Int) < 32 by omega), show spec_l2Letters.f = some lettersB from rfl, Option.bind_some, hz, if_pos (show (0 : Int) ≤ (k : Int) by omega), if_pos (show (0 : Int) ≤ (i : Int) by omega), if_pos (show (i : Int) < (s.size : Int) by omega), w1]
    rw [lastL] at h
    by_cases c : bt lettersB (k : Int) = bt s (i : Int)
    · simp only [if_pos c] at h ⊢
      exact ih (k + 1) _ R (by omega) h
    · simp only [if_neg c] at h ⊢
      exact ih (k + 1) _ R (by omega) h
/-- What the reference's reading comes to. -/
def l2L (s : ByteArray) : List Int × Bool := if s.size ≤ 40000 ∧ goodT s then (decN s (lenT s), decide (lenT s ≤ 20000 ∧ armB (decN s (lenT s)) = s)) else ([], false)
theorem sUn_l0 (s : ByteArray) (hs : s.size ≤ 40000) (q : Nat) : ∀ i, i + q = s.size → (∀ j, j < i → 0 ≤ tv s j) → Ev (fun k => spec_l2Unarmor.l0 k s (partL s (lenT s) (5 * i)) (i : Int)) (l2L s) := by
  have hL : lenT s ≤ 100000 := by unfold lenT; omega
  induction q with
  | zero =>
    intro i hi hg
    refine Ev.upU ?_
    have hgood : goodT s := fun j hj => hg j (by omega)
    rw [partL_end s (lenT s) (5 * i) (by unfold lenT; omega), show l2L s = (decN s (lenT s), decide (lenT s ≤ 20000 ∧ armB (decN s (lenT s)) = s)) from if_pos ⟨hs, hgood⟩]
    simp only [spec_l2Unarmor.l0, if_neg (show ¬ ((i : Int) < (s.size : Int)) by omega), decN_len]
    by_cases hl : (lenT s : Int) ≤ 20000
    · simp only [if_pos hl]
      refine Ev.bind (specArmor_ev _ (decN_bytes s _) (by rw [decN_len]; omega)) ?_
      have e : ((armB (decN s (lenT s))).toList == s.toList) = decide (lenT s ≤ 20000 ∧ armB (decN s (lenT s)) = s) := by
        rw [Bool.eq_iff_iff, beq_iff_eq, decide_eq_true_iff]
        exact ⟨fun h => ⟨by omega, same_txt.1 h⟩, fun h => same_txt.2 h.2⟩
      rw [e]
      exact Ev.now _
    · simp only [if_neg hl]
      rw [decide_eq_false (fun h => by have := h.1; omega)]
      exact Ev.now _
  | succ q ih =>
    intro i hi hg
    refine Ev.upU ?_
    simp only [spec_l2Unarmor.l0, if_pos (show (i : Int) < (s.size : Int) by omega)]
    have hb := bt_range s (i : Int)
    refine sUn_l1 s _ i (by omega) 32 0 (-1) _ (by omega) ?_
    rw [show ((0 : Nat) : Int) = 0 from rfl, last_li hb.1 hb.2]
    by_cases ht : tv s i < 0
    · simp only [if_pos (show li (bt s (i : Int)) < 0 from ht)]
      rw [show l2L s = ([], false) from if_neg (fun g => by have := g.2 i (by omega); omega)]
      exact Ev.now _
    · simp only [if_neg (show ¬ li (bt s (i : Int)) < 0 from ht)]
      have hg2 : ∀ j, j < i + 1 → 0 ≤ tv s j := fun j hj => by
        by_cases h : j < i
        · exact hg j h
        · obtain rfl : j = i := by omega
          omega
      exact sUn_l2 s (by omega) (lenT s) hL i (by omega) (by omega) _ (ih (i + 1) (by omega) hg2) 5 0 (by omega)
theorem specL2_ev (s : ByteArray) : Ev (fun k => spec_l2Unarmor.f k s) (l2L s) := by
  simp only [spec_l2Unarmor.f]
  by_cases h : (s.size : Int) > 40000
  · rw [show l2L s = ([], false) from if_neg (fun g => by have := g.1; omega)]
    simp only [if_pos h]; exact Ev.now _
  · have e : wrap64 (Int.tdiv (wrap64 ((s.size : Int) * 5)) 8) = ((lenT s : Nat) : Int) := by
      rw [show wrap64 ((s.size : Int) * 5) = ((5 * s.size : Nat) : Int) by rw [w64 (by omega) (by omega)]; omega, Int.tdiv_eq_ediv_of_nonneg (by omega), w64 (by omega) (by omega)]
      unfold lenT; omega
    have hl : lenT s ≤ 281474976710656 := by unfold lenT; omega
    simp only [if_neg h, e, if_pos (Int.natCast_nonneg (lenT s)), Int.toNat_natCast, if_pos hl]
    have := sUn_l0 s (by omega) s.size 0 (by omega) (fun j hj => by omega)
    rw [Nat.mul_zero, partL_zero] at this
    exact this
theorem specUnarmor_ev (s : ByteArray) : Ev (fun k => spec_Unarmor.f k s) (unarmL s) := by
  simp only [spec_Unarmor.f]
  refine Ev.bind (specL2_ev s) ?_
  by_cases h : s.size ≤ 40000 ∧ goodT s
  · rw [show l2L s = (decN s (lenT s), decide (lenT s ≤ 20000 ∧ armB (decN s (lenT s)) = s)) from if_pos h]
    by_cases h2 : lenT s ≤ 20000 ∧ armB (decN s (lenT s)) = s
    · rw [show unarmL s = (decN s (lenT s), true) from if_pos ⟨h.2, h2.1, h2.2⟩]
      simp only [decide_eq_true h2, if_true]; exact Ev.now _
    · rw [show unarmL s = ([], false) from if_neg (fun g => h2 g.2)]
      simp only [decide_eq_false h2, Bool.false_eq_true, if_false]; exact Ev.now _
  · rw [show l2L s = ([], false) from if_neg h, show unarmL s = ([], false) from if_neg (fun g => h ⟨by have := g.2.1; unfold lenT at this; omega, g.1⟩)]
    simp only [Bool.false_eq_true, if_false]; exact Ev.now _
end Go.Proofs.Ytccbjchlcelkgaa.Pr
/- The cursor that draws: each draw gives something, within its bound. -/
namespace Go.Proofs.Ytccbjchlcelkgaa.Pr
open Go.RowKit Go.Proofs.Ytccbjchlcelkgaa.Read Go.Proofs.YtccbjchlcelkgaaW.PrintWords
theorem and255 (X : Int) : 0 ≤ Go.bits .and .u64 X 255 ∧ Go.bits .and .u64 X 255 ≤ 255 := by
  have h : ((BitVec.ofInt 64 X) &&& (BitVec.ofInt 64 255)).toNat ≤ 255 := by
    rw [BitVec.toNat_and]
    exact Nat.le_trans Nat.and_le_right (by decide)
  have e : Go.bits .and .u64 X 255 = IntKind.u64.wrap ((((BitVec.ofInt 64 X) &&& (BitVec.ofInt 64 255)).toNat : Nat) : Int) := rfl
  rw [e, IntKind.wrap_u64]
  omega
theorem cur_next (s : List Int) (hs : okL okB s) (p h : Int) (h0 : 0 ≤ p) (h1 : p ≤ 1000000000000) : ∃ v h', spec_l1Cur_next.f s p h = some (v, p + 1, h') ∧ 0 ≤ v ∧ v ≤ 255 := by
  have e : wrap64 (p + 1) = p + 1 := w64 (by omega) (by omega)
  unfold spec_l1Cur_next.f
  simp only [e]
  by_cases hp : p < (s.length : Int)
  · rw [if_pos hp, if_pos h0, if_pos (by omega)]
    have hm : rd s p ∈ s := by
      have : p.toNat < s.length := by omega
      simp [rd, List.getD_eq_getElem?_getD, List.getElem?_eq_getElem this]
    have hb : 0 ≤ rd s p ∧ rd s p ≤ 255 := hs.2 _ hm
    exact ⟨_, _, rfl, by rw [w64 (by omega) (by omega)]; exact hb.1, by rw [w64 (by omega) (by omega)]; exact hb.2⟩
  · rw [if_neg hp, if_neg (by omega)]
    have hb := and255 ((IntKind.u64.wrap ((IntKind.u64.wrap (IntKind.u64.wrap (h * 6364136223846793005))) + 1442695040888963407)) / 1099511627776)
    exact ⟨_, _, rfl, by rw [w64 (by omega) (by omega)]; exact hb.1, by rw [w64 (by omega) (by omega)]; exact hb.2⟩
theorem cur_pick (s : List Int) (hs : okL okB s) (p h n : Int) (h0 : 0 ≤ p) (h1 : p ≤ 999999999999) : ∃ v p' h', spec_l1Cur_pick.f s p h n = some (v, p', h') ∧ 0 ≤ v ∧ (v < n ∨ v = 0) ∧ p ≤ p' ∧ p' ≤ p + 2 := by
  unfold spec_l1Cur_pick.f
  by_cases hn : n ≤ 1
  · rw [if_pos hn]
    exact ⟨_, _, _, rfl, by omega, .inr rfl, by omega, by omega⟩
  · rw [if_neg hn]
    obtain ⟨v, h', e, v0, v1⟩ := cur_next s hs p h h0 (by omega)
    simp only [e, Option.bind_some]
    by_cases h2 : n > 200
    · rw [if_pos h2]
      obtain ⟨v2, h2', e2, v20, v21⟩ := cur_next s hs (p + 1) h' (by omega) (by omega)
      simp only [e2, Option.bind_some, if_neg (show ¬ n = 0 by omega), w64 (show -9223372036854775808 ≤ v * 256 by omega) (show v * 256 ≤ 9223372036854775807 by omega), w64 (show -9223372036854775808 ≤ v * 256 + v2 by omega) (show v * 256 + v2 ≤ 9223372036854775807 by omega)]
      refine ⟨_, _, _, rfl, ?_, .inl ?_, by omega, by omega⟩
      · rw [Int.tmod_eq_emod_of_nonneg (by omega)]; exact Int.emod_nonneg _ (by omega)
      · rw [Int.tmod_eq_emod_of_nonneg (by omega)]; exact Int.emod_lt_of_pos _ (by omega)
    · rw [if_neg h2, if_neg (show ¬ n = 0 by omega)]
      refine ⟨_, _, _, rfl, ?_, .inl ?_, by omega, by omega⟩
      · rw [Int.tmod_eq_emod_of_nonneg (by omega)]; exact Int.emod_nonneg _ (by omega)
      · rw [Int.tmod_eq_emod_of_nonneg (by omega)]; exact Int.emod_lt_of_pos _ (by omega)
theorem cur_one (s : List Int) (hs : okL okB s) (p h n : Int) (h0 : 0 ≤ p) (h1 : p ≤ 999999999999) : ∃ b p' h', spec_l1Cur_one.f s p h n = some (b, p', h') ∧ p ≤ p' ∧ p' ≤ p + 2 := by
  obtain ⟨v, p', h', e, _, _, g1, g2⟩ := cur_pick s hs p h n h0 h1
  unfold spec_l1Cur_one.f
  simp only [e, Option.bind_some]
  exact ⟨_, _, _, rfl, g1, g2⟩
end Go.Proofs.Ytccbjchlcelkgaa.Pr
/- More draws: bytes, one of a list's texts, a rare place, a secret. -/
namespace Go.Proofs.Ytccbjchlcelkgaa.Pr
open Go.RowKit Go.Proofs.Ytccbjchlcelkgaa.Read Go.Proofs.YtccbjchlcelkgaaW.PrintWords
set_option linter.unusedVariables false
theorem bytes_l0 (s : List Int) (hs : okL okB s) (d : Nat) : ∀ (x5 : List Int) (p h : Int), 0 ≤ p → p + d ≤ 900000000000 → x5.length + d ≤ 1000000 → ∃ (L : List Int) (p' h' : Int), (∀ k, d < k → spec_l1Cur_bytes.l0 k x5 d s p h = some (x5 ++ L, p', h')) ∧ isBytes L ∧ L.length = d ∧ p ≤ p' ∧ p' ≤ p + d := by
  induction d with
  | zero =>
    intro x5 p h h0 h1 hl
    refine ⟨[], p, h, fun k hk => ?_, (by simp [isBytes]), rfl, by omega, by omega⟩
    obtain ⟨k, rfl⟩ : ∃ m, k = m + 1 := ⟨k - 1, by omega⟩
    simp only [spec_l1Cur_bytes.l0, if_neg (show ¬ (((0 : Nat) : Int) > 0) by omega), List.append_nil]
  | succ d ih =>
    intro x5 p h h0 h1 hl
    obtain ⟨v, h', e, v0, v1⟩ := cur_next s hs p h h0 (by omega)
    obtain ⟨L, p2, h2, hL, hb, hlen, g1, g2⟩ := ih (x5 ++ [v % 256]) (p + 1) h' (by omega) (by omega) (by rw [List.length_append, List.length_singleton]; omega)
    refine ⟨v % 256 :: L, p2, h2, fun k hk => ?_, ?_, by rw [List.length_cons, hlen], by omega, by omega⟩
    · obtain ⟨k, rfl⟩ : ∃ m, k = m + 1 := ⟨k - 1, by omega⟩
      have ed : wrap64 (((d + 1 : Nat) : Int) - 1) = (d : Int) := by rw [w64 (by omega) (by omega)]; omega
      simp only [spec_l1Cur_bytes.l0, if_pos (show (((d + 1 : Nat) : Int) > 0) by omega), e, Option.bind_some, if_pos (show x5.length < 140737488355328 by omega), ed]
      rw [hL k (by omega), List.append_assoc]
      rfl
    · intro x hx
      rcases List.mem_cons.1 hx with rfl | hx
      · omega
      · exact hb x hx
theorem cur_bytes (s : List Int) (hs : okL okB s) (p h : Int) (n : Nat) (hn : n ≤ 1000) (h0 : 0 ≤ p) (h1 : p ≤ 800000000000) : ∃ (L : List Int) (p' h' : Int), (∀ k, n < k → spec_l1Cur_bytes.f k s p h n = some (L, p', h')) ∧ isBytes L ∧ L.length ≤ n ∧ p ≤ p' ∧ p' ≤ p + 2 + n := by
  obtain ⟨v, p1, h1', e, v0, v1, g1, g2⟩ := cur_pick s hs p h n h0 (by omega)
  obtain ⟨m, rfl⟩ : ∃ m : Nat, v = m := ⟨v.toNat, by omega⟩
  obtain ⟨L, p2, h2, hL, hb, hlen, g3, g4⟩ := bytes_l0 s hs m [] p1 h1' (by omega) (by omega) (by simp; omega)
  refine ⟨L, p2, h2, fun k hk => ?_, hb, by omega, by omega, by omega⟩
  unfold spec_l1Cur_bytes.f
  simp only [e, Option.bind_some]
  rw [hL k (by omega)]
  rfl
theorem cur_of (s : List Int) (hs : okL okB s) (p h : Int) (l : List ByteArray) (hl : 1 ≤ l.length) (hl2 : l.length ≤ 1000000) (h0 : 0 ≤ p) (h1 : p ≤ 999999999999) : ∃ (t : ByteArray) (p' h' : Int), spec_l1Cur_of.f s p h l = some (t, p', h') ∧ p ≤ p' ∧ p' ≤ p + 2 := by
  obtain ⟨v, p1, h1', e, v0, v1, g1, g2⟩ := cur_pick s hs p h l.length h0 h1
  unfold spec_l1Cur_of.f
  simp only [e, Option.bind_some, if_pos v0, if_pos (show v < (l.length : Int) by omega)]
  exact ⟨_, _, _, rfl, g1, g2⟩
theorem cur_secret (s : List Int) (hs : okL okB s) (p h : Int) (h0 : 0 ≤ p) (h1 : p ≤ 999999999000) : ∃ (x p' h' : Int), spec_l1Cur_secret.f s p h = some (x, p', h') ∧ p ≤ p' ∧ p' ≤ p + 6 := by
  obtain ⟨b, p1, h1', e, g1, g2⟩ := cur_one s hs p h 16 h0 (by omega)
  unfold spec_l1Cur_secret.f
  simp only [e, Option.bind_some]
  cases b with
  | true =>
    obtain ⟨v, p2, h2', e2, v0, v1, g3, g4⟩ := cur_pick s hs p1 h1' 6 (by omega) (by omega)
    simp only [if_true, e2, Option.bind_some, if_pos v0, List.length_cons, List.length_nil]
    rw [if_pos (by omega)]
    exact ⟨_, _, _, rfl, by omega, by omega⟩
  | false =>
    obtain ⟨v, p2, h2', e2, v0, v1, g3, g4⟩ := cur_pick s hs p1 h1' 60000 (by omega) (by omega)
    obtain ⟨v3, p3, h3', e3, v03, v13, g5, g6⟩ := cur_pick s hs p2 h2' 60000 (by omega) (by omega)
    simp only [Bool.false_eq_true, if_false, e2, e3, Option.bind_some]
    exact ⟨_, _, _, rfl, by omega, by omega⟩
end Go.Proofs.Ytccbjchlcelkgaa.Pr
/- A drawn text, spoilt at drawn places: it comes to an end. Plain facts. -/
namespace Go.Proofs.Ytccbjchlcelkgaa.Pr
open Go.RowKit Go.Proofs.Ytccbjchlcelkgaa.Read Go.Proofs.YtccbjchlcelkgaaW.PrintWords Go.Proofs.YtccbjchlcelkgaaW.PrintLast Go.Proofs.YtccbjchlcelkgaaW.PrintMore
set_option linter.unusedVariables false
theorem ext_pre (t : ByteArray) (n : Nat) (h : n ≤ t.size) : (t.extract 0 n).size = n := by rw [ByteArray.size_extract, Nat.min_eq_left h, Nat.sub_zero]
theorem ext_suf (t : ByteArray) (n : Nat) : (t.extract n t.size).size = t.size - n := by rw [ByteArray.size_extract, Nat.min_self]
theorem size_one (x : Int) : (strOfNums [x]).size = 1 := rfl
theorem spoilt_l0 (s : List Int) (hs : okL okB s) (wi : ByteArray) (hw : 1 ≤ wi.size ∧ wi.size ≤ 1000) (d : Nat) : ∀ (t : ByteArray) (p h : Int), t.size + d ≤ 1000 → 0 ≤ p → p + 6 * d ≤ 900000000000 → ∃ (t' : ByteArray) (p' h' : Int), (∀ k, 2 * d + 2 < k → spec_l1Cur_spoilt.l0 k t wi (d : Int) s p h = some (t', p', h')) ∧ p ≤ p' ∧ p' ≤ p + 6 * d := by
  induction d with
  | zero =>
    intro t p h ht h0 h1
    refine ⟨t, p, h, fun k hk => ?_, by omega, by omega⟩
    obtain ⟨k, rfl⟩ : ∃ m, k = m + 1 + 1 := ⟨k - 2, by omega⟩
    rw [spec_l1Cur_spoilt.l0, if_neg (show ¬ (((0 : Nat) : Int) > 0) by omega), spec_l1Cur_spoilt.j1, if_neg Bool.false_ne_true]
  | succ d ih =>
    intro t p h ht h0 h1
    by_cases hz : t.size = 0
    · refine ⟨t, p, h, fun k hk => ?_, by omega, by omega⟩
      obtain ⟨k, rfl⟩ : ∃ m, k = m + 1 + 1 := ⟨k - 2, by omega⟩
      rw [spec_l1Cur_spoilt.l0, if_pos (show (((d + 1 : Nat) : Int) > 0) by omega), spec_l1Cur_spoilt.j1, decide_eq_false (show ¬ ((t.size : Int) > 0) by omega), if_neg Bool.false_ne_true]
    obtain ⟨i, p1, h1', e1, i0, i1, g1, g2⟩ := cur_pick s hs p h t.size h0 (by omega)
    obtain ⟨j, p2, h2', e2, j0, j1, g3, g4⟩ := cur_pick s hs p1 h1' wi.size (by omega) (by omega)
    obtain ⟨c, p3, h3', e3, c0, c1, g5, g6⟩ := cur_pick s hs p2 h2' 3 (by omega) (by omega)
    have hi : i < t.size := by omega
    obtain ⟨n, rfl⟩ := Int.eq_ofNat_of_zero_le i0
    have ew : Aside0 (wrap64 ((n : Int) + 1) = ((n + 1 : Nat) : Int)) := ⟨by rw [w64 (by omega) (by omega)]; rfl⟩
    have ed : Aside0 (wrap64 (((d + 1 : Nat) : Int) - 1) = (d : Int)) := ⟨by rw [w64 (by omega) (by omega)]; omega⟩
    have z1 : (t.extract 0 n).size = n := ext_pre t n (by omega)
    have z2 : (t.extract n t.size).size = t.size - n := ext_suf t n
    have z3 : (t.extract (n + 1) t.size).size = t.size - (n + 1) := ext_suf t (n + 1)
    have hd1 : (((d + 1 : Nat) : Int) > 0) := by omega
    have hdt : decide ((t.size : Int) > 0) = true := decide_eq_true (by omega)
    have hj : j < (wi.size : Int) := by omega
    have hn : (n : Int) ≤ (t.size : Int) := by omega
    by_cases hc0 : c = 0
    · obtain ⟨t', p', h', e, q1, q2⟩ := ih (((t.extract 0 n) ++ (strOfNums [bt wi j])) ++ (t.extract n t.size)) p3 h3' (by rw [ByteArray.size_append, ByteArray.size_append, z1, z2, size_one]; omega) (by omega) (by omega)
      refine ⟨t', p', h', fun k hk => ?_, by omega, by omega⟩
      obtain ⟨k, rfl⟩ : ∃ m, k = m + 1 + 1 := ⟨k - 2, by omega⟩
      rw [spec_l1Cur_spoilt.l0, if_pos hd1, spec_l1Cur_spoilt.j1, hdt, if_pos rfl, e1, Option.bind_some]
      dsimp only
      rw [e2, Option.bind_some]
      dsimp only
      rw [if_pos j0, if_pos hj, Option.bind_some, e3, Option.bind_some]
      dsimp only
      rw [if_pos hc0, if_pos i0, if_pos hn, Int.toNat_natCast, z1, size_one, if_pos (show n + 1 ≤ 9223372036854775807 by omega), ByteArray.size_append, z1, size_one, z2, if_pos (show n + 1 + (t.size - n) ≤ 9223372036854775807 by omega), ed.out]
      exact e k (by omega)
    by_cases hc1 : c = 1
    · obtain ⟨t', p', h', e, q1, q2⟩ := ih (((t.extract 0 n) ++ (strOfNums [bt wi j])) ++ (t.extract (n + 1) t.size)) p3 h3' (by rw [ByteArray.size_append, ByteArray.size_append, z1, z3, size_one]; omega) (by omega) (by omega)
      refine ⟨t', p', h', fun k hk => ?_, by omega, by omega⟩
      obtain ⟨k, rfl⟩ : ∃ m, k = m + 1 + 1 := ⟨k - 2, by omega⟩
      rw [spec_l1Cur_spoilt.l0, if_pos hd1, spec_l1Cur_spoilt.j1, hdt, if_pos rfl, e1, Option.bind_some]
      dsimp only
      rw [e2, Option.bind_some]
      dsimp only
      rw [if_pos j0, if_pos hj, Option.bind_some, e3, Option.bind_some]
      dsimp only
      rw [if_neg hc0, if_pos hc1, if_pos i0, if_pos hn, Int.toNat_natCast, z1, size_one, if_pos (show n + 1 ≤ 9223372036854775807 by omega), ew.out, if_pos (show (0 : Int) ≤ ((n + 1 : Nat) : Int) by omega), if_pos (show ((n + 1 : Nat) : Int) ≤ (t.size : Int) by omega), Int.toNat_natCast, ByteArray.size_append, z1, size_one, z3, if_pos (show n + 1 + (t.size - (n + 1)) ≤ 9223372036854775807 by omega), ed.out]
      exact e k (by omega)
    · obtain ⟨t', p', h', e, q1, q2⟩ := ih ((t.extract 0 n) ++ (t.extract (n + 1) t.size)) p3 h3' (by rw [ByteArray.size_append, z1, z3]; omega) (by omega) (by omega)
      refine ⟨t', p', h', fun k hk => ?_, by omega, by omega⟩
      obtain ⟨k, rfl⟩ : ∃ m, k = m + 1 + 1 := ⟨k - 2, by omega⟩
      rw [spec_l1Cur_spoilt.l0, if_pos hd1, spec_l1Cur_spoilt.j1, hdt, if_pos rfl, e1, Option.bind_some]
      dsimp only
      rw [e2, Option.bind_some]
      dsimp only
      rw [if_pos j0, if_pos hj, Option.bind_some, e3, Option.bind_some]
      dsimp only
      rw [if_neg hc0, if_neg hc1, if_pos i0, if_pos hn, Int.toNat_natCast, ew.out, if_pos (show (0 : Int) ≤ ((n + 1 : Nat) : Int) by omega), if_pos (show ((n + 1 : Nat) : Int) ≤ (t.size : Int) by omega), Int.toNat_natCast, z1, z3, if_pos (show n + (t.size - (n + 1)) ≤ 9223372036854775807 by omega), ed.out]
      exact e k (by omega)
theorem cur_spoilt (s : List Int) (hs : okL okB s) (wi : ByteArray) (hw : 1 ≤ wi.size ∧ wi.size ≤ 1000) (t : ByteArray) (ht : t.size ≤ 100) (p h : Int) (h0 : 0 ≤ p) (h1 : p ≤ 800000000000) : ∃ (t' : ByteArray) (p' h' : Int), (∀ k, 10 < k → spec_l1Cur_spoilt.f k s p h t wi = some (t', p', h')) ∧ p ≤ p' ∧ p' ≤ p + 20 := by
  obtain ⟨v, p1, h1', e, v0, v1, g1, g2⟩ := cur_pick s hs p h 3 h0 (by omega)
  obtain ⟨m, rfl⟩ := Int.eq_ofNat_of_zero_le v0
  obtain ⟨t', p', h', e2, q1, q2⟩ := spoilt_l0 s hs wi hw m t p1 h1' (by omega) (by omega) (by omega)
  refine ⟨t', p', h', fun k hk => ?_, by omega, by omega⟩
  unfold spec_l1Cur_spoilt.f
  rw [e, Option.bind_some]
  exact e2 k (by omega)
end Go.Proofs.Ytccbjchlcelkgaa.Pr
/- The cursor's long data: bytes, or many zeros. Plain facts. -/
namespace Go.Proofs.Ytccbjchlcelkgaa.Pr
open Go.RowKit Go.Proofs.Ytccbjchlcelkgaa.Read Go.Proofs.YtccbjchlcelkgaaW.PrintWords
set_option linter.unusedVariables false
theorem zero_bytes (n : Nat) : isBytes (List.replicate n 0) := by
  intro x hx
  obtain rfl := List.eq_of_mem_replicate hx
  omega
theorem cur_long (s : List Int) (hs : okL okB s) (p h : Int) (n : Nat) (hn : n ≤ 1000) (h0 : 0 ≤ p) (h1 : p ≤ 700000000000) : ∃ (L : List Int) (p' h' : Int), (∀ k, n < k → spec_l1Cur_long.f k s p h n = some (L, p', h')) ∧ isBytes L ∧ L.length ≤ 20001 ∧ p ≤ p' ∧ p' ≤ p + 4 + n := by
  obtain ⟨b, p2, h2, e2, a2, b2⟩ := cur_one s hs p h 40 h0 (by omega)
  cases b with
  | true =>
    obtain ⟨v, p5, h5, e5, v0, v1, a5, b5⟩ := cur_pick s hs p2 h2 3 (by omega) (by omega)
    have hw : wrap64 (19999 + v) = 19999 + v := w64 (by omega) (by omega)
    refine ⟨List.replicate (19999 + v).toNat 0, p5, h5, fun k hk => ?_, zero_bytes _, by rw [List.length_replicate]; omega, by omega, by omega⟩
    simp only [spec_l1Cur_long.f, e2, Option.bind_some, if_true, e5, hw, if_pos (show 0 ≤ 19999 + v by omega), if_pos (show (19999 + v).toNat ≤ 281474976710656 by omega)]
  | false =>
    obtain ⟨c, p3, h3, e3, hc, hcl, a3, b3⟩ := cur_bytes s hs p2 h2 n (by omega) (by omega) (by omega)
    refine ⟨c, p3, h3, fun k hk => ?_, hc, by omega, by omega, by omega⟩
    simp only [spec_l1Cur_long.f, e2, Option.bind_some, Bool.false_eq_true, if_false, e3 k (by omega)]
end Go.Proofs.Ytccbjchlcelkgaa.Pr
/- The law FnArmored, its plain part. -/
namespace Go.Proofs.Ytccbjchlcelkgaa.Pure
open Go.RowKit Go.Proofs.Ytccbjchlcelkgaa.Read Go.Proofs.YtccbjchlcelkgaaW.PrintWords Go.Proofs.Ytccbjchlcelkgaa.Pr
theorem drawArmor_ev (s : List Int) (hs : okL okB s) : ∃ d : List Int, isBytes d ∧ d.length ≤ 20001 ∧ Ev (fun k => spec_DrawArmor.f k s) d := by
  obtain ⟨L, p, h, e, hb, hl, _, _⟩ := cur_long s hs 0 0 30 (by omega) (by omega) (by omega)
  simp only [Int.cast_ofNat_Int] at e
  refine ⟨L, hb, hl, 40, fun k hk => ?_⟩
  simp only [spec_DrawArmor.f, newCur.f, Option.bind_some, e k (by omega)]
theorem drawUnarmor_ev (s : List Int) (hs : okL okB s) : ∃ t : ByteArray, Ev (fun k => spec_DrawUnarmor.f k s) t := by
  obtain ⟨L, p1, h1, e1, hb, hl, a1, b1⟩ := cur_bytes s hs 0 0 30 (by omega) (by omega) (by omega)
  simp only [Int.cast_ofNat_Int] at e1
  have hsz : (armB L).size ≤ 100 := by
    show (armU L (armN L)).toArray.size ≤ 100
    rw [List.size_toArray, armU_len]
    unfold armN
    omega
  obtain ⟨t, p2, h2, e2, _, _⟩ := cur_spoilt s hs (⟨#[48, 97, 118, 119, 49, 117, 90, 45]⟩ : ByteArray) ⟨by decide, by decide⟩ (armB L) hsz p1 h1 (by omega) (by omega)
  obtain ⟨n, hn⟩ := specArmor_ev L hb (by omega)
  refine ⟨t, n + 40, fun k hk => ?_⟩
  simp only [spec_DrawUnarmor.f, newCur.f, Option.bind_some, e1 k (by omega), hn k (by omega), e2 k (by omega)]
theorem zBytes_self (l : List Int) : laws_zBytes.f l l = some true := by simp [laws_zBytes.f]
theorem unarm_back {t : ByteArray} {d : List Int} (h : unarmL t = (d, true)) : isBytes d ∧ d.length ≤ 20000 ∧ armB d = t := by
  unfold unarmL at h
  split at h
  · rename_i hg
    simp only [Prod.mk.injEq, and_true] at h
    subst h
    exact ⟨decN_bytes _ _, by rw [decN_len]; exact hg.2.1, hg.2.2⟩
  · simp at h
def armL (d : List Int) : ByteArray := if (d.length : Int) > 20000 then (⟨#[]⟩ : ByteArray) else armB d
theorem implArmor_is (d : List Int) (hd : isBytes d) : impl_Armor.f d = some (armL d) := by
  simp only [impl_Armor.f, if_pos hd, armL]
theorem FnArmored : laws_FnArmored.Pure := by
  intro code hc
  by_cases hbig : (code.length : Int) > 1048576
  · exact ⟨0, by simp only [laws_FnArmored.f, if_pos hbig]⟩
  obtain ⟨d, hd, hdl, hdraw⟩ := drawArmor_ev code hc
  obtain ⟨t, ht⟩ := drawUnarmor_ev code hc
  apply Ev.rounds
  simp only [laws_FnArmored.f, if_neg hbig]
  refine Ev.bind hdraw ?_
  simp only [implArmor_is d hd, Option.bind_some]
  have es : Ev (fun k => spec_Armor.f k d) (armL d) := by
    simp only [spec_Armor.f, armL]
    by_cases h : (d.length : Int) > 20000
    · simp only [if_pos h]; exact Ev.now _
    · simp only [if_neg h]
      exact Ev.bind (specArmor_ev d hd (by omega)) (Ev.now _)
  refine Ev.bind es ?_
  simp only [if_true]
  have tail : Ev (fun k => (spec_DrawUnarmor.f k code).bind fun t122 => ((impl_Unarmor.f k t122).bind fun bt123 => ((spec_Unarmor.f k t122).bind fun bt127 => (if (bt123.2 == bt127.2) = true then ((laws_zBytes.f bt123.1 bt127.1).bind fun t131 => (if t131 = true then (if bt123.2 = true then ((impl_Armor.f bt123.1).bind fun t132 => (some (t132.toList == t122.toList))) else (some true)) else (none))) else (none))))) true := by
    refine Ev.bind ht ?_
    refine Ev.bind (implUnarmor_ev t) ?_
    refine Ev.bind (specUnarmor_ev t) ?_
    simp only [beq_self_eq_true, if_true, zBytes_self, Option.bind_some]
    rcases hu : unarmL t with ⟨x, b⟩
    cases b with
    | false => simp only [Bool.false_eq_true, if_false]; exact Ev.now _
    | true =>
      obtain ⟨hx, hl, he⟩ := unarm_back hu
      have ex : impl_Armor.f x = some (armB x) := by rw [implArmor_is x hx, armL, if_neg (by omega)]
      simp only [if_true, ex, Option.bind_some, he, beq_self_eq_true]
      exact Ev.now _
  by_cases hl : (d.length : Int) ≤ 20000
  · simp only [if_pos hl]
    rw [show armL d = armB d from if_neg (by omega)]
    refine Ev.bind (implUnarmor_ev (armB d)) ?_
    rw [unarm_arm d hd (by omega)]
    simp only [if_true, zBytes_self, Option.bind_some]
    exact tail
  · simp only [if_neg hl]
    exact tail
end Go.Proofs.Ytccbjchlcelkgaa.Pure
/- The law FnArmored: whatever the input, the call returns true and the arguments read as before. No conditions. -/
namespace Go.Proofs.Ytccbjchlcelkgaa.fnArmored
open Go.ChangeShapes Go.WideShapes Go.ChangeAt Go.RowKit Go.Proofs.Ytccbjchlcelkgaa.Read Go.Proofs.YtccbjchlcelkgaaW.PrintWords Go.Proofs.Ytccbjchlcelkgaa.Pr
open Go.ChangeMaps (open_string shut_string)
set_option linter.unusedVariables false
theorem own : ownKnob Try.prog.godebug = none := by kernel_rfl
theorem laidOut : laidOutB Try.prog = true := by kernel_rfl
set_option maxRecDepth 100000 in
theorem lifted (os : Os) (started : os.Started) (H : Type) (enc : TypeId × Value → H) :
    ReturnsInHanded {} Try.checked os 4 .any (Rows.fnArmoredSpec.pre6 enc Try.prog Try.f4 Rows.fnArmoredRow.domain false) (Rows.fnArmoredSpec.post enc Try.prog Try.f4 false true false false) := by
  refine returnsInHanded_of_change (C := Try.checked) own started (by kernel_rfl) Try.func4
    (ChangeSpec.witness6 (enc := enc) (C := Try.checked) false ⟨#[], #[.slice none 0 0], []⟩ 8 (by kernel_rfl) (by kernel_rfl) (by kernel_rfl) (by kernel_rfl)) ?_
  intro W base args ds gs before hval0 hW hcnd _
  have hval : ∀ (j : Nat) t v, Try.f4.params[j]? = some t → args[j]? = some v → Value.okWide Try.prog W .any base t v := hval0
  have hW' := hW
  obtain ⟨p, q, hA0, hV, rfl, hfz, hnd⟩ := hW
  have hA : DataW.TrodAll enc Try.prog W 0 (fun _ => true) true Try.f4.params.toList args.toList ds p := hA0
  rw [Try.params4] at hA hval
  obtain ⟨v0, vs0, d0, ds0, p0, q0, hargs, rfl, rfl, h0, r0⟩ := trodAll_cons hA
  obtain ⟨rfl, rfl, rfl⟩ := trodAll_nil r0
  obtain rfl : args = #[v0] := by cases args; simp_all
  obtain ⟨rfl, rfl⟩ := trodVars_none hV
  have lt0 : ∀ x ∈ p0, x.block < W.heap.size := by obtain ⟨m, hm⟩ := h0; exact DataW.trod_lt m _ _ _ hm
  have bk0 := fun {W' : World} (bel : Below W.heap.size W W') => Below.trod laidOut (by kernel_rfl) (of_decide_eq_true (by kernel_rfl)) h0 bel lt0
  obtain ⟨A0, c0, l0, rfl, hl0, hC0, o0⟩ := arg_slice Try.underlying22 (tellsL Try.underlying22 (by kernel_rfl) (tellsB Try.underlying5 (by kernel_rfl))) (hval 0 22 v0 rfl rfl) h0
  obtain ⟨k, hk⟩ := Pure.FnArmored l0 o0
  refine (laws_FnArmored.calls k _ _ l0 true W hC0 hl0 hk).mono fun e W' hpost => ?_
  obtain ⟨he, hb⟩ := hpost
  have bel : Below W.heap.size W W' := hb
  subst he
  exact ⟨_, rfl, _, _, _, [], _, [], hW', trodAll_mk1 (shut_bool Try.underlying4 _), (trodAll_cons_mk (bk0 bel) trodAll_mk0), rfl, bel.frame _, fun h => by cases h⟩
theorem over : Rows.fnArmoredRow.holds Try.pinned (OpenSpec.ofChange Rows.fnArmoredSpec) :=
  OpenClaim.holds_of_wide 4 Try.f4 rfl rfl rfl rfl rfl rfl rfl ⟨rfl, rfl, rfl, rfl, rfl⟩ rfl rfl rfl rfl rfl (by kernel_rfl) Try.func4 (by kernel_rfl)
    (of_decide_eq_true (by kernel_rfl)) (by unfold Func.isWrapper; first | (rw [if_pos (by decide +kernel)]; kernel_rfl) | (rw [if_neg (by decide +kernel)]; exact ⟨rfl, rfl⟩))
    (fun os started H enc _ => lifted os started H enc)
theorem proved : Rows.FnArmoredSaid := over
#print axioms proved
end Go.Proofs.Ytccbjchlcelkgaa.fnArmored
namespace Go.Proofs.Ytccbjchlcelkgaa
/-- The row, under a short name, for the claim. -/
theorem fnArmored_holds : Rows.FnArmoredSaid := fnArmored.proved
end Go.Proofs.Ytccbjchlcelkgaa
