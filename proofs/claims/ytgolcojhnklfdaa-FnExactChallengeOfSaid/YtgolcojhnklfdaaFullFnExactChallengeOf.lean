/- The law FnExactChallengeOf: whatever the input, the call returns true and the arguments read as before. No conditions. -/
import Derived.Test.YtgolcojhnklfdaaRead
import Derived.Test.YtgolcojhnklfdaaPr3
import Derived.Test.YtgolcojhnklfdaaPbytes
import Derived.Test.YtgolcojhnklfdaaHdigest
import Derived.Test.YtgolcojhnklfdaaPrgS2
import Derived.Test.YtgolcojhnklfdaaRows
import Derived.WalkKit
import Derived.ProofKit
import Derived.OpenShut
import Derived.ShutString
import Derived.ChangeOld
import Derived.Below
/- The pure statement of the law FnExactChallengeOf. -/
namespace Go.Proofs.Ytgolcojhnklfdaa.Pr
open Go.RowKit Go.Proofs.Ytgolcojhnklfdaa.Read Go.Proofs.YtgolcojhnklfdaaW.PrintWords
set_option linter.unusedVariables false
/-- What is left of the law FnExactChallengeOf: a statement about numbers and lists. -/
def laws_FnExactChallengeOf.Pure : Prop := ∀ (a0 : ByteArray), okS a0 → ∃ k, laws_FnExactChallengeOf.f k a0 = some true
end Go.Proofs.Ytgolcojhnklfdaa.Pr
/- The digest: the reference's and the program's come to one. Plain facts. -/
namespace Go.Proofs.Ytgolcojhnklfdaa.Pr
open Go.RowKit Go.Proofs.Ytgolcojhnklfdaa.Read Go.Proofs.YtgolcojhnklfdaaW.PrintWords

def inP (a : List Int) : Prop := a.length = 4 ∧ ∀ j, j < 4 → 0 ≤ a.getD j 0 ∧ a.getD j 0 < 2147483579
theorem inP_start : inP [11, 22, 33, 44] := ⟨rfl, by decide⟩
theorem inP_mix {a : List Int} (h : inP a) (x : Int) (hx : 0 ≤ x) : inP (dgMix a x) := ⟨by rw [dgMix, mix_len, h.1], mix_bd a x hx h.1 h.2 4 (by omega)⟩
theorem inP_all : ∀ (l a : List Int), inP a → (∀ x ∈ l, 0 ≤ x) → inP (dgAll a l)
  | [], _, h, _ => h
  | x :: l, a, h, hx => inP_all l (dgMix a x) (inP_mix h x (hx x List.mem_cons_self)) (fun y hy => hx y (List.mem_cons_of_mem _ hy))
theorem dgAll_cons (a : List Int) (x : Int) (l : List Int) : dgAll a (x :: l) = dgAll (dgMix a x) l := rfl
theorem mt_at (i : Nat) (h : i < 4) : rd [1103515245, 69069, 1664525, 22695477] (i : Int) = mulT.getD i 0 := by
  match i, h with
  | 0, _ => rfl
  | 1, _ => rfl
  | 2, _ => rfl
  | 3, _ => rfl
theorem rd_getD (l : List Int) (i : Nat) : rd l (i : Int) = l.getD i 0 := by simp [rd]
theorem specMix_step (l : List Int) (h : inP l) (x : Int) (hx : 0 ≤ x ∧ x ≤ 255) (i : Nat) (hi : i < 4) (k : Nat) :
    spec_l2Mix.l0 (k + 1) (mixN l x i) x [1103515245, 69069, 1664525, 22695477] i = spec_l2Mix.l0 k (mixN l x (i + 1)) x [1103515245, 69069, 1664525, 22695477] ((i + 1 : Nat) : Int) := by
  have hlen : (mixN l x i).length = 4 := by rw [mix_len, h.1]
  have b1 := mix_bd l x hx.1 h.1 h.2 i (by omega) i hi
  have b2 := mix_bd l x hx.1 h.1 h.2 i (by omega) ((i + 1) % 4) (by omega)
  have b3 := mulOk i hi
  simp only [spec_l2Mix.l0]
  rw [w64 (n := (i : Int) + 1) (by omega) (by omega)]
  have e6 : Int.tmod ((i : Int) + 1) 4 = ((i + 1) % 4 : Nat) := by rw [Int.tmod_eq_emod_of_nonneg (by omega)]; omega
  rw [e6, mt_at i hi, rd_getD, rd_getD]
  obtain ⟨p1, e1⟩ : ∃ p, p = (mixN l x i).getD i 0 := ⟨_, rfl⟩
  obtain ⟨p2, e2⟩ : ∃ p, p = (mixN l x i).getD ((i + 1) % 4) 0 := ⟨_, rfl⟩
  obtain ⟨p3, e3⟩ : ∃ p, p = mulT.getD i 0 := ⟨_, rfl⟩
  have e5 : mixN l x (i + 1) = (mixN l x i).set i ((p1 * p3 + x + 1 + p2) % 2147483579) := by rw [e1, e2, e3]; rfl
  rw [e5, ← e1, ← e2, ← e3]
  rw [← e1] at b1; rw [← e2] at b2; rw [← e3] at b3
  have b4 := prod_bd b1.1 b1.2 b3.1 b3.2
  rw [if_pos (by omega), if_pos (by omega), if_pos (by omega), if_pos (by simp; omega), if_pos (by omega), if_pos (by omega), w64 (n := p1 * p3) (by omega) (by omega), w64 (n := p1 * p3 + x) (by omega) (by omega), w64 (n := p1 * p3 + x + 1) (by omega) (by omega), w64 (by omega) (by omega), Int.tmod_eq_emod_of_nonneg (by omega), Int.toNat_natCast]
  rfl
theorem specMix_eq (l : List Int) (h : inP l) (x : Int) (hx : 0 ≤ x ∧ x ≤ 255) (k : Nat) (hk : 5 ≤ k) : spec_l2Mix.f k l x = some (dgMix l x) := by
  obtain ⟨k, rfl⟩ : ∃ m, k = m + 5 := ⟨k - 5, by omega⟩
  unfold spec_l2Mix.f
  have e0 := specMix_step l h x hx 0 (by omega) (k + 4)
  have e1 := specMix_step l h x hx 1 (by omega) (k + 3)
  have e2 := specMix_step l h x hx 2 (by omega) (k + 2)
  have e3 := specMix_step l h x hx 3 (by omega) (k + 1)
  have e4 : spec_l2Mix.l0 (k + 1) (mixN l x 4) x [1103515245, 69069, 1664525, 22695477] ((3 + 1 : Nat) : Int) = some (mixN l x 4) := by
    simp only [spec_l2Mix.l0]; rw [if_neg (by omega)]
  exact e0.trans (e1.trans (e2.trans (e3.trans e4)))
theorem tm256 (n : Int) (h : 0 ≤ n) : Int.tmod n 256 % 256 = n % 256 := by rw [Int.tmod_eq_emod_of_nonneg h]; omega
theorem td256 (n : Int) (h : 0 ≤ n) (h2 : n ≤ 9223372036854775807) : wrap64 (Int.tdiv n 256) = n / 256 := by
  rw [Int.tdiv_eq_ediv_of_nonneg h, w64 (by omega) (by omega)]
theorem specBytes_eq (n : Int) (h : 0 ≤ n) (h2 : n ≤ 9223372036854775807) (k : Nat) (hk : 5 ≤ k) : spec_l2Bytes.f k n = some (yb n) := by
  obtain ⟨k, rfl⟩ : ∃ m, k = m + 5 := ⟨k - 5, by omega⟩
  unfold spec_l2Bytes.f
  rw [if_pos (by omega)]
  simp only [Option.bind_some, List.length_replicate]
  simp only [spec_l2Bytes.l0]
  have a1 := td256 n h h2
  have a2 := td256 (n / 256) (by omega) (by omega)
  have a3 := td256 (n / 256 / 256) (by omega) (by omega)
  have w1 : wrap64 ((0 : Int) + 1) = 1 := by unfold wrap64; omega
  have w2 : wrap64 ((1 : Int) + 1) = 2 := by unfold wrap64; omega
  have w3 : wrap64 ((2 : Int) + 1) = 3 := by unfold wrap64; omega
  have w4 : wrap64 ((3 : Int) + 1) = 4 := by unfold wrap64; omega
  rw [w1, w2, w3, w4, a1, a2, a3, tm256 n h, tm256 _ (by omega), tm256 _ (by omega), tm256 _ (by omega)]
  simp [yb, List.replicate]
  omega
theorem specDig_l3 (a : List Int) (h : inP a) : ∀ (k : Nat), 10 ≤ k → spec_l2Digest.l3 k [] a (a.length : Int) 0 = some (a.flatMap yb) := by
  intro k hk
  obtain ⟨k, rfl⟩ : ∃ m, k = m + 10 := ⟨k - 10, by omega⟩
  obtain ⟨hl, hb⟩ := h
  match a, hl with
  | [b0, b1, b2, b3], _ =>
    have h0 := hb 0 (by omega)
    have h1 := hb 1 (by omega)
    have h2 := hb 2 (by omega)
    have h3 := hb 3 (by omega)
    simp only [List.getD_cons_zero, List.getD_cons_succ] at h0 h1 h2 h3
    have w1 : wrap64 ((0 : Int) + 1) = 1 := by unfold wrap64; omega
    have w2 : wrap64 ((1 : Int) + 1) = 2 := by unfold wrap64; omega
    have w3 : wrap64 ((2 : Int) + 1) = 3 := by unfold wrap64; omega
    have w4 : wrap64 ((3 : Int) + 1) = 4 := by unfold wrap64; omega
    have r0 : rd [b0, b1, b2, b3] 0 = b0 := rfl
    have r1 : rd [b0, b1, b2, b3] 1 = b1 := rfl
    have r2 : rd [b0, b1, b2, b3] 2 = b2 := rfl
    have r3 : rd [b0, b1, b2, b3] 3 = b3 := rfl
    simp only [spec_l2Digest.l3, w1, w2, w3, w4, r0, r1, r2, r3]
    rw [specBytes_eq b0 (by omega) (by omega) _ (by omega), specBytes_eq b1 (by omega) (by omega) _ (by omega), specBytes_eq b2 (by omega) (by omega) _ (by omega), specBytes_eq b3 (by omega) (by omega) _ (by omega)]
    simp [yb]
theorem specDig_l2 (d : Nat) : ∀ (a : List Int) (k i : Nat), inP a → i + d = 8 → d + 12 ≤ k → spec_l2Digest.l2 k a i = some ((dgAll a (List.replicate d 0)).flatMap yb) := by
  induction d with
  | zero =>
    intro a k i h hi hk
    obtain ⟨k, rfl⟩ : ∃ m, k = m + 1 := ⟨k - 1, by omega⟩
    simp only [spec_l2Digest.l2]
    rw [if_neg (by omega), specDig_l3 a h k (by omega)]; rfl
  | succ d ih =>
    intro a k i h hi hk
    obtain ⟨k, rfl⟩ : ∃ m, k = m + 1 := ⟨k - 1, by omega⟩
    simp only [spec_l2Digest.l2]
    rw [if_pos (by omega), specMix_eq a h 0 (by omega) k (by omega)]
    simp only [Option.bind_some]
    rw [w64 (by omega) (by omega), show ((i : Int) + 1) = ((i + 1 : Nat) : Int) from rfl, ih (dgMix a 0) k (i + 1) (inP_mix h 0 (by omega)) (by omega) (by omega)]
    rfl
theorem wbyte {x : Int} (h : 0 ≤ x ∧ x ≤ 255) : wrap64 x = x := w64 (by omega) (by omega)
theorem drop_rd {l : List Int} {i : Nat} (h : i < l.length) : l.drop i = rd l i :: l.drop (i + 1) := by rw [List.drop_eq_getElem_cons h, rd_nat h]
theorem specDig_l1 (xs : List Int) (hx : isBytes xs) (hl : xs.length ≤ 1000000000) (d : Nat) : ∀ (a : List Int) (k i : Nat), inP a → i + d = xs.length → d + 24 ≤ k →
    spec_l2Digest.l1 k a xs (xs.length : Int) i = some ((dgAll (dgAll a (xs.drop i)) (List.replicate 8 0)).flatMap yb) := by
  induction d with
  | zero =>
    intro a k i h hi hk
    obtain ⟨k, rfl⟩ : ∃ m, k = m + 1 := ⟨k - 1, by omega⟩
    simp only [spec_l2Digest.l1]
    rw [if_neg (by omega), List.drop_of_length_le (by omega)]
    exact specDig_l2 8 a k 0 h (by omega) (by omega)
  | succ d ih =>
    intro a k i h hi hk
    obtain ⟨k, rfl⟩ : ∃ m, k = m + 1 := ⟨k - 1, by omega⟩
    have hlt : i < xs.length := by omega
    have hb := hx (rd xs i) (rd_mem hlt)
    simp only [spec_l2Digest.l1]
    rw [if_pos (by omega), if_pos (by omega), if_pos (by omega), wbyte hb, specMix_eq a h _ hb k (by omega)]
    simp only [Option.bind_some]
    rw [w64 (by omega) (by omega), show ((i : Int) + 1) = ((i + 1 : Nat) : Int) from rfl, ih _ k (i + 1) (inP_mix h _ hb.1) (by omega) (by omega), drop_rd hlt, dgAll_cons]
theorem specDig_l0 (xs ys : List Int) (hx : isBytes xs) (hl : xs.length ≤ 1000000000) (hly : ys.length ≤ 1000000000) (d : Nat) : ∀ (a : List Int) (k i : Nat), inP a → i + d = xs.length → d + 40 ≤ k →
    spec_l2Digest.l0 k ys a xs (xs.length : Int) i = some ((dgAll (dgAll (dgAll a (xs.drop i)) (yb ys.length)) (List.replicate 8 0)).flatMap yb) := by
  induction d with
  | zero =>
    intro a k i h hi hk
    obtain ⟨k, rfl⟩ : ∃ m, k = m + 1 := ⟨k - 1, by omega⟩
    simp only [spec_l2Digest.l0]
    rw [if_neg (by omega), List.drop_of_length_le (by omega), specBytes_eq _ (by omega) (by omega) k (by omega)]
    exact specDig_l1 (yb ys.length) (yb_bytes _) (by rw [yb_len]; omega) 4 a k 0 h (by rw [yb_len]) (by omega)
  | succ d ih =>
    intro a k i h hi hk
    obtain ⟨k, rfl⟩ : ∃ m, k = m + 1 := ⟨k - 1, by omega⟩
    have hlt : i < xs.length := by omega
    have hb := hx (rd xs i) (rd_mem hlt)
    simp only [spec_l2Digest.l0]
    rw [if_pos (by omega), if_pos (by omega), if_pos (by omega), wbyte hb, specMix_eq a h _ hb k (by omega)]
    simp only [Option.bind_some]
    rw [w64 (by omega) (by omega), show ((i : Int) + 1) = ((i + 1 : Nat) : Int) from rfl, ih _ k (i + 1) (inP_mix h _ hb.1) (by omega) (by omega), drop_rd hlt, dgAll_cons]
theorem specDigest_eq (l : List Int) (h : isBytes l) (hl : l.length ≤ 1000000000) (k : Nat) (hk : l.length + 40 ≤ k) : spec_l2Digest.f k l = some (dg l) := by
  have := specDig_l0 l l h hl hl l.length [11, 22, 33, 44] k 0 inP_start (by omega) hk
  simpa [spec_l2Digest.f, dg, dgS] using this
theorem specDigest_ev (l : List Int) (h : isBytes l) (hl : l.length ≤ 1000000000) : Ev (fun k => spec_l2Digest.f k l) (dg l) := ⟨_, fun k hk => specDigest_eq l h hl k hk⟩
theorem isBytes_flatMap_yb (a : List Int) : isBytes (a.flatMap yb) := by
  intro x hx
  obtain ⟨n, _, hn⟩ := List.mem_flatMap.1 hx
  exact yb_bytes n x hn
theorem dg_bytes (l : List Int) : isBytes (dg l) := isBytes_flatMap_yb _
theorem dgAll_len : ∀ (l a : List Int), (dgAll a l).length = a.length
  | [], _ => rfl
  | x :: l, a => by rw [dgAll_cons, dgAll_len l, dgMix, mix_len]
theorem dg_len (l : List Int) : (dg l).length = 16 := by
  have h : (dgS l).length = 4 := by simp [dgS, dgAll_len]
  unfold dg
  match dgS l, h with
  | [b0, b1, b2, b3], _ => rfl
theorem isBytes_append {a b : List Int} (h : isBytes a) (h2 : isBytes b) : isBytes (a ++ b) := fun x hx => (List.mem_append.1 hx).elim (h x) (h2 x)
theorem implDigest_eq (l : List Int) (h : isBytes l) (hl : l.length ≤ 20000) : impl_Digest.f l = some (dg l) := by
  unfold impl_Digest.f; rw [if_pos h, if_neg (by omega)]
theorem isBytes_okL {l : List Int} (h : okL okB l) : isBytes l := fun x hx => h.2 x hx
theorem bytesOf_isBytes (s : ByteArray) : isBytes (bytesOf s) := by
  intro x hx
  simp only [bytesOf, List.mem_map] at hx
  obtain ⟨b, _, rfl⟩ := hx
  have := b.toNat_lt
  omega
/-- The sum of a key and data. -/
def macL (key data : List Int) : List Int := dg (dg key ++ dg data)
end Go.Proofs.Ytgolcojhnklfdaa.Pr
/- The law FnExactChallengeOf, its plain part. -/
namespace Go.Proofs.Ytgolcojhnklfdaa.Pure
open Go.RowKit Go.Proofs.Ytgolcojhnklfdaa.Read Go.Proofs.YtgolcojhnklfdaaW.PrintWords Go.Proofs.Ytgolcojhnklfdaa.Pr
def chL (s : ByteArray) : ByteArray := if s.size ≤ 200 then armB (dg (bytesOf s)) else ⟨#[]⟩
theorem bytes_size (s : ByteArray) : (bytesOf s).length = s.size := by simp [bytesOf]
theorem specCh_ev (s : ByteArray) : Ev (fun k => spec_ChallengeOf.f k s) (chL s) := by
  simp only [spec_ChallengeOf.f]
  by_cases h : (s.size : Int) > 200
  · simp only [if_pos h, chL, if_neg (show ¬ s.size ≤ 200 by omega)]
    exact Ev.now _
  · have hb : bytesOfS.f s = some (bytesOf s) := by unfold bytesOfS.f; rw [if_pos (by omega)]
    simp only [if_neg h, chL, if_pos (show s.size ≤ 200 by omega), hb, Option.bind_some]
    refine Ev.bind (specDigest_ev _ (bytesOf_isBytes s) (by rw [bytes_size]; omega)) ?_
    exact Ev.bind (specArmor_ev _ (dg_bytes _) (by rw [dg_len]; omega)) (Ev.now _)
theorem implCh_eq (s : ByteArray) : impl_ChallengeOf.f s = some (chL s) := by
  unfold impl_ChallengeOf.f chL
  by_cases h : (s.size : Int) > 200
  · rw [if_pos h, if_neg (show ¬ s.size ≤ 200 by omega)]
  · have hb : bytesOfS.f s = some (bytesOf s) := by unfold bytesOfS.f; rw [if_pos (by omega)]
    have ha : impl_Armor.f (dg (bytesOf s)) = some (armB (dg (bytesOf s))) := by
      unfold impl_Armor.f
      rw [if_pos (dg_bytes _), if_neg (by rw [dg_len]; omega)]
    rw [if_neg h, if_pos (show s.size ≤ 200 by omega), hb, Option.bind_some, implDigest_eq _ (bytesOf_isBytes s) (by rw [bytes_size]; omega), Option.bind_some, ha, Option.bind_some]
theorem FnExactChallengeOf : laws_FnExactChallengeOf.Pure := by
  intro s hs
  apply Ev.rounds
  simp only [laws_FnExactChallengeOf.f]
  by_cases h0 : (s.size : Int) > 1048576
  · simp only [if_pos h0]; exact Ev.now _
  simp only [if_neg h0]
  refine Ev.bind (specCh_ev s) ?_
  simp only [implCh_eq s, Option.bind_some, if_true]
  exact Ev.now _
end Go.Proofs.Ytgolcojhnklfdaa.Pure
/- The law FnExactChallengeOf: whatever the input, the call returns true and the arguments read as before. No conditions. -/
namespace Go.Proofs.Ytgolcojhnklfdaa.fnExactChallengeOf
open Go.ChangeShapes Go.WideShapes Go.ChangeAt Go.RowKit Go.Proofs.Ytgolcojhnklfdaa.Read Go.Proofs.YtgolcojhnklfdaaW.PrintWords Go.Proofs.Ytgolcojhnklfdaa.Pr
open Go.ChangeMaps (open_string shut_string)
set_option linter.unusedVariables false
theorem own : ownKnob Try.prog.godebug = none := by kernel_rfl
theorem laidOut : laidOutB Try.prog = true := by kernel_rfl
set_option maxRecDepth 100000 in
theorem lifted (os : Os) (started : os.Started) (H : Type) (enc : TypeId × Value → H) :
    ReturnsInHanded {} Try.checked os 3 .any (Rows.fnExactChallengeOfSpec.pre6 enc Try.prog Try.f3 Rows.fnExactChallengeOfRow.domain false) (Rows.fnExactChallengeOfSpec.post enc Try.prog Try.f3 false true false false) := by
  refine returnsInHanded_of_change (C := Try.checked) own started (by kernel_rfl) Try.func3
    (ChangeSpec.witness6 (enc := enc) (C := Try.checked) false ⟨#[], #[.string ByteArray.empty], []⟩ 8 (by kernel_rfl) (by kernel_rfl) (by kernel_rfl) (by kernel_rfl)) ?_
  intro W base args ds gs before hval0 hW hcnd _
  have hval : ∀ (j : Nat) t v, Try.f3.params[j]? = some t → args[j]? = some v → Value.okWide Try.prog W .any base t v := hval0
  have hW' := hW
  obtain ⟨p, q, hA0, hV, rfl, hfz, hnd⟩ := hW
  have hA : DataW.TrodAll enc Try.prog W 0 (fun _ => true) true Try.f3.params.toList args.toList ds p := hA0
  rw [Try.params3] at hA hval
  obtain ⟨v0, vs0, d0, ds0, p0, q0, hargs, rfl, rfl, h0, r0⟩ := trodAll_cons hA
  obtain ⟨rfl, rfl, rfl⟩ := trodAll_nil r0
  obtain rfl : args = #[v0] := by cases args; simp_all
  obtain ⟨rfl, rfl⟩ := trodVars_none hV
  have lt0 : ∀ x ∈ p0, x.block < W.heap.size := by obtain ⟨m, hm⟩ := h0; exact DataW.trod_lt m _ _ _ hm
  have bk0 := fun {W' : World} (bel : Below W.heap.size W W') => Below.trod laidOut (by kernel_rfl) (of_decide_eq_true (by kernel_rfl)) h0 bel lt0
  obtain ⟨a0, rfl, _, _, o0⟩ := open_string Try.underlying9 (hval 0 9 v0 rfl rfl) h0
  unfold maxLen at o0
  obtain ⟨k, hk⟩ := Pure.FnExactChallengeOf a0 o0
  refine (laws_FnExactChallengeOf.calls k a0 true W hk).mono fun e W' hpost => ?_
  obtain ⟨he, hb⟩ := hpost
  have bel : Below W.heap.size W W' := hb
  subst he
  exact ⟨_, rfl, _, _, _, [], _, [], hW', trodAll_mk1 (shut_bool Try.underlying4 _), (trodAll_cons_mk (bk0 bel) trodAll_mk0), rfl, bel.frame _, fun h => by cases h⟩
theorem over : Rows.fnExactChallengeOfRow.holds Try.pinned (OpenSpec.ofChange Rows.fnExactChallengeOfSpec) :=
  OpenClaim.holds_of_wide 3 Try.f3 rfl rfl rfl rfl rfl rfl rfl ⟨rfl, rfl, rfl, rfl, rfl⟩ rfl rfl rfl rfl rfl (by kernel_rfl) Try.func3 (by kernel_rfl)
    (of_decide_eq_true (by kernel_rfl)) (by unfold Func.isWrapper; first | (rw [if_pos (by decide +kernel)]; kernel_rfl) | (rw [if_neg (by decide +kernel)]; exact ⟨rfl, rfl⟩))
    (fun os started H enc _ => lifted os started H enc)
theorem proved : Rows.FnExactChallengeOfSaid := over
#print axioms proved
end Go.Proofs.Ytgolcojhnklfdaa.fnExactChallengeOf
namespace Go.Proofs.Ytgolcojhnklfdaa
/-- The row, under a short name, for the claim. -/
theorem fnExactChallengeOf_holds : Rows.FnExactChallengeOfSaid := fnExactChallengeOf.proved
end Go.Proofs.Ytgolcojhnklfdaa
