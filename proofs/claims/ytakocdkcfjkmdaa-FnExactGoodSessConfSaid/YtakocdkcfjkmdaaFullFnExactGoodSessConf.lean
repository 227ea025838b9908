/- The law FnExactGoodSessConf: whatever the input, the call returns true and the arguments read as before. No conditions. -/
import Derived.Test.YtakocdkcfjkmdaaRead
import Derived.Test.YtakocdkcfjkmdaaPr3
import Derived.Test.YtakocdkcfjkmdaaPrgByteS
import Derived.Test.YtakocdkcfjkmdaaRows
import Derived.WalkKit
import Derived.ProofKit
import Derived.OpenShut
import Derived.ShutString
import Derived.ChangeOld
import Derived.Below
/- The pure statement of the law FnExactGoodSessConf. -/
namespace Go.Proofs.Ytakocdkcfjkmdaa.Pr
open Go.RowKit Go.Proofs.Ytakocdkcfjkmdaa.Read Go.Proofs.YtakocdkcfjkmdaaW.PrintWords
set_option linter.unusedVariables false
/-- What is left of the law FnExactGoodSessConf: a statement about numbers and lists. -/
def laws_FnExactGoodSessConf.Pure : Prop := ∀ (l0_0 : (List Int)) (a0_1 : Int) (a0_2 : Int), (okL okB) l0_0 → okI a0_1 → okI a0_2 → ∃ k, laws_FnExactGoodSessConf.f k l0_0 a0_1 a0_2 = some true
end Go.Proofs.Ytakocdkcfjkmdaa.Pr
/- The helpers over slices of bytes: copied, compared, marked, held: plain facts. -/
namespace Go.Proofs.Ytakocdkcfjkmdaa.Pr
open Go.RowKit Go.Proofs.Ytakocdkcfjkmdaa.Read Go.Proofs.YtakocdkcfjkmdaaW.PrintWords

theorem w64 {n : Int} (h0 : -9223372036854775808 ≤ n) (h1 : n ≤ 9223372036854775807) : wrap64 n = n := by unfold wrap64; omega
theorem rd_nat {l : List Int} {i : Nat} (h : i < l.length) : rd l (i : Int) = l[i] := by
  simp [rd, List.getD_eq_getElem?_getD, List.getElem?_eq_getElem h]
theorem list_rd_ext {a b : List Int} (hl : a.length = b.length) (h : ∀ i : Nat, i < a.length → rd a i = rd b i) : a = b := by
  apply List.ext_getElem hl
  intro i h1 h2
  have := h i h1
  rwa [rd_nat h1, rd_nat h2] at this

theorem szByteS_eq (l : List Int) (n : Int) : laws_szByteS.f l n = some (if wrap64 (n - l.length) < 0 then -1 else wrap64 (n - l.length)) := by
  unfold laws_szByteS.f; split <;> rfl

theorem toByteS_l0 (x0 : List Int) (hl : x0.length ≤ 281474976710656) (d : Nat) : ∀ (k i : Nat) (x3 : List Int), x0.length - i = d → i ≤ x0.length → x3.length = x0.length → d < k → laws_toByteS.l0 k x0 x3 i = some (x3.take i ++ x0.drop i) := by
  induction d with
  | zero =>
    intro k i x3 hd hi h3 hk
    obtain ⟨k, rfl⟩ : ∃ m, k = m + 1 := ⟨k - 1, by omega⟩
    simp only [laws_toByteS.l0]
    rw [if_neg (by omega), List.take_of_length_le (by omega), List.drop_of_length_le (by omega), List.append_nil]
  | succ d ih =>
    intro k i x3 hd hi h3 hk
    obtain ⟨k, rfl⟩ : ∃ m, k = m + 1 := ⟨k - 1, by omega⟩
    simp only [laws_toByteS.l0]
    rw [if_pos (by omega), if_pos (by omega), if_pos (by omega), w64 (by omega) (by omega)]
    have e := ih k (i + 1) (x3.set i (rd x0 i)) (by omega) (by omega) (by simpa using h3) (by omega)
    rw [Int.toNat_natCast]
    rw [show ((i : Int) + 1) = ((i + 1 : Nat) : Int) from rfl, e]
    congr 1
    have hlt : i < x0.length := by omega
    rw [List.take_succ_eq_append_getElem (by simp; omega), List.getElem_set_self, List.take_set_of_le (by omega), rd_nat hlt, List.append_assoc, List.singleton_append, ← List.drop_eq_getElem_cons hlt]
theorem toByteS_ev (l : List Int) (hl : l.length ≤ 281474976710656) : Ev (fun k => laws_toByteS.f k l) l :=
  ⟨l.length + 1, fun k hk => by
    show laws_toByteS.f k l = some l
    unfold laws_toByteS.f
    rw [if_pos (by omega), if_pos (by omega)]
    have := toByteS_l0 l hl l.length k 0 (List.replicate ((l.length : Int)).toNat 0) (by omega) (by omega) (by simp) (by omega)
    simpa using this⟩

theorem eqByteS_l0 (x0 x1 : List Int) (hl : x0.length = x1.length) (hm : x0.length ≤ 281474976710656) (d : Nat) : ∀ (k i : Nat), x0.length - i = d → i ≤ x0.length → d < k → laws_eqByteS.l0 k x0 x1 i = some (decide (x0.drop i = x1.drop i)) := by
  induction d with
  | zero =>
    intro k i hd hi hk
    obtain ⟨k, rfl⟩ : ∃ m, k = m + 1 := ⟨k - 1, by omega⟩
    simp only [laws_eqByteS.l0]
    rw [if_neg (by omega), List.drop_of_length_le (by omega), List.drop_of_length_le (by omega)]; simp
  | succ d ih =>
    intro k i hd hi hk
    obtain ⟨k, rfl⟩ : ∃ m, k = m + 1 := ⟨k - 1, by omega⟩
    simp only [laws_eqByteS.l0]
    have h0 : i < x0.length := by omega
    have h1 : i < x1.length := by omega
    rw [if_pos (by omega), if_pos (by omega), if_pos (by omega), w64 (by omega) (by omega), rd_nat h0, rd_nat h1, List.drop_eq_getElem_cons h0, List.drop_eq_getElem_cons h1]
    have e := ih k (i + 1) (by omega) (by omega) (by omega)
    rw [show ((i : Int) + 1) = ((i + 1 : Nat) : Int) from rfl, e]
    by_cases hx : x0[i] = x1[i]
    · rw [if_pos hx]; congr 1; rw [decide_eq_decide, hx, List.cons.injEq]; exact ⟨fun h => ⟨rfl, h⟩, fun h => h.2⟩
    · rw [if_neg hx]; congr 1; symm; rw [decide_eq_false_iff_not, List.cons.injEq]; exact fun h => hx h.1
theorem eqByteS_ev (a b : List Int) (hl : a.length ≤ 281474976710656) : Ev (fun k => laws_eqByteS.f k a b) (decide (a = b)) :=
  ⟨a.length + 1, fun k hk => by
    show laws_eqByteS.f k a b = _
    unfold laws_eqByteS.f
    by_cases h : a.length = b.length
    · rw [if_pos (by omega)]
      have := eqByteS_l0 a b h hl a.length k 0 (by omega) (by omega) (by omega)
      simpa using this
    · rw [if_neg (by omega)]
      have : a ≠ b := fun e => h (by rw [e])
      simp [this]⟩
theorem eqByteS_refl (a : List Int) (hl : a.length ≤ 281474976710656) : Ev (fun k => laws_eqByteS.f k a a) true := by
  have := eqByteS_ev a a hl
  simpa using this

/-- What a marked slice of n bytes holds, counted from k. -/
def markL : Nat → Int → List Int
  | 0, _ => []
  | n + 1, k => k % 256 :: markL n (k + 1)
theorem markL_len : ∀ (n : Nat) (k : Int), (markL n k).length = n
  | 0, _ => rfl
  | n + 1, k => by simp [markL, markL_len n]
end Go.Proofs.Ytakocdkcfjkmdaa.Pr
/- The law FnExactGoodSessConf, its plain part: the program's and the reference's answers are one for every configuration, which reads as before. -/
namespace Go.Proofs.Ytakocdkcfjkmdaa.Pure
open Go.RowKit Go.Proofs.Ytakocdkcfjkmdaa.Read Go.Proofs.YtakocdkcfjkmdaaW.PrintWords Go.Proofs.Ytakocdkcfjkmdaa.Pr
theorem FnExactGoodSessConf : laws_FnExactGoodSessConf.Pure := by
  intro key idle most h0 h1 h2
  by_cases hneg : (1048576 : Int) - key.length < 0
  · refine ⟨0, ?_⟩
    simp only [laws_FnExactGoodSessConf.f, laws_szSessConf.f, szByteS_eq]
    have hl := h0.1
    rw [w64 (by omega) (by omega)]
    simp [hneg]
  have hsz : laws_szSessConf.f key idle most 1048576 = some ((1048576 : Int) - key.length) := by
    simp only [laws_szSessConf.f, szByteS_eq]
    rw [w64 (by omega) (by omega)]
    simp only [if_neg hneg, Option.bind_some]
  have hto : Ev (fun k => laws_toSessConf.f k key idle most) (key, idle, most) := by
    simp only [laws_toSessConf.f]
    exact Ev.bind (toByteS_ev key (by omega)) (Ev.now _)
  obtain ⟨b, hs, hi⟩ : ∃ b, spec_GoodSessConf.f key idle most = some b ∧ impl_GoodSessConf.f key idle most = some b := by
    unfold spec_GoodSessConf.f impl_GoodSessConf.f
    by_cases c1 : (key.length : Int) ≤ 64 <;> by_cases c2 : idle ≥ 1 <;> by_cases c3 : idle ≤ 1000000 <;> by_cases c4 : most ≥ 1 <;> by_cases c5 : most ≤ 1000000 <;> simp_all <;> omega
  have heq : Ev (fun k => laws_eqSessConf.f k key idle most key idle most) true := by
    simp only [laws_eqSessConf.f]
    refine Ev.bind (eqByteS_refl key (by omega)) ?_
    simp only [if_true]
    exact Ev.now _
  apply Ev.rounds
  simp only [laws_FnExactGoodSessConf.f, hsz, Option.bind_some, if_neg hneg]
  refine Ev.bind hto ?_
  simp only [hs, Option.bind_some]
  refine Ev.bind hto ?_
  simp only [hi, Option.bind_some, bne_self_eq_false, Bool.false_eq_true, if_false]
  refine Ev.bind hto ?_
  dsimp only
  refine Ev.bind heq ?_
  exact Ev.now _
end Go.Proofs.Ytakocdkcfjkmdaa.Pure
/- The law FnExactGoodSessConf: whatever the input, the call returns true and the arguments read as before. No conditions. -/
namespace Go.Proofs.Ytakocdkcfjkmdaa.fnExactGoodSessConf
open Go.ChangeShapes Go.WideShapes Go.ChangeAt Go.RowKit Go.Proofs.Ytakocdkcfjkmdaa.Read Go.Proofs.YtakocdkcfjkmdaaW.PrintWords Go.Proofs.Ytakocdkcfjkmdaa.Pr
open Go.ChangeMaps (open_string shut_string)
set_option linter.unusedVariables false
theorem own : ownKnob Try.prog.godebug = none := by kernel_rfl
theorem laidOut : laidOutB Try.prog = true := by kernel_rfl
set_option maxRecDepth 100000 in
theorem lifted (os : Os) (started : os.Started) (H : Type) (enc : TypeId × Value → H) :
    ReturnsInHanded {} Try.checked os 3 .any (Rows.fnExactGoodSessConfSpec.pre6 enc Try.prog Try.f3 Rows.fnExactGoodSessConfRow.domain false) (Rows.fnExactGoodSessConfSpec.post enc Try.prog Try.f3 false true false false) := by
  refine returnsInHanded_of_change (C := Try.checked) own started (by kernel_rfl) Try.func3
    (ChangeSpec.witness6 (enc := enc) (C := Try.checked) false ⟨#[], #[.agg #[.slice none 0 0, .int .i64 0, .int .i64 0]], []⟩ 8 (by kernel_rfl) (by kernel_rfl) (by kernel_rfl) (by kernel_rfl)) ?_
  intro W base args ds gs before hval0 hW hcnd _
  have hval : ∀ (j : Nat) t v, Try.f3.params[j]? = some t → args[j]? = some v → Value.okWide Try.prog W .any base t v := hval0
  have hW' := hW
  obtain ⟨p, q, hA0, hV, rfl, hfz, hnd⟩ := hW
  have hA : DataW.TrodAll enc Try.prog W 0 (fun _ => true) true Try.f3.params.toList args.toList ds p := hA0
  rw [Try.params3] at hA hval
  obtain ⟨v0, vs0, d0, ds0, p0, q0, hargs, rfl, rfl, h0, r0⟩ := trodAll_cons hA
  obtain ⟨rfl, rfl, rfl⟩ := trodAll_nil r0
  obtain rfl : args = #[v0] := by cases args; simp_all
  obtain ⟨rfl, rfl⟩ := trodVars_none hV
  have lt0 : ∀ x ∈ p0, x.block < W.heap.size := by obtain ⟨m, hm⟩ := h0; exact DataW.trod_lt m _ _ _ hm
  have bk0 := fun {W' : World} (bel : Below W.heap.size W W') => Below.trod laidOut (by kernel_rfl) (of_decide_eq_true (by kernel_rfl)) h0 bel lt0
  obtain ⟨⟨l0_0, ⟨a0_1, a0_2⟩⟩, cs0, hv0, hK0, ⟨o0_0, ⟨o0_1, o0_2⟩⟩⟩ := arg_struct Try.underlying24 (tells_struct Try.underlying24 (by kernel_rfl) (fs_cons rfl (tellsL Try.underlying22 (by kernel_rfl) (tellsB Try.underlying5 (by kernel_rfl))) (fs_cons rfl (tellsI Try.underlying3 (by kernel_rfl)) (fs_one rfl (tellsI Try.underlying3 (by kernel_rfl)))))) (hval 0 24 v0 rfl rfl) h0
  obtain ⟨_, _, rfl, ⟨A0_0, c0_0, rfl, hl0_0, hC0_0⟩, ⟨_, _, rfl, rfl, rfl⟩⟩ := hK0
  simp only [List.cons_append, List.nil_append] at hv0
  subst hv0
  obtain ⟨k, hk⟩ := Pure.FnExactGoodSessConf l0_0 a0_1 a0_2 o0_0 o0_1 o0_2
  refine (laws_FnExactGoodSessConf.calls k _ _ l0_0 a0_1 a0_2 true W hC0_0 hl0_0 hk).mono fun e W' hpost => ?_
  obtain ⟨he, hb⟩ := hpost
  have bel : Below W.heap.size W W' := hb
  subst he
  exact ⟨_, rfl, _, _, _, [], _, [], hW', trodAll_mk1 (shut_bool Try.underlying4 _), (trodAll_cons_mk (bk0 bel) trodAll_mk0), rfl, bel.frame _, fun h => by cases h⟩
theorem over : Rows.fnExactGoodSessConfRow.holds Try.pinned (OpenSpec.ofChange Rows.fnExactGoodSessConfSpec) :=
  OpenClaim.holds_of_wide 3 Try.f3 rfl rfl rfl rfl rfl rfl rfl ⟨rfl, rfl, rfl, rfl, rfl⟩ rfl rfl rfl rfl rfl (by kernel_rfl) Try.func3 (by kernel_rfl)
    (of_decide_eq_true (by kernel_rfl)) (by unfold Func.isWrapper; first | (rw [if_pos (by decide +kernel)]; kernel_rfl) | (rw [if_neg (by decide +kernel)]; exact ⟨rfl, rfl⟩))
    (fun os started H enc _ => lifted os started H enc)
theorem proved : Rows.FnExactGoodSessConfSaid := over
#print axioms proved
end Go.Proofs.Ytakocdkcfjkmdaa.fnExactGoodSessConf
namespace Go.Proofs.Ytakocdkcfjkmdaa
/-- The row, under a short name, for the claim. -/
theorem fnExactGoodSessConf_holds : Rows.FnExactGoodSessConfSaid := fnExactGoodSessConf.proved
end Go.Proofs.Ytakocdkcfjkmdaa
