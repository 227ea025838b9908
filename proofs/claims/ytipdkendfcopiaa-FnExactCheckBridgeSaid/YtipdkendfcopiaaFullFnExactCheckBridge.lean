/- The law FnExactCheckBridge: whatever the input, the call returns true and the arguments read as before. No conditions. -/
import Derived.Test.YtipdkendfcopiaaRead
import Derived.Test.YtipdkendfcopiaaPr11
import Derived.Test.YtipdkendfcopiaaPrgByteSS
import Derived.Test.YtipdkendfcopiaaPbytes
import Derived.Test.YtipdkendfcopiaaRows
import Derived.WalkKit
import Derived.ProofKit
import Derived.OpenShut
import Derived.ShutString
import Derived.ChangeOld
import Derived.Below
/- The pure statement of the law FnExactCheckBridge. -/
namespace Go.Proofs.Ytipdkendfcopiaa.Pr
open Go.RowKit Go.Proofs.Ytipdkendfcopiaa.Read Go.Proofs.YtipdkendfcopiaaW.PrintWords
set_option linter.unusedVariables false
/-- What is left of the law FnExactCheckBridge: a statement about numbers and lists. -/
def laws_FnExactCheckBridge.Pure : Prop := ∀ (a0 : Int) (a1 : Int) (l2 : (List Int)) (l3 : (List Int)) (l4 : (List (List Int))), okI a0 → okI a1 → (okL okB) l2 → (okL okB) l3 → (okL (okL okB)) l4 → ∃ k, laws_FnExactCheckBridge.f k a0 a1 l2 l3 l4 = some true
end Go.Proofs.Ytipdkendfcopiaa.Pr
/- The helpers over slices of slices of bytes: measured, copied, compared with themselves: plain facts. -/
namespace Go.Proofs.Ytipdkendfcopiaa.Pr
open Go.RowKit Go.Proofs.Ytipdkendfcopiaa.Read Go.Proofs.YtipdkendfcopiaaW.PrintWords
theorem rd2_nat {l : List (List Int)} {i : Nat} (h : i < l.length) : rd_L2 l (i : Int) = l[i] := by
  simp [rd_L2, List.getD_eq_getElem?_getD, List.getElem?_eq_getElem h]
theorem rows_ev {α : Type} (f : Nat → List Int → Option α) (g : List Int → α) : ∀ (l : List (List Int)), (∀ b ∈ l, Ev (fun k => f k b) (g b)) → ∃ N : Nat, ∀ k, N ≤ k → ∀ b ∈ l, f k b = some (g b)
  | [], _ => ⟨0, fun _ _ b hb => absurd hb List.not_mem_nil⟩
  | x :: l, h => by
    obtain ⟨n, hn⟩ := h x List.mem_cons_self
    obtain ⟨m, hm⟩ := rows_ev f g l fun b hb => h b (List.mem_cons_of_mem _ hb)
    refine ⟨n + m, fun k hk b hb => ?_⟩
    rcases List.mem_cons.1 hb with rfl | hb
    · exact hn k (by omega)
    · exact hm k (by omega) b hb
theorem szByteSS_l0 (l : List (List Int)) (hl : l.length ≤ 9223372036854775807) (hb : ∀ b ∈ l, b.length ≤ 9223372036854775807) (d : Nat) : ∀ (i : Nat) (n : Int), i + d = l.length → 0 ≤ n → n ≤ 1048576 → ∃ v, (∀ k, d < k → laws_szByteSS.l0 k l n i = some v) ∧ (0 ≤ v → ∀ j (h : j < l.length), i ≤ j → (l[j].length : Int) ≤ n) := by
  induction d with
  | zero =>
    intro i n hi h0 h1
    refine ⟨n, fun k hk => ?_, fun _ j h hj => by omega⟩
    obtain ⟨k, rfl⟩ : ∃ m, k = m + 1 := ⟨k - 1, by omega⟩
    simp only [laws_szByteSS.l0, if_neg (show ¬ ((i : Int) < l.length) by omega)]
  | succ d ih =>
    intro i n hi h0 h1
    have hlt : i < l.length := by omega
    have hbi := hb l[i] (List.getElem_mem hlt)
    have hw : wrap64 (n - (l[i].length : Int)) = n - l[i].length := w64 (by omega) (by omega)
    by_cases hneg : n - (l[i].length : Int) < 0
    · refine ⟨-1, fun k hk => ?_, fun h => by omega⟩
      obtain ⟨k, rfl⟩ : ∃ m, k = m + 1 := ⟨k - 1, by omega⟩
      simp only [laws_szByteSS.l0, if_pos (show ((i : Int) < l.length) by omega), if_pos (show (0 : Int) ≤ i by omega), rd2_nat hlt, szByteS_eq, hw, if_pos hneg, Option.bind_some, show ((-1 : Int) < 0) by omega, if_true]
    · obtain ⟨v, hv, hv2⟩ := ih (i + 1) (n - l[i].length) (by omega) (by omega) (by omega)
      refine ⟨v, fun k hk => ?_, fun h j hj hij => ?_⟩
      · obtain ⟨k, rfl⟩ : ∃ m, k = m + 1 := ⟨k - 1, by omega⟩
        have e2 : wrap64 ((i : Int) + 1) = ((i + 1 : Nat) : Int) := by rw [w64 (by omega) (by omega)]; rfl
        simp only [laws_szByteSS.l0, if_pos (show ((i : Int) < l.length) by omega), if_pos (show (0 : Int) ≤ i by omega), rd2_nat hlt, szByteS_eq, hw, if_neg hneg, Option.bind_some, e2]
        exact hv k (by omega)
      · rcases Nat.lt_or_ge i j with h2 | h2
        · have := hv2 h j hj h2
          omega
        · obtain rfl : i = j := by omega
          omega
theorem szByteSS_ev (l : List (List Int)) (hl : l.length ≤ 9223372036854775807) (hb : ∀ b ∈ l, b.length ≤ 9223372036854775807) : ∃ v, Ev (fun k => laws_szByteSS.f k l 1048576) v ∧ (0 ≤ v → l.length ≤ 1048576 ∧ ∀ b ∈ l, b.length ≤ 1048576) := by
  have hw : wrap64 (1048576 - (l.length : Int)) = 1048576 - l.length := w64 (by omega) (by omega)
  by_cases hneg : 1048576 - (l.length : Int) < 0
  · refine ⟨-1, ⟨0, fun k _ => ?_⟩, fun h => by omega⟩
    simp only [laws_szByteSS.f, hw, if_pos hneg]
  · obtain ⟨v, hv, hv2⟩ := szByteSS_l0 l hl hb l.length 0 (1048576 - l.length) (by omega) (by omega) (by omega)
    refine ⟨v, ⟨l.length + 1, fun k hk => ?_⟩, fun h => ⟨by omega, fun b hbm => ?_⟩⟩
    · simp only [laws_szByteSS.f, hw, if_neg hneg]
      exact hv k (by omega)
    · obtain ⟨j, hj, rfl⟩ := List.getElem_of_mem hbm
      have := hv2 h j hj (by omega)
      omega
theorem toByteSS_l0 (l : List (List Int)) (hl : l.length ≤ 11728124029610) (N : Nat) (hN : ∀ k, N ≤ k → ∀ b ∈ l, laws_toByteS.f k b = some b) (d : Nat) : ∀ (k i : Nat) (x3 : List (List Int)), i + d = l.length → x3.length = l.length → N + d < k → laws_toByteSS.l0 k l x3 i = some (x3.take i ++ l.drop i) := by
  induction d with
  | zero =>
    intro k i x3 hi h3 hk
    obtain ⟨k, rfl⟩ : ∃ m, k = m + 1 := ⟨k - 1, by omega⟩
    simp only [laws_toByteSS.l0]
    rw [if_neg (by omega), List.take_of_length_le (by omega), List.drop_of_length_le (by omega), List.append_nil]
  | succ d ih =>
    intro k i x3 hi h3 hk
    obtain ⟨k, rfl⟩ : ∃ m, k = m + 1 := ⟨k - 1, by omega⟩
    have hlt : i < l.length := by omega
    have e2 : wrap64 ((i : Int) + 1) = ((i + 1 : Nat) : Int) := by rw [w64 (by omega) (by omega)]; rfl
    simp only [laws_toByteSS.l0]
    rw [if_pos (by omega), if_pos (by omega), rd2_nat hlt, hN k (by omega) _ (List.getElem_mem hlt), Option.bind_some, if_pos (by omega), e2, Int.toNat_natCast, ih k (i + 1) (x3.set i l[i]) (by omega) (by simpa using h3) (by omega)]
    congr 1
    rw [List.take_succ_eq_append_getElem (by simp; omega), List.getElem_set_self, List.take_set_of_le (by omega), List.append_assoc, List.singleton_append, ← List.drop_eq_getElem_cons hlt]
theorem toByteSS_ev (l : List (List Int)) (hl : l.length ≤ 1048576) (hb : ∀ b ∈ l, b.length ≤ 1048576) : Ev (fun k => laws_toByteSS.f k l) l := by
  obtain ⟨N, hN⟩ := rows_ev (fun k b => laws_toByteS.f k b) id l fun b h => toByteS_ev b (by have := hb b h; omega)
  refine ⟨N + l.length + 1, fun k hk => ?_⟩
  have := toByteSS_l0 l (by omega) N hN l.length k 0 (List.replicate ((l.length : Int)).toNat []) (by omega) (by simp) (by omega)
  show laws_toByteSS.f k l = some l
  unfold laws_toByteSS.f
  rw [if_pos (by omega), if_pos (by omega)]
  simpa using this
theorem eqByteSS_l0 (l : List (List Int)) (hl : l.length ≤ 1048576) (N : Nat) (hN : ∀ k, N ≤ k → ∀ b ∈ l, laws_eqByteS.f k b b = some true) (d : Nat) : ∀ (k i : Nat), i + d = l.length → N + d < k → laws_eqByteSS.l0 k l l i = some true := by
  induction d with
  | zero =>
    intro k i hi hk
    obtain ⟨k, rfl⟩ : ∃ m, k = m + 1 := ⟨k - 1, by omega⟩
    simp only [laws_eqByteSS.l0]
    rw [if_neg (by omega)]
  | succ d ih =>
    intro k i hi hk
    obtain ⟨k, rfl⟩ : ∃ m, k = m + 1 := ⟨k - 1, by omega⟩
    have hlt : i < l.length := by omega
    have e2 : wrap64 ((i : Int) + 1) = ((i + 1 : Nat) : Int) := by rw [w64 (by omega) (by omega)]; rfl
    simp only [laws_eqByteSS.l0]
    rw [if_pos (by omega), if_pos (by omega), if_pos (by omega), rd2_nat hlt, hN k (by omega) _ (List.getElem_mem hlt), Option.bind_some, if_pos rfl, e2, ih k (i + 1) (by omega) (by omega)]
theorem eqByteSS_refl (l : List (List Int)) (hl : l.length ≤ 1048576) (hb : ∀ b ∈ l, b.length ≤ 1048576) : Ev (fun k => laws_eqByteSS.f k l l) true := by
  obtain ⟨N, hN⟩ := rows_ev (fun k b => laws_eqByteS.f k b b) (fun _ => true) l fun b h => eqByteS_refl b (by have := hb b h; omega)
  refine ⟨N + l.length + 1, fun k hk => ?_⟩
  show laws_eqByteSS.f k l l = some true
  unfold laws_eqByteSS.f
  rw [if_pos rfl]
  exact eqByteSS_l0 l hl N hN l.length k 0 (by omega) (by omega)
end Go.Proofs.Ytipdkendfcopiaa.Pr
/- The law FnExactCheckBridge, its plain part. -/
namespace Go.Proofs.Ytipdkendfcopiaa.Pure
open Go.RowKit Go.Proofs.Ytipdkendfcopiaa.Read Go.Proofs.YtipdkendfcopiaaW.PrintWords Go.Proofs.Ytipdkendfcopiaa.Pr
theorem FnExactCheckBridge : laws_FnExactCheckBridge.Pure := by
  intro a s old root path ha hs hold hroot hpath
  have hbytes : bridgeBytes old path := ⟨isBytes_okL hold, fun b hb => isBytes_okL (hpath.2 b hb)⟩
  apply Ev.rounds
  simp only [laws_FnExactCheckBridge.f]
  by_cases h0 : (old.length : Int) > 1048576
  · simp only [if_pos h0]; exact Ev.now _
  by_cases h4 : (root.length : Int) > 1048576
  · simp only [if_neg h0, if_pos h4]; exact Ev.now _
  simp only [if_neg h0, if_neg h4]
  obtain ⟨v, hv, hv2⟩ := szByteSS_ev path hpath.1 (fun b hb => (hpath.2 b hb).1)
  refine Ev.bind hv ?_
  by_cases hneg : v < 0
  · simp only [if_pos hneg]; exact Ev.now _
  obtain ⟨hp1, hp2⟩ := hv2 (by omega)
  simp only [if_neg hneg]
  have hL := toByteS_ev old (by omega)
  have hP := toByteSS_ev path hp1 hp2
  have hR := toByteS_ev root (by omega)
  have es : spec_CheckBridge.f a s old root path = some (bridgeL a s old root path) := if_pos hbytes
  have ei : impl_CheckBridge.f a s old root path = some (bridgeL a s old root path) := if_pos hbytes
  refine Ev.bind hL (Ev.bind hR (Ev.bind hP ?_))
  simp only [es, Option.bind_some]
  refine Ev.bind hL (Ev.bind hR (Ev.bind hP ?_))
  simp only [ei, Option.bind_some, bne_self_eq_false, Bool.false_eq_true, if_false]
  refine Ev.bind hL (Ev.bind (eqByteS_refl old (by omega)) ?_)
  simp only [if_true]
  refine Ev.bind hR (Ev.bind (eqByteS_refl root (by omega)) ?_)
  simp only [if_true]
  refine Ev.bind hP (Ev.bind (eqByteSS_refl path hp1 hp2) ?_)
  simp only [if_true]
  exact Ev.now _
end Go.Proofs.Ytipdkendfcopiaa.Pure
/- The law FnExactCheckBridge: whatever the input, the call returns true and the arguments read as before. No conditions. -/
namespace Go.Proofs.Ytipdkendfcopiaa.fnExactCheckBridge
open Go.ChangeShapes Go.WideShapes Go.ChangeAt Go.RowKit Go.Proofs.Ytipdkendfcopiaa.Read Go.Proofs.YtipdkendfcopiaaW.PrintWords Go.Proofs.Ytipdkendfcopiaa.Pr
open Go.ChangeMaps (open_string shut_string)
set_option linter.unusedVariables false
theorem own : ownKnob Try.prog.godebug = none := by kernel_rfl
theorem laidOut : laidOutB Try.prog = true := by kernel_rfl
set_option maxRecDepth 100000 in
theorem lifted (os : Os) (started : os.Started) (H : Type) (enc : TypeId × Value → H) :
    ReturnsInHanded {} Try.checked os 11 .any (Rows.fnExactCheckBridgeSpec.pre6 enc Try.prog Try.f11 Rows.fnExactCheckBridgeRow.domain false) (Rows.fnExactCheckBridgeSpec.post enc Try.prog Try.f11 false true false false) := by
  refine returnsInHanded_of_change (C := Try.checked) own started (by kernel_rfl) Try.func11
    (ChangeSpec.witness6 (enc := enc) (C := Try.checked) false ⟨#[], #[.int .i64 0, .int .i64 0, .slice none 0 0, .slice none 0 0, .slice none 0 0], []⟩ 8 (by kernel_rfl) (by kernel_rfl) (by kernel_rfl) (by kernel_rfl)) ?_
  intro W base args ds gs before hval0 hW hcnd _
  have hval : ∀ (j : Nat) t v, Try.f11.params[j]? = some t → args[j]? = some v → Value.okWide Try.prog W .any base t v := hval0
  have hW' := hW
  obtain ⟨p, q, hA0, hV, rfl, hfz, hnd⟩ := hW
  have hA : DataW.TrodAll enc Try.prog W 0 (fun _ => true) true Try.f11.params.toList args.toList ds p := hA0
  rw [Try.params11] at hA hval
  obtain ⟨v0, vs0, d0, ds0, p0, q0, hargs, rfl, rfl, h0, r0⟩ := trodAll_cons hA
  obtain ⟨v1, vs1, d1, ds1, p1, q1, rfl, rfl, rfl, h1, r1⟩ := trodAll_cons r0
  obtain ⟨v2, vs2, d2, ds2, p2, q2, rfl, rfl, rfl, h2, r2⟩ := trodAll_cons r1
  obtain ⟨v3, vs3, d3, ds3, p3, q3, rfl, rfl, rfl, h3, r3⟩ := trodAll_cons r2
  obtain ⟨v4, vs4, d4, ds4, p4, q4, rfl, rfl, rfl, h4, r4⟩ := trodAll_cons r3
  obtain ⟨rfl, rfl, rfl⟩ := trodAll_nil r4
  obtain rfl : args = #[v0, v1, v2, v3, v4] := by cases args; simp_all
  obtain ⟨rfl, rfl⟩ := trodVars_none hV
  have lt0 : ∀ x ∈ p0, x.block < W.heap.size := by obtain ⟨m, hm⟩ := h0; exact DataW.trod_lt m _ _ _ hm
  have bk0 := fun {W' : World} (bel : Below W.heap.size W W') => Below.trod laidOut (by kernel_rfl) (of_decide_eq_true (by kernel_rfl)) h0 bel lt0
  obtain ⟨a0, rfl, _, _, w0⟩ := open_int Try.underlying3 (hval 0 3 v0 rfl rfl) h0
  have o0 := int_bounds w0
  have lt1 : ∀ x ∈ p1, x.block < W.heap.size := by obtain ⟨m, hm⟩ := h1; exact DataW.trod_lt m _ _ _ hm
  have bk1 := fun {W' : World} (bel : Below W.heap.size W W') => Below.trod laidOut (by kernel_rfl) (of_decide_eq_true (by kernel_rfl)) h1 bel lt1
  obtain ⟨a1, rfl, _, _, w1⟩ := open_int Try.underlying3 (hval 1 3 v1 rfl rfl) h1
  have o1 := int_bounds w1
  have lt2 : ∀ x ∈ p2, x.block < W.heap.size := by obtain ⟨m, hm⟩ := h2; exact DataW.trod_lt m _ _ _ hm
  have bk2 := fun {W' : World} (bel : Below W.heap.size W W') => Below.trod laidOut (by kernel_rfl) (of_decide_eq_true (by kernel_rfl)) h2 bel lt2
  obtain ⟨A2, c2, l2, rfl, hl2, hC2, o2⟩ := arg_slice Try.underlying22 (tellsL Try.underlying22 (by kernel_rfl) (tellsB Try.underlying5 (by kernel_rfl))) (hval 2 22 v2 rfl rfl) h2
  have lt3 : ∀ x ∈ p3, x.block < W.heap.size := by obtain ⟨m, hm⟩ := h3; exact DataW.trod_lt m _ _ _ hm
  have bk3 := fun {W' : World} (bel : Below W.heap.size W W') => Below.trod laidOut (by kernel_rfl) (of_decide_eq_true (by kernel_rfl)) h3 bel lt3
  obtain ⟨A3, c3, l3, rfl, hl3, hC3, o3⟩ := arg_slice Try.underlying22 (tellsL Try.underlying22 (by kernel_rfl) (tellsB Try.underlying5 (by kernel_rfl))) (hval 3 22 v3 rfl rfl) h3
  have lt4 : ∀ x ∈ p4, x.block < W.heap.size := by obtain ⟨m, hm⟩ := h4; exact DataW.trod_lt m _ _ _ hm
  have bk4 := fun {W' : World} (bel : Below W.heap.size W W') => Below.trod laidOut (by kernel_rfl) (of_decide_eq_true (by kernel_rfl)) h4 bel lt4
  obtain ⟨A4, c4, l4, rfl, hl4, hC4, o4⟩ := arg_slice Try.underlying44 (tellsL Try.underlying44 (by kernel_rfl) (tellsL Try.underlying22 (by kernel_rfl) (tellsB Try.underlying5 (by kernel_rfl)))) (hval 4 44 v4 rfl rfl) h4
  obtain ⟨k, hk⟩ := Pure.FnExactCheckBridge a0 a1 l2 l3 l4 o0 o1 o2 o3 o4
  refine (laws_FnExactCheckBridge.calls k a0 a1 _ _ l2 _ _ l3 _ _ l4 true W hC2 hl2 hC3 hl3 hC4 hl4 hk).mono fun e W' hpost => ?_
  obtain ⟨he, hb⟩ := hpost
  have bel : Below W.heap.size W W' := hb
  subst he
  exact ⟨_, rfl, _, _, _, [], _, [], hW', trodAll_mk1 (shut_bool Try.underlying4 _), (trodAll_cons_mk (bk0 bel) (trodAll_cons_mk (bk1 bel) (trodAll_cons_mk (bk2 bel) (trodAll_cons_mk (bk3 bel) (trodAll_cons_mk (bk4 bel) trodAll_mk0))))), rfl, bel.frame _, fun h => by cases h⟩
theorem over : Rows.fnExactCheckBridgeRow.holds Try.pinned (OpenSpec.ofChange Rows.fnExactCheckBridgeSpec) :=
  OpenClaim.holds_of_wide 11 Try.f11 rfl rfl rfl rfl rfl rfl rfl ⟨rfl, rfl, rfl, rfl, rfl⟩ rfl rfl rfl rfl rfl (by kernel_rfl) Try.func11 (by kernel_rfl)
    (of_decide_eq_true (by kernel_rfl)) (by unfold Func.isWrapper; first | (rw [if_pos (by decide +kernel)]; kernel_rfl) | (rw [if_neg (by decide +kernel)]; exact ⟨rfl, rfl⟩))
    (fun os started H enc _ => lifted os started H enc)
theorem proved : Rows.FnExactCheckBridgeSaid := over
#print axioms proved
end Go.Proofs.Ytipdkendfcopiaa.fnExactCheckBridge
namespace Go.Proofs.Ytipdkendfcopiaa
/-- The row, under a short name, for the claim. -/
theorem fnExactCheckBridge_holds : Rows.FnExactCheckBridgeSaid := fnExactCheckBridge.proved
end Go.Proofs.Ytipdkendfcopiaa
