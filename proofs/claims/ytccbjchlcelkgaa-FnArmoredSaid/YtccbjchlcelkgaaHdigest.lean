/- The walk of impl.Digest: what it computes (dg), for every slice of bytes. -/
import Derived.Test.YtccbjchlcelkgaaPr0x
import Derived.StillTailTactics
import Derived.Test.YtccbjchlcelkgaaPr79
namespace Go.Proofs.Ytccbjchlcelkgaa.Pr
open Go.RowKit Go.Proofs.YtccbjchlcelkgaaW.PrintWords Go.Proofs.YtccbjchlcelkgaaW.PrintLast Go.Proofs.YtccbjchlcelkgaaW.PrintMore
set_option linter.unusedVariables false
def mulT : List Int := [1103515245, 69069, 1664525, 22695477]
def stepAt (a : List Int) (x : Int) (i : Nat) : List Int := a.set i ((a.getD i 0 * mulT.getD i 0 + x + 1 + a.getD ((i+1)%4) 0) % 2147483579)
def mixN (a : List Int) (x : Int) : Nat → List Int
  | 0 => a
  | i+1 => stepAt (mixN a x i) x i
structure OnlyB (w w' : World) (g : Nat) : Prop where
  os : w'.os = w.os
  tape : w'.tape = w.tape
  output : w'.output = w.output
  size : w'.heap.size = w.heap.size
  block : ∀ k, k ≠ g → w'.heap[k]? = w.heap[k]?
theorem OnlyB.refl (w : World) (g : Nat) : OnlyB w w g := ⟨rfl, rfl, rfl, rfl, fun _ _ => rfl⟩
theorem OnlyB.drew {w w' : World} {g : Nat} (h : OnlyB w w' g) : OnlyB w w'.drew g := ⟨h.os, h.tape, h.output, h.size, h.block⟩
theorem OnlyB.set {w w' : World} {g : Nat} (h : OnlyB w w' g) (j : Nat) (u : Value) : OnlyB w (w'.setCell ⟨g, j, none⟩ u) g :=
  ⟨h.os, h.tape, h.output, by simpa [World.setCell] using h.size, fun k hk => (Below.heap_setCell w' ⟨g, j, none⟩ u k hk).trans (h.block k hk)⟩
theorem mulOk : ∀ j : Nat, j < 4 → 0 ≤ mulT.getD j 0 ∧ mulT.getD j 0 < 2147483579 := by decide
theorem mix_len (l : List Int) (x : Int) (k : Nat) : (mixN l x k).length = l.length := by
  induction k with
  | zero => rfl
  | succ k ih => simp [mixN, stepAt, ih]
theorem prod_bd {a b : Int} (ha : 0 ≤ a) (ha2 : a < 2147483579) (hb : 0 ≤ b) (hb2 : b < 2147483579) : 0 ≤ a * b ∧ a * b ≤ 4611685717779682084 := by
  refine ⟨Int.mul_nonneg ha hb, ?_⟩
  have := Int.mul_le_mul (show a ≤ 2147483578 by omega) (show b ≤ 2147483578 by omega) hb (by omega)
  omega
theorem mix_bd (l : List Int) (x : Int) (hx : 0 ≤ x) (hl : l.length = 4) (hb : ∀ j, j < 4 → 0 ≤ l.getD j 0 ∧ l.getD j 0 < 2147483579) (k : Nat) (hk : k ≤ 4) : ∀ j, j < 4 → 0 ≤ (mixN l x k).getD j 0 ∧ (mixN l x k).getD j 0 < 2147483579 := by
  induction k with
  | zero => exact hb
  | succ k ih =>
    intro j hj
    have ih := ih (by omega)
    have hlen := mix_len l x k
    simp only [mixN, stepAt]
    by_cases e : j = k
    · subst e
      rw [List.getD_eq_getElem?_getD, List.getElem?_set_self (by omega)]
      simp only [Option.getD_some]
      omega
    · rw [List.getD_eq_getElem?_getD, List.getElem?_set_ne (by omega), ← List.getD_eq_getElem?_getD]
      exact ih j hj
theorem nums_cell {w : World} {g : Nat} {l : List Int} {t : TypeId} (h : w.heap[g]? = some (.cells (nums .i64 l).toArray t (0,0))) (k : Nat) (hk : k < l.length) : w.cell? ⟨g, k, none⟩ = some (.int .i64 (l.getD k 0)) := by
  rw [blk_cell h]
  simp [nums, List.getElem?_map, List.getElem?_eq_getElem hk, List.getD_eq_getElem?_getD]
set_option maxHeartbeats 1000000 in
set_option maxRecDepth 100000 in
theorem eat_calls (x : Int) (l : List Int) (hl : l.length = 4) (hb : ∀ j, j < 4 → 0 ≤ l.getD j 0 ∧ l.getD j 0 < 2147483579) (ga gm : Nat) (w : World) (hx0 : 0 ≤ x) (hx1 : x ≤ 255)
  (ha : w.heap[ga]? = some (.cells (nums .i64 l).toArray 163 (0,0))) (hm : w.heap[gm]? = some (.cells (nums .i64 mulT).toArray 163 (0,0))) (hne : ga ≠ gm) :
  Calls Try.prog 165 #[.int .u8 x, .pointer (some ⟨ga, 0, none⟩), .pointer (some ⟨gm, 0, none⟩)] w fun e w' => e = .returned (.tuple #[]) ∧ w'.heap[ga]? = some (.cells (nums .i64 (mixN l x 4)).toArray 163 (0,0)) ∧ OnlyB w w' ga := by
  have HL := Aside0.mk hl; have HB := Aside0.mk hb; have HA := Aside0.mk ha; have HM := Aside0.mk hm
  clear hl hb ha hm
  go_enter Try.func165, Try.ntmps165
  go_wp2
  go_loopw [5] (fun i wr => ∃ k : Nat, k ≤ 4 ∧ i = .int .i64 k ∧ Aside0 (wr.heap[ga]? = some (.cells (nums .i64 (mixN l x k)).toArray 163 (0,0)) ∧ OnlyB w wr ga)) (fun i _ => 4 - (intOf i).toNat)
  case atStart => exact ⟨0, by omega, rfl, ⟨HA.out, OnlyB.refl _ _⟩⟩
  case round =>
    obtain ⟨k, hk, rfl, HW⟩ := hrel
    by_cases hlt : k < 4
    · obtain ⟨a, ea⟩ : ∃ a, a = mixN l x k := ⟨_, rfl⟩
      have hc1 := nums_cell HW.out.1 k (by rw [mix_len, HL.out]; omega)
      have hc2 := nums_cell HW.out.1 ((k+1)%4) (by rw [mix_len, HL.out]; omega)
      have hc3 := nums_cell ((HW.out.2.block gm (Ne.symm hne)).trans HM.out) k hlt
      have hf := blk_frozen HW.out.1 k
      have b1 := mix_bd l x hx0 HL.out HB.out k hk k hlt
      have b2 := mix_bd l x hx0 HL.out HB.out k hk ((k+1)%4) (by omega)
      have b3 := mulOk k hlt
      obtain ⟨p1, eP1⟩ : ∃ p, p = (mixN l x k).getD k 0 := ⟨_, rfl⟩
      obtain ⟨p2, eP2⟩ : ∃ p, p = (mixN l x k).getD ((k+1)%4) 0 := ⟨_, rfl⟩
      obtain ⟨p3, eP3⟩ : ∃ p, p = mulT.getD k 0 := ⟨_, rfl⟩
      rw [← eP1] at hc1 b1; rw [← eP2] at hc2 b2; rw [← eP3] at hc3 b3
      have b4 := prod_bd b1.1 b1.2 b3.1 b3.2
      have EP1 := Aside0.mk eP1; have EP2 := Aside0.mk eP2; have EP3 := Aside0.mk eP3; have EA := Aside0.mk ea
      clear eP1 eP2 eP3 ea
      go_wp2
      have e1 : IntKind.i64.wrap (p1 * p3) = p1 * p3 := IntWalk.i64_in _ (by omega)
      have e2 : IntKind.i64.wrap x = x := IntWalk.i64_in _ (by omega)
      have e3 : IntKind.i64.wrap (p1 * p3 + x) = p1 * p3 + x := IntWalk.i64_in _ (by omega)
      have e4 : IntKind.i64.wrap (p1 * p3 + x + 1) = p1 * p3 + x + 1 := IntWalk.i64_in _ (by omega)
      have e5 : IntKind.i64.wrap (k + 1) = k + 1 := IntWalk.i64_in _ (by omega)
      have e6 : ((k : Int) + 1).tmod 4 = ((k : Int) + 1) % 4 := Int.tmod_eq_emod_of_nonneg (by omega)
      have e7 : IntKind.i64.wrap (p1 * p3 + x + 1 + p2) = p1 * p3 + x + 1 + p2 := IntWalk.i64_in _ (by omega)
      have e8 : (p1 * p3 + x + 1 + p2).tmod 2147483579 = (p1 * p3 + x + 1 + p2) % 2147483579 := Int.tmod_eq_emod_of_nonneg (by omega)
      have n0 : 0 ≤ ((k : Int) + 1) % 4 := by omega
      have n4 : ((k : Int) + 1) % 4 < 4 := by omega
      have n1 : (((k : Int) + 1) % 4).toNat = (k + 1) % 4 := by omega
      go_still_tail 20, (by kernel_rfl)
      clear e1 e2 e3 e4 e5 e6 e7 e8 n0 n4 n1
      skip
      change wpList _ _ _ _ _ wr.drew
      have HW2 : Aside0 (wr.drew.heap[ga]? = some (.cells (nums .i64 (mixN l x k)).toArray 163 (0,0)) ∧ OnlyB w wr.drew ga) := ⟨HW.out.1, HW.out.2.drew⟩
      clear HW hc1 hc2 hc3 hf
      generalize wr.drew = w2 at HW2 ⊢
      have hc1 := nums_cell HW2.out.1 k (by rw [mix_len, HL.out]; omega)
      have hf := blk_frozen HW2.out.1 k
      go_wp2
      go_roundw
      case rel =>
        refine ⟨k + 1, by omega, by go_num, ?_, HW2.out.2.set _ _⟩
        rw [blk_set HW2.out.1]
        simp only [mixN, stepAt, nums, List.map_set, List.setIfInBounds_toArray, EP1.out, EP2.out, EP3.out]
      case measure => simp [intOf]; omega
    · go_wp2
      obtain rfl : k = 4 := by omega
      exact bodyPost_end (results_none rfl _ _ _) rfl ⟨rfl, HW.out.1, HW.out.2⟩
def isBytes (l : List Int) : Prop := ∀ x ∈ l, 0 ≤ x ∧ x ≤ 255
instance (l : List Int) : Decidable (isBytes l) := by unfold isBytes; infer_instance
def dgMix (a : List Int) (x : Int) : List Int := mixN a x 4
def dgAll (a : List Int) (xs : List Int) : List Int := xs.foldl dgMix a
def yb (n : Int) : List Int := [n % 256, (n / 256) % 256, (n / 65536) % 256, (n / 16777216) % 256]
def dgS (l : List Int) : List Int := dgAll (dgAll (dgAll [11, 22, 33, 44] l) (yb l.length)) (List.replicate 8 0)
/-- The digest. -/
def dg (l : List Int) : List Int := (dgS l).flatMap yb
def impl_Digest.f (l0 : List Int) : Option (List Int) := if isBytes l0 then (if (l0.length : Int) > 20000 then some [] else some (dg l0)) else none
theorem yb_bytes (n : Int) : isBytes (yb n) := by
  intro x hx
  simp only [yb, List.mem_cons, List.not_mem_nil, or_false] at hx
  omega
theorem yb_len (n : Int) : (yb n).length = 4 := rfl
structure DigInv (w wr : World) (a : List Int) : Prop where
  A : wr.heap[w.heap.size]? = some (.cells (nums .i64 a).toArray 163 (0,0))
  M : wr.heap[w.heap.size + 1]? = some (.cells (nums .i64 mulT).toArray 163 (0,0))
  B : Below w.heap.size w wr
  len : a.length = 4
  bd : ∀ j, j < 4 → 0 ≤ a.getD j 0 ∧ a.getD j 0 < 2147483579
theorem DigInv.to {w wr w' : World} {a : List Int} {x : Int} (h : DigInv w wr a) (hx : 0 ≤ x) (h1 : w'.heap[w.heap.size]? = some (.cells (nums .i64 (mixN a x 4)).toArray 163 (0,0))) (h2 : OnlyB wr w' w.heap.size) : DigInv w w' (dgMix a x) :=
  ⟨h1, (h2.block _ (by omega)).trans h.M, ⟨h2.os.trans h.B.os, h2.tape.trans h.B.tape, h2.output.trans h.B.output, by rw [h2.size]; exact h.B.size, fun k hk => (h2.block k (by omega)).trans (h.B.block k hk)⟩, by rw [dgMix, mix_len, h.len], mix_bd a x hx h.len h.bd 4 (by omega)⟩
theorem DigInv.drew {w wr : World} {a : List Int} (h : DigInv w wr a) : DigInv w wr.drew a := ⟨h.A, h.M, h.B.drew, h.len, h.bd⟩
/-- What is made or written above. -/
theorem DigInv.keep {w wr w' : World} {a : List Int} (h : DigInv w wr a) (hb : Below (w.heap.size + 2) wr w') : DigInv w w' a :=
  ⟨(hb.block _ (by omega)).trans h.A, (hb.block _ (by omega)).trans h.M, h.B.trans (hb.mono (by omega)), h.len, h.bd⟩
theorem DigInv.lt {w wr : World} {a : List Int} (h : DigInv w wr a) : w.heap.size + 2 ≤ wr.heap.size := blk_lt h.M
theorem eat_inv {w wr : World} {a : List Int} (h : DigInv w wr a) (x : Int) (hx0 : 0 ≤ x) (hx1 : x ≤ 255) :
    Calls Try.prog 165 #[.int .u8 x, .pointer (some ⟨w.heap.size, 0, none⟩), .pointer (some ⟨w.heap.size + 1, 0, none⟩)] wr fun e w' => e = .returned (.tuple #[]) ∧ DigInv w w' (dgMix a x) ∧ OnlyB wr w' w.heap.size :=
  (eat_calls x a h.len h.bd _ _ wr hx0 hx1 h.A h.M (by omega)).mono fun e w' ⟨he, h1, h2⟩ => ⟨he, h.to hx0 h1 h2, h2⟩
theorem DigInv.start (w : World) : DigInv w ((w.alloc (.cells #[.int .i64 11, .int .i64 22, .int .i64 33, .int .i64 44] 163)).alloc (.cells #[.int .i64 1103515245, .int .i64 69069, .int .i64 1664525, .int .i64 22695477] 163)) [11, 22, 33, 44] :=
  ⟨blk_alloc (blk_new w _) _, by have := blk_new (w.alloc (.cells #[.int .i64 11, .int .i64 22, .int .i64 33, .int .i64 44] 163)) (.cells (nums .i64 mulT).toArray 163 (0,0)); simpa [nums, mulT] using this, ((Below.refl _ _).alloc (Nat.le_refl _) _).alloc (by simp) _, rfl, by decide⟩
theorem rd_mem {l : List Int} {k : Nat} (h : k < l.length) : rd l k ∈ l := by
  simp [rd, List.getD_eq_getElem?_getD, List.getElem?_eq_getElem h]
theorem take_snoc_rd {l : List Int} {k : Nat} (h : k < l.length) : l.take (k + 1) = l.take k ++ [rd l k] := by
  rw [List.take_succ_eq_append_getElem h]; simp [rd, List.getD_eq_getElem?_getD, List.getElem?_eq_getElem h]
theorem dgAll_nil (a : List Int) : dgAll a [] = a := rfl
theorem dgAll_snoc (a l : List Int) (x : Int) : dgAll a (l ++ [x]) = dgMix (dgAll a l) x := by simp [dgAll]
theorem R_only {α : Type} {d : Kd α} {e base : Nat} {w w' : World} {ok : Nat → Prop} {v : Value} {xs : List α} (h : d.R e w base ok v xs) {g : Nat} (ho : OnlyB w w' g) (hg : g < base) : d.R e w' base ok v xs :=
  Kd.R_mono (Kd.R_move (Kd.R_bound h) (fun k hk => ho.block k (by have := hk.2.1; omega))) (fun _ hk => hk.1)
theorem R_at {e base n c : Nat} {w : World} {ok : Nat → Prop} {kd : IntKind} {A : Option Addr} {xs : List Int} (h : (Kd.int kd).R e w base ok (.slice A n c) xs) (k : Nat) (hk : k < xs.length) :
    ∃ ad, A = some ad ∧ w.cell? (ad.add k) = some (.int kd (rd xs k)) := by
  obtain ⟨A', c', he, _, hC⟩ := Kd.R_reads h
  injection he with h1 h2 h3
  subst h1
  obtain ⟨ad, h4, h5⟩ := Kd.at_int hC k (by omega) (by omega)
  exact ⟨ad, h4, by simpa using h5⟩
theorem agg4_index0 (b0 b1 b2 b3 : Int) (W : World) : (Instr.index 163 (.agg #[.int .i64 b0, .int .i64 b1, .int .i64 b2, .int .i64 b3]) (.int .i64 0)).run Try.prog W = .ok (.int .i64 b0) W := by kernel_rfl
theorem agg4_index1 (b0 b1 b2 b3 : Int) (W : World) : (Instr.index 163 (.agg #[.int .i64 b0, .int .i64 b1, .int .i64 b2, .int .i64 b3]) (.int .i64 1)).run Try.prog W = .ok (.int .i64 b1) W := by kernel_rfl
theorem agg4_index2 (b0 b1 b2 b3 : Int) (W : World) : (Instr.index 163 (.agg #[.int .i64 b0, .int .i64 b1, .int .i64 b2, .int .i64 b3]) (.int .i64 2)).run Try.prog W = .ok (.int .i64 b2) W := by kernel_rfl
theorem agg4_index3 (b0 b1 b2 b3 : Int) (W : World) : (Instr.index 163 (.agg #[.int .i64 b0, .int .i64 b1, .int .i64 b2, .int .i64 b3]) (.int .i64 3)).run Try.prog W = .ok (.int .i64 b3) W := by kernel_rfl
theorem agg4_index (b0 b1 b2 b3 : Int) (k : Nat) (hk : k < 4) (W : World) : (Instr.index 163 (.agg #[.int .i64 b0, .int .i64 b1, .int .i64 b2, .int .i64 b3]) (.int .i64 (k : Int))).run Try.prog W = .ok (.int .i64 (rd [b0, b1, b2, b3] k)) W := by
  rcases k with _ | _ | _ | _ | k
  · exact agg4_index0 b0 b1 b2 b3 W
  · exact agg4_index1 b0 b1 b2 b3 W
  · exact agg4_index2 b0 b1 b2 b3 W
  · exact agg4_index3 b0 b1 b2 b3 W
  · omega
set_option maxHeartbeats 1000000 in
set_option maxRecDepth 100000 in
theorem impl_Digest.calls (A0 : Option Addr) (c0 : Nat) (l0 : List Int) (r : List Int) (w : World) (hr0 : Kd.C (Kd.int .u8) w A0 l0.length l0) (hc0 : l0.length ≤ c0) (h : impl_Digest.f l0 = some r) :
    Calls Try.prog 132 #[.slice A0 l0.length c0] w fun e w' => ∃ v0_ : Value, e = .returned (v0_) ∧ Kd.R (Kd.int .u8) 5 w' w.heap.size (fun _ => True) v0_ r ∧ Below w.heap.size w w' := by
  have HR0 := Aside0.mk hr0
  have HC0 := Aside0.mk hc0
  clear hr0 hc0
  unfold impl_Digest.f at h
  by_cases hb : isBytes l0
  case neg => rw [if_neg hb] at h; cases h
  rw [if_pos hb] at h
  have HBY := Aside0.mk hb
  clear hb
  by_cases hbig : (l0.length : Int) > 20000
  · rw [if_pos hbig] at h
    obtain rfl := Option.some.inj h
    clear h
    go_enter Try.func132, Try.ntmps132
    go_wp2
    go_ret
    exact ⟨_, rfl, Kd.R_nil _ _ _ _ _, Below.refl _ _⟩
  · rw [if_neg hbig] at h
    obtain rfl := Option.some.inj h
    clear h
    go_enter Try.func132, Try.ntmps132
    go_wp2
    have HI := Aside0.mk (DigInv.start w)
    generalize ((w.alloc (.cells #[.int .i64 11, .int .i64 22, .int .i64 33, .int .i64 44] 163)).alloc (.cells #[.int .i64 1103515245, .int .i64 69069, .int .i64 1664525, .int .i64 22695477] 163)) = w2 at HI ⊢
    go_loopw [21] (fun i wr => ∃ k : Nat, k ≤ l0.length ∧ i = .int .i64 k ∧ Aside0 (DigInv w wr (dgAll [11, 22, 33, 44] (l0.take k)))) (fun i _ => l0.length - (intOf i).toNat)
    case atStart => exact ⟨0, by omega, rfl, HI⟩
    case round =>
      clear HI
      obtain ⟨k, hk, rfl, HW⟩ := hrel
      by_cases hlt : k < l0.length
      · obtain ⟨ad, rfl, hcell⟩ := Kd.at_int (Kd.C_below HR0.out HW.out.B) k (by omega) (by omega)
        have hby := HBY.out (rd l0 k) (rd_mem hlt)
        obtain ⟨x, ex⟩ : ∃ x, x = rd l0 k := ⟨_, rfl⟩
        rw [Int.toNat_natCast] at hcell
        rw [← ex] at hcell hby
        have EX := Aside0.mk ex
        clear ex
        go_wp2_with (go_at_call 165; refine (eat_inv HW.out x hby.1 hby.2).mono ?_; rintro e w' ⟨rfl, HN, _⟩; replace HN := Aside0.mk HN)
        go_roundw
        case rel => exact ⟨k + 1, by omega, by go_num, ⟨by rw [take_snoc_rd hlt, ← EX.out, dgAll_snoc]; exact HN.out⟩⟩
        case measure => simp [intOf]; omega
      · obtain rfl : k = l0.length := by omega
        rw [List.take_length] at HW
        clear hlt hk
        have HX := HW
        go_wp2_with (go_at_call 79; refine (impl_ybytes.calls (l0.length : Int) (yb l0.length) _ rfl).mono ?_; rintro e w1 ⟨v1, rfl, HV, HB1⟩; obtain ⟨A1, c1, rfl⟩ := Kd.R_slice HV; replace HW := Aside0.mk (HW.out.keep (HB1.mono HW.out.lt)); replace HV := Aside0.mk (Kd.R_lower HV (base' := w.heap.size + 2) (DigInv.lt HX.out)); clear HB1)
        clear HX
        have HYB := Aside0.mk (yb_bytes l0.length)
        have hyl : (yb (l0.length : Int)).length = 4 := rfl
        replace hyl := Aside0.mk hyl
        go_loopw [33] (fun i wr => ∃ k : Nat, k ≤ (yb l0.length).length ∧ i = .int .i64 k ∧ Aside0 (DigInv w wr (dgAll (dgAll [11, 22, 33, 44] l0) ((yb l0.length).take k)) ∧ Kd.R (Kd.int .u8) 5 wr (w.heap.size + 2) (fun _ => True) (.slice A1 (yb (l0.length : Int)).length c1) (yb l0.length))) (fun i _ => (yb l0.length).length - (intOf i).toNat)
        case atStart => exact ⟨0, by omega, rfl, ⟨HW.out, HV.out⟩⟩
        case round =>
          clear HW HV
          obtain ⟨k, hk, rfl, HW⟩ := hrel
          by_cases hlt : k < (yb l0.length).length
          · obtain ⟨ad, rfl, hcell⟩ := R_at HW.out.2 k hlt
            have hby := HYB.out (rd (yb l0.length) k) (rd_mem hlt)
            obtain ⟨x, ex⟩ : ∃ x, x = rd (yb l0.length) k := ⟨_, rfl⟩
            rw [← ex] at hcell hby
            have EX := Aside0.mk ex
            clear ex
            have hyl5 : (yb (l0.length : Int)).length ≤ 4 := Nat.le_of_eq hyl.out
            go_wp2_with (go_at_call 165; refine (eat_inv HW.out.1 x hby.1 hby.2).mono ?_; rintro e w' ⟨rfl, HN, HO⟩; replace HN := Aside0.mk HN; replace HO := Aside0.mk (R_only HW.out.2 HO (by omega)))
            go_roundw
            case rel => exact ⟨k + 1, by omega, by go_num, ⟨by rw [take_snoc_rd hlt, ← EX.out, dgAll_snoc]; exact HN.out, HO.out⟩⟩
            case measure => simp [intOf]; omega
          · obtain rfl : k = (yb l0.length).length := by omega
            rw [List.take_length] at HW
            clear hlt hk
            replace HW := Aside0.mk HW.out.1
            go_wp2
            go_loopw [41] (fun i wr => ∃ k : Nat, k ≤ 8 ∧ i = .int .i64 k ∧ Aside0 (DigInv w wr (dgAll (dgAll (dgAll [11, 22, 33, 44] l0) (yb l0.length)) (List.replicate k 0)))) (fun i _ => 8 - (intOf i).toNat)
            case atStart => exact ⟨0, by omega, rfl, ⟨by rw [List.replicate_zero, dgAll_nil]; exact HW.out⟩⟩
            case round =>
              clear HW
              obtain ⟨k, hk, rfl, HW⟩ := hrel
              by_cases hlt : k < 8
              · go_wp2_with (go_at_call 165; refine (eat_inv HW.out 0 (by omega) (by omega)).mono ?_; rintro e w' ⟨rfl, HN, HO⟩; clear HO; replace HN := Aside0.mk HN)
                go_roundw
                case rel => exact ⟨k + 1, by omega, by go_num, ⟨by rw [List.replicate_succ', dgAll_snoc]; exact HN.out⟩⟩
                case measure => simp [intOf]; omega
              · obtain rfl : k = 8 := by omega
                rw [show ((8 : Nat) : Int) = 8 from rfl]
                clear hlt hk
                replace HW : Aside0 (DigInv w wr (dgS l0)) := HW
                obtain ⟨b0, b1, b2, b3, eb⟩ : ∃ b0 b1 b2 b3, dgS l0 = [b0, b1, b2, b3] := by
                  have := HW.out.len
                  match dgS l0, this with
                  | [b0, b1, b2, b3], _ => exact ⟨b0, b1, b2, b3, rfl⟩
                have hb0 : wr.cell? ⟨w.heap.size, 0, none⟩ = some (.int .i64 b0) := by rw [blk_cell HW.out.A, eb]; rfl
                have hb1 : wr.cell? ⟨w.heap.size, 1, none⟩ = some (.int .i64 b1) := by rw [blk_cell HW.out.A, eb]; rfl
                have hb2 : wr.cell? ⟨w.heap.size, 2, none⟩ = some (.int .i64 b2) := by rw [blk_cell HW.out.A, eb]; rfl
                have hb3 : wr.cell? ⟨w.heap.size, 3, none⟩ = some (.int .i64 b3) := by rw [blk_cell HW.out.A, eb]; rfl
                replace eb := Aside0.mk eb
                go_wp2
                replace HW := Aside0.mk HW.out.B
                clear hb0 hb1 hb2 hb3 hbig
                go_loopw [47, 10] (fun i v W => ∃ (k : Nat) (ys : List Int), k ≤ 4 ∧ i = .int .i64 k ∧ Aside0 (ys = ([b0, b1, b2, b3].take k).flatMap yb ∧ ys.length = 4 * k ∧ Kd.R (Kd.int .u8) 5 W w.heap.size (fun _ => True) v ys ∧ Below w.heap.size w W)) (fun i _ _ => 4 - (intOf i).toNat)
                case atStart => exact ⟨0, [], by omega, rfl, ⟨rfl, by simp, Kd.R_nil _ _ _ _ _, HW.out⟩⟩
                case round =>
                  clear HW
                  obtain ⟨k, ys, hk, rfl, HW⟩ := hrel
                  obtain ⟨A2, c2, rfl⟩ := Kd.R_slice HW.out.2.2.1
                  by_cases hlt : k < 4
                  · have hi := agg4_index b0 b1 b2 b3 k hlt
                    obtain ⟨q, eq⟩ : ∃ q, q = rd [b0, b1, b2, b3] k := ⟨_, rfl⟩
                    rw [← eq] at hi
                    replace eq := Aside0.mk eq
                    obtain ⟨zs, ez⟩ : ∃ zs, zs = yb q := ⟨_, rfl⟩
                    have hz : Aside0 (impl_ybytes.f q = some zs ∧ zs.length = 4) := ⟨by rw [ez]; rfl, by rw [ez]; rfl⟩
                    replace ez := Aside0.mk ez
                    go_wp2_with (first | (go_at_call 79; refine (impl_ybytes.calls q zs _ hz.out.1).mono ?_; rintro e w1 ⟨v1, rfl, HV, HB1⟩; obtain ⟨A3, c3, rfl, hc3, hC3⟩ := Kd.R_reads HV; have HW2 := Aside0.mk (⟨Kd.R_below HW.out.2.2.1 HB1, below_step HW.out.2.2.2 HB1⟩ : _ ∧ _); replace HV := Aside0.mk hC3; clear hC3 HB1) | ((with_reducible refine gate_builtin (b := .append) (xs := #[.tmp 50, .tmp 52]) rfl ?_); at_builtin; refine Kd.R_append_row (Value.int .u8) 0 (w0 := w) w.heap.size rfl (.tmp 50) (.tmp 52) 22 5 (.int .u8 0) 1 rfl Try.underlying22 info5 rfl (by decide) _ ys zs _ _ _ (fun _ => True) rfl rfl (fun _ _ => trivial) HW2.out.1 HV.out HW2.out.2 HW2.out.2.size ?aL ?_; (case aL => have h1 := HW.out.2.1; have h2 := hz.out.2; omega); intro v1 w3 hr hb hg hat; replace hr := Aside0.mk hr; replace hb := Aside0.mk hb; clear hg hat))
                    go_roundw
                    case rel => exact ⟨k + 1, ys ++ zs, by omega, by go_num, ⟨by rw [take_snoc_rd (by simpa using hlt), ← eq.out, List.flatMap_append, ← HW.out.1, ez.out]; simp, by have h1 := HW.out.2.1; have h2 := hz.out.2; rw [List.length_append]; omega, hr.out, hb.out⟩⟩
                    case measure => simp [intOf]; omega
                  · obtain rfl : k = 4 := by omega
                    go_wp2
                    go_ret
                    refine ⟨_, rfl, ?_, HW.out.2.2.2⟩
                    have e1 := HW.out.1
                    rw [List.take_of_length_le (by simp)] at e1
                    have e2 : ys = dg l0 := by rw [e1, dg, eb.out]
                    rw [← e2]
                    exact HW.out.2.2.1
end Go.Proofs.Ytccbjchlcelkgaa.Pr
