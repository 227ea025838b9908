/- The walks of slices.Grow (of nil) and slices.Concat at []byte: the rows joined. -/
import Derived.Test.YtipdkendfcopiaaPr0x
import Derived.WalkSpells
import Derived.Lib.AppendZeros
namespace Go.Proofs.Ytipdkendfcopiaa.Pr
open Go.RowKit Go.Proofs.YtipdkendfcopiaaW.PrintWords Go.Proofs.YtipdkendfcopiaaW.PrintLast Go.Proofs.YtipdkendfcopiaaW.PrintMore
set_option linter.unusedVariables false
theorem grown_R (w : World) (n : Nat) (hn : n ≤ 140737488355328) (e : TypeId) :
    (Kd.int .u8).R e (w.drew.alloc (.cells (Builtin.zeroCells (Value.int .u8 0).cells n ++ Builtin.zeroCells (Value.int .u8 0).cells (grownCap w n 0 e - n)) e)) w.heap.size (fun _ => True) (.slice (some ⟨w.heap.size, 0, none⟩) 0 (grownCap w n 0 e)) [] := by
  refine Kd.R_of_own (h1 := fun _ => rfl) (World.ownsRow_made w.drew _ _ (Nat.le_refl _) (grownCap_le_maxLen w n 0 e (by unfold maxLen; omega)) ?_) (fun _ _ => trivial)
  have := grownCap_ge w n 0 e
  simp [Builtin.zeroCells, Value.cells]
  omega
set_option maxHeartbeats 1000000 in
set_option maxRecDepth 100000 in
theorem grow_calls (n : Nat) (hn : n ≤ 140737488355328) (w : World) :
    Calls Try.prog 118 #[.slice none 0 0, .int .i64 (n : Int)] w fun e w' => ∃ (A : Option Addr) (c : Nat), e = .returned (.slice A 0 c) ∧ Kd.R (Kd.int .u8) 5 w' w.heap.size (fun _ => True) (.slice A 0 c) [] ∧ Below w.heap.size w w' := by
  by_cases hz : n = 0
  · subst hz
    go_enter Try.func118, Try.ntmps118
    go_wp2
    go_ret
    exact ⟨none, 0, rfl, Kd.R_nil _ _ _ _ _, Below.refl _ _⟩
  · have e1 : IntKind.i64.wrap (n : Int) = n := IntWalk.i64_in _ (by omega)
    have h0 : 0 < n := by omega
    have hr := Lib.run_append_nil_zeros (P := Try.prog) w 22 3 22 5 _ (.int .u8 0) .i64 .i64 Try.underlying22 Try.underlying3 (show Try.prog.info? 5 = some Try.t5 by kernel_rfl) rfl n h0 (by decide) (by omega) (by rw [show Try.t5.bytes = 1 from rfl]; omega)
    have HR := Aside0.mk hr
    clear hr
    have hc : grownCap w n 0 5 ≤ maxLen := grownCap_le_maxLen w n 0 5 (by unfold maxLen; omega)
    have hl : n ≤ grownCap w n 0 5 := grownCap_ge w n 0 5
    have HQ := Aside0.mk (grown_R w n hn 5)
    generalize grownCap w n 0 5 = c at HR HQ hc hl
    have HB : Aside0 (Below w.heap.size w (w.drew.alloc (.cells (Builtin.zeroCells (Value.int .u8 0).cells n ++ Builtin.zeroCells (Value.int .u8 0).cells (c - n)) 5))) := ⟨below_alloc (below_drew (Below.refl _ _)) _⟩
    generalize (w.drew.alloc (.cells (Builtin.zeroCells (Value.int .u8 0).cells n ++ Builtin.zeroCells (Value.int .u8 0).cells (c - n)) 5)) = w2 at HR HQ HB
    go_enter Try.func118, Try.ntmps118
    go_wp2_with ((with_reducible refine gate_builtin (b := .append) (xs := #[.tmp 20, .tmp 21]) rfl ?_); at_builtin; refine Lib.wpList_append_run _ rfl (.tmp 20) (.tmp 21) 22 3 rfl _ _ rfl rfl _ _ HR.out ?_)
    go_ret
    exact ⟨_, _, rfl, HQ.out, HB.out⟩
def slices_Concat_byte_byte.f (l0 : List (List Int)) : Option (List Int) := if l0.flatten.length ≤ 140737488355328 then some l0.flatten else none
theorem take_rd_L2 {l : List (List Int)} {k : Nat} (h : k < l.length) : (l.take (k + 1)).flatten = (l.take k).flatten ++ rd_L2 l k := by
  rw [List.take_succ_eq_append_getElem h, List.flatten_append]; simp [rd_L2, List.getD_eq_getElem?_getD, List.getElem?_eq_getElem h]
theorem take_flat_le (l : List (List Int)) (k : Nat) : (l.take k).flatten.length ≤ l.flatten.length := by
  conv => rhs; rw [← List.take_append_drop k l]
  rw [List.flatten_append, List.length_append]
  omega
set_option maxHeartbeats 1000000 in
set_option maxRecDepth 100000 in
theorem slices_Concat_byte_byte.calls (A0 : Option Addr) (c0 : Nat) (l0 : List (List Int)) (r : List Int) (w : World) (hr0 : Kd.C (Kd.slice 5 (Kd.int .u8)) w A0 l0.length l0) (hc0 : l0.length ≤ c0) (h : slices_Concat_byte_byte.f l0 = some r) :
    Calls Try.prog 78 #[.slice A0 l0.length c0] w fun e w' => ∃ v0_ : Value, e = .returned (v0_) ∧ Kd.R (Kd.int .u8) 5 w' w.heap.size (fun _ => True) v0_ r ∧ Below w.heap.size w w' := by
  unfold slices_Concat_byte_byte.f at h
  by_cases hs : l0.flatten.length ≤ 140737488355328
  case neg => rw [if_neg hs] at h; cases h
  rw [if_pos hs] at h
  obtain rfl := Option.some.inj h
  clear h
  have hmax := Kd.C_max hr0
  have HR0 := Aside0.mk hr0
  have HC0 := Aside0.mk hc0
  have HS := Aside0.mk hs
  have HM := Aside0.mk hmax
  clear hr0 hc0 hs hmax
  go_enter Try.func78, Try.ntmps78
  go_wp2
  go_loopw [3, 11] (fun v3 i W => ∃ k s : Nat, k ≤ l0.length ∧ i = .int .i64 k ∧ v3 = .int .i64 s ∧ Aside0 (s = (l0.take k).flatten.length ∧ Below w.heap.size w W)) (fun _ i _ => l0.length - (intOf i).toNat)
  case atStart => exact ⟨0, 0, by omega, rfl, rfl, ⟨rfl, Below.refl _ _⟩⟩
  case round =>
    obtain ⟨k, s, hk, rfl, rfl, HW⟩ := hrel
    have hmax := HM.out
    have hsb : s ≤ 140737488355328 := by have h1 := HW.out.1; have h2 := take_flat_le l0 k; have h3 := HS.out; omega
    by_cases hlt : k < l0.length
    · obtain ⟨ad, A1, c1, rfl, hcell, hl1, hC1⟩ := at_L2 HR0.out k (by omega) (by omega)
      replace hcell := (HW.out.2.cell (World.block_lt_of_cell? w _ hcell)).trans hcell
      rw [Int.toNat_natCast] at hcell
      obtain ⟨ys, ey⟩ : ∃ ys, ys = rd_L2 l0 k := ⟨_, rfl⟩
      rw [← ey] at hcell
      obtain ⟨n, en⟩ : ∃ n, n = ys.length := ⟨_, rfl⟩
      rw [← en] at hcell
      have hsn : s + n ≤ 140737488355328 := by
        have h1 := HW.out.1; have h2 := take_flat_le l0 (k + 1); have h3 := HS.out
        rw [take_rd_L2 hlt, List.length_append, ← ey, ← h1, ← en] at h2
        omega
      have EY : Aside0 (ys = rd_L2 l0 k ∧ n = ys.length) := ⟨ey, en⟩
      clear ey en
      go_wp2
      go_roundw
      case rel => exact ⟨k + 1, s + n, by omega, by go_num, by go_num, ⟨by rw [take_rd_L2 hlt, List.length_append, ← HW.out.1, ← EY.out.1, ← EY.out.2], by repeat (first | exact HW.out.2 | apply below_drew)⟩⟩
      case measure => simp [intOf]; omega
    · obtain rfl : k = l0.length := by omega
      rw [List.take_length] at HW
      clear hlt hk
      go_wp2_with (go_at_call 118; refine (grow_calls s hsb _).mono ?_; rintro e w1 ⟨A1, c1, rfl, HV, HB1⟩; replace HV := Aside0.mk (Kd.R_lower HV (base' := w.heap.size) HW.out.2.size); replace HB1 := Aside0.mk (below_step HW.out.2 HB1))
      clear HW
      go_loopw [6, 27] (fun v i W => ∃ (k : Nat) (ys : List Int), k ≤ l0.length ∧ i = .int .i64 k ∧ Aside0 (ys = (l0.take k).flatten ∧ Kd.R (Kd.int .u8) 5 W w.heap.size (fun _ => True) v ys ∧ Below w.heap.size w W)) (fun _ i _ => l0.length - (intOf i).toNat)
      case atStart => exact ⟨0, [], by omega, rfl, ⟨rfl, HV.out, HB1.out⟩⟩
      case round =>
        clear HV HB1
        obtain ⟨k, ys, hk, rfl, HW⟩ := hrel
        obtain ⟨A2, c2, rfl⟩ := Kd.R_slice HW.out.2.1
        have hmax := HM.out
        by_cases hlt : k < l0.length
        · obtain ⟨ad, A3, c3, rfl, hcell, hl3, hC3⟩ := at_L2 HR0.out k (by omega) (by omega)
          replace hcell := (HW.out.2.2.cell (World.block_lt_of_cell? w _ hcell)).trans hcell
          rw [Int.toNat_natCast] at hcell
          obtain ⟨zs, ez⟩ : ∃ zs, zs = rd_L2 l0 k := ⟨_, rfl⟩
          rw [← ez] at hcell hC3
          replace hC3 := Aside0.mk hC3
          replace ez := Aside0.mk ez
          go_wp2_with ((with_reducible refine gate_builtin (b := .append) (xs := #[.tmp 31, .tmp 32]) rfl ?_); at_builtin; refine Kd.R_append_row (Value.int .u8) 0 (w0 := w) w.heap.size rfl (.tmp 31) (.tmp 32) 22 5 (.int .u8 0) 1 rfl Try.underlying22 info5 rfl (by decide) _ ys zs _ _ _ (fun _ => True) rfl rfl (fun _ _ => trivial) (by repeat (first | exact HW.out.2.1 | apply Kd.R_drew)) (by repeat (first | exact (Kd.C_below hC3.out HW.out.2.2) | apply Kd.C_drew)) (by repeat (first | exact HW.out.2.2 | apply below_drew)) HW.out.2.2.size ?aL ?_; (case aL => have h1 := HW.out.1; have h2 := take_flat_le l0 (k + 1); have h3 := HS.out; rw [take_rd_L2 hlt, List.length_append, ← ez.out, ← h1] at h2; omega); intro v1 w3 hr hb hg hat; replace hr := Aside0.mk hr; replace hb := Aside0.mk hb; clear hg hat)
          go_roundw
          case rel => exact ⟨k + 1, ys ++ zs, by omega, by go_num, ⟨by rw [take_rd_L2 hlt, ← HW.out.1, ← ez.out], by repeat (first | exact hr.out | apply Kd.R_drew), by repeat (first | exact hb.out | apply below_drew)⟩⟩
          case measure => simp [intOf]; omega
        · obtain rfl : k = l0.length := by omega
          rw [List.take_length] at HW
          clear hlt hk
          go_wp2
          go_ret
          refine ⟨_, rfl, ?_, HW.out.2.2⟩
          rw [← HW.out.1]
          exact HW.out.2.1
end Go.Proofs.Ytipdkendfcopiaa.Pr
