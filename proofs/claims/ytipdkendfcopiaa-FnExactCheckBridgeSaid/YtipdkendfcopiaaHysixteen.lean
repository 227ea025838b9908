/- The walk of impl.ysixteen (slices.ContainsFunc at its own predicate): whether all have sixteen bytes. -/
import Derived.Test.YtipdkendfcopiaaPr0x
import Derived.WalkSpells
import Derived.Shelf.Abstract
namespace Go.Proofs.Ytipdkendfcopiaa.Pr
open Go.RowKit Go.Proofs.YtipdkendfcopiaaW.PrintWords Go.Proofs.YtipdkendfcopiaaW.PrintLast Go.Proofs.YtipdkendfcopiaaW.PrintMore
set_option linter.unusedVariables false
theorem not16_calls (A : Option Addr) (n c : Nat) (w : World) :
    Calls Try.prog 124 #[.slice A n c] w fun e w' => e = .returned (.bool (decide ((n : Int) ≠ 16))) ∧ Drawn0 w w' := by
  go_enter Try.func124, Try.ntmps124
  go_wp2
  go_ret
  refine ⟨?_, ⟨⟨0, rfl⟩⟩⟩
  by_cases h : (n : Int) = 16 <;> simp [h]
def bad16 (l : List (List Int)) : Bool := l.any fun b => b.length != 16
theorem bad16_take {l : List (List Int)} {k : Nat} (hk : k < l.length) : bad16 (l.take (k + 1)) = (bad16 (l.take k) || ((rd_L2 l k).length != 16)) := by
  unfold bad16
  rw [List.take_succ_eq_append_getElem hk, List.any_append]
  simp [rd_L2, List.getD_eq_getElem?_getD, List.getElem?_eq_getElem hk]
set_option maxHeartbeats 1000000 in
set_option maxRecDepth 100000 in
theorem index16_calls (A0 : Option Addr) (c0 : Nat) (l0 : List (List Int)) (w : World) (hr0 : Kd.C (Kd.slice 5 (Kd.int .u8)) w A0 l0.length l0) (hc0 : l0.length ≤ c0) :
    Calls Try.prog 138 #[.slice A0 l0.length c0, .func (.func 124) #[] #[]] w fun e w' => ∃ i : Int, e = .returned (.int .i64 i) ∧ decide (0 ≤ i) = bad16 l0 ∧ Drawn0 w w' := by
  have hmax := Kd.C_max hr0
  have HR0 := Aside0.mk hr0
  have HM := Aside0.mk hmax
  clear hr0 hc0 hmax
  have eg : Enters Try.prog 124 := enters_of Try.func124 (by kernel_rfl) rfl
  go_enter Try.func138, Try.ntmps138
  go_wp2
  go_loopw [5, 8] (fun v5 i W => ∃ k : Nat, k ≤ l0.length ∧ i = .int .i64 k ∧ Aside0 (bad16 (l0.take k) = false ∧ Drawn0 w W)) (fun _ i _ => l0.length - (intOf i).toNat)
  case atStart => exact ⟨0, by omega, rfl, ⟨rfl, Drawn0.refl _⟩⟩
  case round =>
    obtain ⟨k, hk, rfl, HW⟩ := hrel
    have hmax := HM.out
    by_cases hlt : k < l0.length
    · obtain ⟨ad, A1, c1, rfl, hcell, hl1, hC1⟩ := at_L2 HR0.out k (by omega) (by omega)
      rw [Int.toNat_natCast] at hcell
      have hcell2 : wr.cell? (ad.add k) = some (.slice A1 (rd_L2 l0 k).length c1) := by
        obtain ⟨⟨nd, e⟩⟩ := HW.out.2
        rw [e]
        exact hcell
      clear hcell hC1
      obtain ⟨n, en⟩ : ∃ n, n = (rd_L2 l0 k).length := ⟨_, rfl⟩
      rw [← en] at hcell2
      have hstep := bad16_take hlt
      rw [HW.out.1, Bool.false_or, ← en] at hstep
      clear en
      by_cases h16 : n = 16
      · have hd : decide ((n : Int) ≠ 16) = false := decide_eq_false (by omega)
        have HN : Aside0 (bad16 (l0.take (k + 1)) = false) := ⟨by rw [hstep, h16]; rfl⟩
        clear hstep hl1 h16
        have hcall : ∀ W : World, Calls Try.prog 124 #[.slice A1 n c1] W fun e w' => e = .returned (.bool false) ∧ ∃ q, w' = W.drewN q := fun W => (not16_calls A1 n c1 W).mono fun e w' h => ⟨by rw [h.1, hd], h.2.1⟩
        clear hd
        go_wp2_with (go_at_call 124; refine (hcall _).mono ?_; rintro e w' ⟨rfl, nd, rfl⟩)
        clear hcall
        go_roundw
        case rel => exact ⟨k + 1, by omega, by go_num, ⟨HN.out, by repeat (first | exact HW.out.2 | apply Drawn0.step)⟩⟩
        case measure => simp [intOf]; omega
      · have hd : decide ((n : Int) ≠ 16) = true := decide_eq_true (by omega)
        have hb : bad16 l0 = true := by
          have h1 : bad16 (l0.take (k + 1)) = true := by rw [hstep]; simpa using h16
          unfold bad16 at h1 ⊢
          rw [List.any_eq_true] at h1 ⊢
          obtain ⟨x, hx, hx2⟩ := h1
          exact ⟨x, List.mem_of_mem_take hx, hx2⟩
        have HN := Aside0.mk hb
        clear hstep hl1 hb
        have hcall : ∀ W : World, Calls Try.prog 124 #[.slice A1 n c1] W fun e w' => e = .returned (.bool true) ∧ ∃ q, w' = W.drewN q := fun W => (not16_calls A1 n c1 W).mono fun e w' h => ⟨by rw [h.1, hd], h.2.1⟩
        clear hd
        go_wp2_with (go_at_call 124; refine (hcall _).mono ?_; rintro e w' ⟨rfl, nd, rfl⟩)
        go_ret
        exact ⟨k, rfl, by rw [HN.out]; exact decide_eq_true (by omega), by repeat (first | exact HW.out.2 | apply Drawn0.step)⟩
    · obtain rfl : k = l0.length := by omega
      rw [List.take_length] at HW
      go_wp2
      go_ret
      exact ⟨-1, rfl, by rw [HW.out.1]; rfl, HW.out.2⟩
theorem contains16_calls (A0 : Option Addr) (c0 : Nat) (l0 : List (List Int)) (w : World) (hr0 : Kd.C (Kd.slice 5 (Kd.int .u8)) w A0 l0.length l0) (hc0 : l0.length ≤ c0) :
    Calls Try.prog 123 #[.slice A0 l0.length c0, .func (.func 124) #[] #[]] w fun e w' => e = .returned (.bool (bad16 l0)) ∧ Drawn0 w w' := by
  go_enter Try.func123, Try.ntmps123
  go_wp2_with (go_at_call 138; refine (index16_calls A0 c0 l0 _ hr0 hc0).mono ?_; rintro e w' ⟨i, rfl, hi, ⟨⟨nd, rfl⟩⟩⟩)
  go_ret
  exact ⟨by simp only [← hi]; rfl, ⟨⟨_, rfl⟩⟩⟩
def impl_ysixteen.f (l0 : List (List Int)) : Option Bool := some (!bad16 l0)
theorem impl_ysixteen.calls (A0 : Option Addr) (c0 : Nat) (l0 : List (List Int)) (r : Bool) (w : World) (hr0 : Kd.C (Kd.slice 5 (Kd.int .u8)) w A0 l0.length l0) (hc0 : l0.length ≤ c0) (h : impl_ysixteen.f l0 = some r) :
    Calls Try.prog 92 #[.slice A0 l0.length c0] w fun e w' => e = .returned (.bool r) ∧ Drawn0 w w' := by
  obtain rfl := Option.some.inj h
  go_enter Try.func92, Try.ntmps92
  go_wp2_with (go_at_call 123; refine (contains16_calls A0 c0 l0 _ hr0 hc0).mono ?_; rintro e w' ⟨rfl, ⟨⟨nd, rfl⟩⟩⟩)
  go_ret
  exact ⟨rfl, ⟨⟨_, rfl⟩⟩⟩
end Go.Proofs.Ytipdkendfcopiaa.Pr
