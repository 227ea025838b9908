/- The walk of impl.Armor. -/
import Derived.Test.YtccbjchlcelkgaaHbuilder
import Derived.Test.YtccbjchlcelkgaaParmor
namespace Go.Proofs.Ytccbjchlcelkgaa.Pr
open Go.RowKit Go.Proofs.Ytccbjchlcelkgaa.Read Go.Proofs.YtccbjchlcelkgaaW.PrintWords Go.Proofs.YtccbjchlcelkgaaW.PrintLast Go.Proofs.YtccbjchlcelkgaaW.PrintMore
set_option linter.unusedVariables false
instance (l : List Int) : Decidable (isBytes l) := by unfold isBytes; infer_instance
def impl_Armor.f (l0 : List Int) : Option ByteArray := if isBytes l0 then some (if (l0.length : Int) > 20000 then ⟨#[]⟩ else armB l0) else none
set_option maxHeartbeats 4000000 in
set_option maxRecDepth 100000 in
theorem impl_Armor.calls (A0 : Option Addr) (c0 : Nat) (l0 : List Int) (r : ByteArray) (w : World) (hr0 : Kd.C (Kd.int .u8) w A0 l0.length l0) (hc0 : l0.length ≤ c0) (h : impl_Armor.f l0 = some r) :
    Calls Try.prog 16 #[.slice A0 l0.length c0] w fun e w' => e = .returned (.string r) ∧ Below w.heap.size w w' := by
  unfold impl_Armor.f at h
  by_cases hb : isBytes l0
  case neg => rw [if_neg hb] at h; cases h
  rw [if_pos hb] at h
  obtain rfl := Option.some.inj h
  have HR0 := Aside0.mk hr0
  clear h hr0 hc0
  by_cases hbig : (l0.length : Int) > 20000
  · rw [if_pos hbig]
    have q1 : decide (20000 < (l0.length : Int)) = true := decide_eq_true hbig
    go_enter Try.func16, Try.ntmps16
    go_wp2
    go_ret
    exact ⟨rfl, Below.refl _ _⟩
  rw [if_neg hbig]
  have q1 : decide (20000 < (l0.length : Int)) = false := decide_eq_false hbig
  have HL : Aside0 (l0.length ≤ 20000) := ⟨by omega⟩
  have HB := Aside0.mk hb
  obtain ⟨res, hres⟩ : ∃ x, x = armB l0 := ⟨_, rfl⟩
  rw [← hres]
  have HRES := Aside0.mk hres
  clear hres hb hbig
  go_enter Try.func16, Try.ntmps16
  go_wp2
  have HBW0 := Aside0.mk (show Below w.heap.size w (w.alloc (Obj.cells #[Value.pointer none, Value.slice none 0 0] 92)) from below_alloc (Below.refl _ _) _)
  have HI0 := Aside0.mk (Lib.fresh_isBuilder 92 5 w)
  generalize w.alloc (Obj.cells #[Value.pointer none, Value.slice none 0 0] 92) = w1 at HBW0 HI0 ⊢
  obtain ⟨B, eB⟩ : ∃ B, B = w.heap.size := ⟨_, rfl⟩
  rw [← eB] at HI0
  have hbb : w.heap.size = B := eB.symm
  simp only [hbb]
  clear eB
  have HBB := Aside0.mk hbb
  clear hbb
  go_loopw [4, 5, 13] (fun v4 v5 v13 W => ∃ (i : Nat) (V b : Int), v4 = .int .i64 V ∧ v5 = .int .i64 b ∧ v13 = .int .i64 i ∧ Aside0 (i ≤ l0.length ∧ V = val l0 (5 * (8 * i / 5)) (8 * i - 5 * (8 * i / 5)) ∧ b = ((8 * i - 5 * (8 * i / 5) : Nat) : Int)) ∧ Aside0 (Lib.IsBuilder 92 5 B B (Lib.byteCells (armU l0 (8 * i / 5))) W) ∧ Aside0 (Below w.heap.size w W)) (fun _ _ v13 _ => l0.length - (intOf v13).toNat)
  case atStart => exact ⟨0, 0, 0, rfl, rfl, rfl, ⟨by omega, rfl, rfl⟩, HI0, HBW0⟩
  case round =>
    clear HI0 HBW0
    obtain ⟨i, V, b, rfl, rfl, rfl, HV, HI, HW⟩ := hrel
    by_cases hlt : i < l0.length
    · have hll := HL.out
      obtain ⟨ad, rfl, hcell⟩ := Kd.at_int (Kd.C_below HR0.out HW.out) i (by omega) (by omega)
      have hby := rd_byte HB.out hlt
      obtain ⟨x, ex⟩ : ∃ x, x = rd l0 (i : Int) := ⟨_, rfl⟩
      rw [Int.toNat_natCast] at hcell
      rw [← ex] at hcell hby
      have EX := Aside0.mk ex
      have HBY := Aside0.mk hby
      clear ex hby
      obtain ⟨hi0, eV, eb⟩ := HV.out
      obtain ⟨s, es⟩ : ∃ s, s = 5 * (8 * i / 5) := ⟨_, rfl⟩
      have hs1 : s ≤ 8 * i := by omega
      have hs2 : 8 * i ≤ s + 4 := by omega
      rw [← es] at eV eb
      obtain ⟨T, eT⟩ : ∃ T, T = val l0 s (8 * (i + 1) - s) := ⟨_, rfl⟩
      have hvr := val_range l0 s (8 * i - s)
      have hp : (2 : Int) ^ (8 * i - s) ≤ 16 := by
        obtain ⟨m, hm⟩ : ∃ m, m = 8 * i - s := ⟨_, rfl⟩
        rw [← hm]
        rcases m with _ | _ | _ | _ | _ | m
        · decide
        · decide
        · decide
        · decide
        · decide
        · omega
      have hV1 : wrap64 (V * 256) = V * 256 := by rw [eV]; exact w64 (by omega) (by omega)
      have hx1 : wrap64 x = x := by have := HBY.out; exact w64 (by omega) (by omega)
      have hV2 : Go.bits .or .i64 (V * 256) x = T := by rw [eV, EX.out, eT]; exact val_or l0 HB.out i s hlt hs1 hs2
      have hb8 : wrap64 (b + 8) = ((8 * (i + 1) - s : Nat) : Int) := by rw [eb, w64 (by omega) (by omega)]; omega
      have ET := Aside0.mk eT
      have ES := Aside0.mk (And.intro es (And.intro hs1 hs2))
      have hlt1 : (i : Int) < (l0.length : Int) := by omega
      have hlt2 : decide ((i : Int) < (l0.length : Int)) = true := decide_eq_true hlt1
      have HLT := Aside0.mk hlt
      obtain ⟨c, ec⟩ : ∃ c : Nat, c = 8 * (i + 1) - s := ⟨_, rfl⟩
      rw [← ec] at hb8
      have EC := Aside0.mk ec
      clear hll hi0 eV eb es hs1 hs2 eT hvr hp hlt ec
      go_wp2
      simp only [hV1, hx1, hb8]
      go_loopw [5] (fun v5 W => ∃ (Q : Nat), v5 = .int .i64 ((8 * (i + 1) - 5 * Q : Nat) : Int) ∧ Aside0 (s ≤ 5 * Q ∧ 5 * Q ≤ 8 * (i + 1)) ∧ Aside0 (Lib.IsBuilder 92 5 B B (Lib.byteCells (armU l0 Q)) W) ∧ Aside0 (Below w.heap.size w W)) (fun v5 _ => (intOf v5).toNat)
      case atStart => exact ⟨8 * i / 5, by rw [EC.out, ES.out.1], ⟨by have := ES.out.1; omega, by omega⟩, HI, HW⟩
      case round =>
        clear HI HW
        obtain ⟨Q, rfl, HQ, HI, HW⟩ := hrel
        by_cases h5 : 5 * Q + 5 ≤ 8 * (i + 1)
        · obtain ⟨g, eg⟩ : ∃ g : Nat, g = 8 * (i + 1) - 5 * Q := ⟨_, rfl⟩
          obtain ⟨g1, eg1⟩ : ∃ g1 : Nat, g1 = 8 * (i + 1) - (5 * Q + 5) := ⟨_, rfl⟩
          obtain ⟨N, eN⟩ : ∃ N, N = val l0 (5 * Q) 5 := ⟨_, rfl⟩
          have eS : shr .i64 T (g1 : Int) = T / 2 ^ min g1 64 := by unfold shr; rw [Int.toNat_natCast]; rfl
          have hN : Go.bits .and .i64 (T / 2 ^ min g1 64) 31 = N := by
            rw [← eS, eg1, eN, ET.out]
            exact val_letter l0 s Q (8 * (i + 1)) HQ.out.1 h5 (by have := ES.out.2.2; omega)
          have hNr := val_range l0 (5 * Q) 5
          rw [← eN] at hNr
          have hN0 : 0 ≤ N := hNr.1
          have hN1 : N < 32 := hNr.2
          have hg5 : wrap64 ((g : Int) - 5) = (g1 : Int) := by have := HL.out; have := HLT.out; rw [w64 (by omega) (by omega)]; omega
          have hge : decide (5 ≤ (g : Int)) = true := decide_eq_true (by omega)
          have hg0 : decide ((g1 : Int) < 0) = false := decide_eq_false (by omega)
          have hg0' : (0 : Int) ≤ (g1 : Int) := by omega
          rw [← eg]
          have EG := Aside0.mk (And.intro eg eg1)
          have EN := Aside0.mk eN
          have H5 := Aside0.mk h5
          clear eg eg1 eN hNr eS h5
          have HLEN : Aside0 ((Lib.byteCells (armU l0 Q)).length + 1 ≤ 140737488355328) := ⟨by have := HL.out; have := HLT.out; have := HQ.out; rw [Lib.byteCells_length, armU_len]; omega⟩
          have HBS : Aside0 (B ≤ wr.heap.size) := ⟨by have := HW.out.size; rw [← HBB.out]; exact this⟩
          go_wp2_with (go_at_call 60; refine (writeByte_calls B B (Lib.byteCells (armU l0 Q)) _ _ HI.out HLEN.out HBS.out).mono ?_)
          rintro e w2 ⟨rfl, hI2, hB2⟩
          have HI2 : Aside0 (Lib.IsBuilder 92 5 B B (Lib.byteCells (armU l0 (Q + 1))) w2) := ⟨by
            have e : Lib.byteCells (armU l0 (Q + 1)) = Lib.byteCells (armU l0 Q) ++ [Value.int .u8 (bt lettersB N)] := by
              rw [bt_let hN0 hN1, EN.out]
              simp [armU, Lib.byteCells]
            rw [e, ← bt_at lettersB N (show N.toNat < 32 by omega)]
            exact Or.inr hI2⟩
          have HW2 : Aside0 (Below w.heap.size w w2) := ⟨HW.out.trans (by rw [HBB.out]; exact hB2)⟩
          clear hI2 hB2
          go_wp2
          go_roundw
          case rel =>
            refine ⟨Q + 1, ?_, ⟨by have := HQ.out; omega, by have := H5.out; omega⟩, HI2, HW2⟩
            exact congrArg (fun n : Nat => Value.int .i64 (n : Int)) (by have := EG.out; omega)
          case measure => have := EG.out; have := H5.out; simp [intOf]; omega
        · have hlt5 : decide (5 ≤ ((8 * (i + 1) - 5 * Q : Nat) : Int)) = false := decide_eq_false (by omega)
          have EQ : Aside0 (Q = 8 * (i + 1) / 5) := ⟨by have := HQ.out; omega⟩
          obtain ⟨g, eg⟩ : ∃ g : Nat, g = 8 * (i + 1) - 5 * Q := ⟨_, rfl⟩
          rw [← eg] at hlt5 ⊢
          have hm := val_mask l0 s Q (8 * (i + 1)) HQ.out.1 HQ.out.2 (by have := ES.out.2.2; omega)
          rw [← ET.out, ← eg] at hm
          have EG := Aside0.mk eg
          have HM := Aside0.mk hm
          clear h5 eg hm
          go_wp2
          have hg4 : g ≤ 4 := by have := EG.out; have := of_decide_eq_false hlt5; omega
          have e3 : wrap64 ((i : Int) + 1) = ((i + 1 : Nat) : Int) := by have := HL.out; have := HLT.out; rw [w64 (by omega) (by omega)]; rfl
          have ep : ∀ p : Int, 1 ≤ p → p ≤ 16 → wrap64 p = p ∧ wrap64 (p - 1) = p - 1 := fun p h0 h1 => ⟨w64 (by omega) (by omega), w64 (by omega) (by omega)⟩
          have hp : (1 : Int) ≤ 2 ^ g ∧ (2 : Int) ^ g ≤ 16 := by
            rcases g with _ | _ | _ | _ | _ | g
            · decide
            · decide
            · decide
            · decide
            · decide
            · omega
          have em : min g 64 = g := Nat.min_eq_left (by omega)
          have e1 : wrap64 (2 ^ min g 64) = 2 ^ g := by rw [em]; exact (ep _ hp.1 hp.2).1
          have e2 : wrap64 (2 ^ g - 1 : Int) = 2 ^ g - 1 := (ep _ hp.1 hp.2).2
          clear hp em ep
          rw [e1, e2, HM.out, e3]
          clear e1 e2
          refine ⟨⟨i + 1, _, _, rfl, rfl, rfl, ⟨HLT.out, ?_, ?_⟩, ?_, HW⟩, ?_⟩
          · rw [← EQ.out, EG.out]
          · rw [← EQ.out, EG.out]
          · rw [← EQ.out]; exact HI
          · show l0.length - (((i + 1 : Nat) : Int)).toNat < l0.length - ((i : Int)).toNat
            rw [Int.toNat_natCast, Int.toNat_natCast]
            exact Nat.sub_lt_sub_left HLT.out (Nat.lt_succ_self i)
    · obtain ⟨hi0, eV, eb⟩ := HV.out
      obtain rfl : i = l0.length := by omega
      have hlt2 : decide ((l0.length : Int) < (l0.length : Int)) = false := decide_eq_false (by omega)
      obtain ⟨Q, eQ⟩ : ∃ Q, Q = 8 * l0.length / 5 := ⟨_, rfl⟩
      obtain ⟨g, eg⟩ : ∃ g : Nat, g = 8 * l0.length - 5 * Q := ⟨_, rfl⟩
      rw [← eQ, ← eg] at eV eb
      rw [← eQ] at HI
      subst eb
      have hll := HL.out
      have HBS : Aside0 (B ≤ wr.heap.size) := ⟨by have := HW.out.size; rw [← HBB.out]; exact this⟩
      have HLEN : Aside0 ((Lib.byteCells (armU l0 Q)).length + 1 ≤ 140737488355328) := ⟨by rw [Lib.byteCells_length, armU_len]; omega⟩
      by_cases hg0 : 0 < g
      · have hgd : decide (0 < (g : Int)) = true := decide_eq_true (by omega)
        obtain ⟨N, eN⟩ : ∃ N, N = val l0 (5 * Q) 5 := ⟨_, rfl⟩
        have hlast := val_last l0 Q g (by omega) (by omega)
        rw [← eV, ← eN] at hlast
        have hNr := val_range l0 (5 * Q) 5
        rw [← eN] at hNr
        have hN0 : 0 ≤ N := hNr.1
        have hN1 : N < 32 := hNr.2
        have HLAST := Aside0.mk hlast
        clear hlast
        have HEND : Aside0 (armU l0 (Q + 1) = armU l0 (armN l0)) := ⟨by rw [show armN l0 = Q + 1 by unfold armN; omega]⟩
        have h5g : wrap64 (5 - (g : Int)) = ((5 - g : Nat) : Int) := by rw [w64 (by omega) (by omega)]; omega
        have HNT : Aside0 (N.toNat < 32) := ⟨by omega⟩
        have hM2 : Go.bits .and .i64 N 31 = N := and31 N hN0 hN1
        have hM1 : wrap64 (V * 2 ^ (5 - g)) = N := by rw [HLAST.out]; exact w64 (Int.le_trans (by decide) hN0) (Int.le_of_lt (Int.lt_of_lt_of_le hN1 (by decide)))
        have EN := Aside0.mk eN
        clear eN hNr hi0 eV eQ eg hll
        go_wp2_with (go_at_call 60; refine (writeByte_calls B B (Lib.byteCells (armU l0 Q)) _ _ HI.out HLEN.out HBS.out).mono ?_)
        rintro e w2 ⟨rfl, hI2, hB2⟩
        have HI2 : Aside0 (Lib.IsBuilder 92 5 B B (Lib.byteCells (armU l0 (armN l0))) w2) := ⟨by
          have e : Lib.byteCells (armU l0 (Q + 1)) = Lib.byteCells (armU l0 Q) ++ [Value.int .u8 (bt lettersB N)] := by
            rw [bt_let hN0 hN1, EN.out]
            simp [armU, Lib.byteCells]
          rw [← HEND.out, e, ← bt_at lettersB N HNT.out]
          exact Or.inr hI2⟩
        have HW2 : Aside0 (Below w.heap.size w w2) := ⟨HW.out.trans (by rw [HBB.out]; exact hB2)⟩
        have HBS2 : Aside0 (B ≤ w2.heap.size) := ⟨by have := HW2.out.size; rw [← HBB.out]; exact this⟩
        clear hI2 hB2
        go_wp2_with (go_at_call 61; refine (string_calls B B (armU l0 (armN l0)) _ HI2.out HBS2.out).mono ?_)
        rintro e w3 ⟨rfl, hB3⟩
        go_wp2
        go_ret
        exact ⟨by rw [HRES.out]; rfl, HW2.out.trans (by rw [HBB.out]; exact hB3)⟩
      · have hgd : decide (0 < (g : Int)) = false := decide_eq_false (by omega)
        have HEND : Aside0 (armU l0 Q = armU l0 (armN l0)) := ⟨by rw [show armN l0 = Q by unfold armN; omega]⟩
        have HI2 : Aside0 (Lib.IsBuilder 92 5 B B (Lib.byteCells (armU l0 (armN l0))) wr) := ⟨by rw [← HEND.out]; exact HI.out⟩
        clear hi0 eV eQ eg hll
        go_wp2_with (go_at_call 61; refine (string_calls B B (armU l0 (armN l0)) _ HI2.out HBS.out).mono ?_)
        rintro e w3 ⟨rfl, hB3⟩
        go_wp2
        go_ret
        exact ⟨by rw [HRES.out]; rfl, HW.out.trans (by rw [HBB.out]; exact hB3)⟩
end Go.Proofs.Ytccbjchlcelkgaa.Pr
