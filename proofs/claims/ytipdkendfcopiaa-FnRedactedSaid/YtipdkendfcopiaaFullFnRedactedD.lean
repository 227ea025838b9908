/- Printed texts, walks and plain facts that the law FnRedacted leans on, joined. -/
import Derived.Test.YtipdkendfcopiaaFullFnRedactedC
namespace Go.Proofs.Ytipdkendfcopiaa.Pr
open Go.RowKit Go.Proofs.YtipdkendfcopiaaW.PrintWords Go.Proofs.YtipdkendfcopiaaW.PrintLast Go.Proofs.YtipdkendfcopiaaW.PrintMore
attribute [local go_sem] max2_int min2_int max_two min_two max_three min_three max_four min_four
set_option linter.unusedVariables false
set_option linter.unusedSimpArgs false
def qwv.f : Nat → List (List Int) → Option (List Int)
 | 0,_ => none
 | k + 1,l0 => if (l0.length : Int) = 0 then ((qxq.f k ([] : List Int)).bind fun t101 => (some t101)) else (if (l0.length : Int) = 1 then (if 0 < (l0.length : Int) then (some (rd_L2 l0 0)) else (none)) else ((qvx.f k (l0.length : Int)).bind fun t105 => (if 0 ≤ t105 then (if t105 ≤ (l0.length : Int) then ((qwv.f k (l0.take (t105 : Int).toNat)).bind fun t111 => ((qwv.f k (l0.drop (t105 : Int).toNat)).bind fun t119 => ((qwj.f k t111 t119).bind fun t122 => (some t122)))) else (none)) else (none))))
def qwv.T7 : Bool × List (List Nat × List Nat) := (true,[([],[]),([],[]),([0,1],[0,1]),([2],[2]),([],[]),([],[]),([4,5],[4,5]),([6,3],[6]),([3,7,7],[3,7]),([8,8,0,1,2,3,4,5,6,7,8],[8])])
def qwv.B7 : List Nat := [0,0,3,7,0,0,48,127,255,511]
theorem qwv.tab7 : rtab .any (opsOf Try.f81 7) = qwv.T7 := by kernel_rfl
theorem qwv.bits7 : waitsOk qwv.T7.2 qwv.B7 = true := by kernel_rfl
set_option maxHeartbeats 8000000 in
set_option maxRecDepth 100000 in
theorem qwv.calls (k : Nat) : ∀ (P0_ : Nat → Prop) (A0 : Option Addr) (c0 : Nat) (l0 : List (List Int)) (r : List Int) (w : World) (hs0 : Kd.V (Kd.slice 5 (Kd.int .u8)) 22 w w.heap.size (fun k_ => P0_ k_) (.slice A0 l0.length c0) l0) (h : qwv.f k l0 = some r),
  Calls Try.prog 81 #[.slice A0 l0.length c0] w fun e w' => ∃ v0_ : Value,e = .returned (v0_) ∧ Kd.V (Kd.int .u8) 5 w' w.heap.size (fun k_ => (P0_ k_ ∨ w.heap.size ≤ k_)) v0_ r ∧ Below w.heap.size w w' := by
 induction k using Nat.strongRecOn with
 | _ k ih =>
 intro P0_ A0 c0 l0 r w hs0 h
 cases k with
 | zero => exact absurd h (by simp [qwv.f])
 | succ k =>
 simp only [qwv.f] at h
 have HO0 := qq.mk (show Kd.V (Kd.slice 5 (Kd.int .u8)) 22 w w.heap.size (fun k_ => (P0_ k_ ∨ w.heap.size ≤ k_)) (.slice A0 l0.length c0) l0 from Kd.V_mono hs0 (fun k_ hk => .inl hk))
 have HB := qq.mk (Below.refl w.heap.size w)
 have H : (if (l0.length : Int) = 0 then ((qxq.f k ([] : List Int)).bind fun t101 => (some t101)) else (if (l0.length : Int) = 1 then (if 0 < (l0.length : Int) then (some (rd_L2 l0 0)) else (none)) else ((qvx.f k (l0.length : Int)).bind fun t105 => (if 0 ≤ t105 then (if t105 ≤ (l0.length : Int) then ((qwv.f k (l0.take (t105 : Int).toNat)).bind fun t111 => ((qwv.f k (l0.drop (t105 : Int).toNat)).bind fun t119 => ((qwj.f k t111 t119).bind fun t122 => (some t122)))) else (none)) else (none))))) = some r := h
 clear h
 by_cases c2 : (l0.length : Int) = 0
 ·rw [if_pos c2] at H
  have c2b0 : ((l0.length : Int) == 0) = true := beq_iff_eq.mpr c2
  have c2b1 : ((l0.length : Int) != 0) = false := bne_eq_false_iff_eq.mpr c2
  clear c2
  replace H := Option.bind_eq_some_iff.mp H
  obtain ⟨t101,A30,H⟩ := H
  replace H : (some t101) = some r := H
  have A3 := qq.mk A30
  clear A30
  obtain rfl := Option.some.inj H
  go_enter Try.func81,Try.ntmps81
  go_wp2_with (first | ((with_reducible refine kj (f := 116) rfl ?_);refine goesL_ (some 8) rfl rfl Try.func116 (by kernel_rfl) rfl #[.slice none 0 0] rfl (by (try simp only [List.map_toArray,List.map_cons,List.map_nil]);first | done | rfl | (simp only [List.length_drop,List.length_take];rfl)) ?_;(refine (qxq.calls k _ _ ([] : List Int) t101 _ ?side1 ?side2 A3.out).mono ?_);(case side1 => exact Kd.C_nil _ _);(case side2 => exact Nat.le_refl _);rintro e w4 ⟨v102,rfl,ho0,hb⟩;refine ⟨_,rfl,?_⟩;have n0_ := qq.mk (Kd.V_elder' (by (with_reducible repeat (first | apply Kd.wq | apply Kd.vx | apply Kd.wz));exact HO0.out) (Kd.R_base ho0) hb);have n1_ := qq.mk (Kd.R_lower (Kd.R_newM (M := fun k_ => (w.heap.size ≤ k_)) ho0 (zw (by repeat (first | (with_reducible first | exact HB.out | apply qj | apply qz | apply qk) | exact HB.out))) (fun k_ h_ => h_)) (zw (by repeat (first | (with_reducible first | exact HB.out | apply qj | apply qz | apply qk) | exact HB.out))));have n2_ := qq.mk (zv (by repeat (first | (with_reducible first | exact HB.out | apply qj | apply qz | apply qk) | exact HB.out)) hb);clear HO0;clear HB;have HO0 := n0_;have HO103 := n1_;have HB := n2_;clear n0_ n1_ n2_;(try clear hb);(try clear hb2);(try clear hk);(try clear hi);(try clear ho0)))
  go_ret
  exact ⟨_,by first | rfl | (simp [*,kz,jx] <;> rfl),Kd.V_mono (Kd.R_V (by (with_reducible repeat (first | apply Kd.jq | apply Kd.zx | apply Kd.jz));exact Kd.R_mono HO103.out (fun _ hk => hk.1))) (fun k_ hk => by first | exact ⟨(.inr (hk.1)),hk.2⟩ | exact (.inr (hk))),by repeat (first | (with_reducible first | exact HB.out | apply qj | apply qz | apply qk) | exact HB.out)⟩
 ·rw [if_neg c2] at H
  have c2b0 : ((l0.length : Int) == 0) = false := beq_eq_false_iff_ne.mpr c2
  have c2b1 : ((l0.length : Int) != 0) = true := bne_iff_ne.mpr c2
  have c2b2 : ¬ (l0 = []) := fun h_ => c2 (by rw [h_];rfl)
  by_cases c5 : (l0.length : Int) = 1
  ·rw [if_pos c5] at H
   have c5b0 : ((l0.length : Int) == 1) = true := beq_iff_eq.mpr c5
   have c5b1 : ((l0.length : Int) != 1) = false := bne_eq_false_iff_eq.mpr c5
   clear c5
   by_cases c6 : 0 < (l0.length : Int)
   ·rw [if_pos c6] at H
    have c6b0 : decide (0 < (l0.length : Int)) = true := decide_eq_true c6
    have c6b1 : decide (0 < l0.length) = true := decide_eq_true (by omega)
    clear c6
    obtain rfl := Option.some.inj H
    have p104 : 0 ≤ (0 : Int) := (by omega)
    have q104 : 0 < (l0.length : Int) := of_decide_eq_true (by assumption)
    obtain ⟨ad104,A104_0,c104_0,e104,hx104_0,hl104_0,hi104_0⟩ := at_L2 (Kd.V_reads' HO0.out).2.2 0 p104 q104
    cases e104
    obtain ⟨ce104,hce104,hMe104,hcc104⟩ := Kd.V_get HO0.out [] 0 p104 (by first | exact q104 | exact of_decide_eq_true (by assumption) | (have e_ := (Kd.V_reads' HO0.out).1;omega))
    obtain ⟨ua104_0,uc104_0,rfl,ul104_0,ge104_0⟩ := Kd.FK_slice_open hMe104
    have hv104_0 := hcc104 0 _ rfl
    rw [Nat.add_zero,show ((Kd.slice 5 (Kd.int .u8))).sz = 1 from rfl,Nat.mul_one] at hv104_0
    replace hv104_0 := Option.some.inj (hv104_0.symm.trans hx104_0)
    injection hv104_0 with hva_ hvn_ hvc_
    rw [hva_] at ge104_0
    rw [hvc_] at ul104_0
    have HL104_0 := qq.mk (show Kd.V (Kd.int .u8) 5 _ w.heap.size _ _ (rd_L2 l0 0) from Kd.V_mk ul104_0 ge104_0)
    clear hva_ hvn_ hvc_ ge104_0 ul104_0
    clear hcc104 hce104
    have qi104 : (0 < l0.length) = True := eq_true (by omega)
    (try rw [show ((0 : Int)).toNat = 0 from rfl] at hx104_0)
    (try rw [Addr.add_zero'] at hx104_0)
    have HR104_0 := qq.mk hi104_0
    have HC104_0 := qq.mk hl104_0
    clear hi104_0 hl104_0
    replace p104 := eq_true p104
    replace q104 := eq_true q104
    go_enter Try.func81,Try.ntmps81
    go_wp2
    go_ret
    exact ⟨_,by first | rfl | (simp [*,kz,jx] <;> rfl),by (with_reducible repeat (first | apply Kd.wq | apply Kd.vx | apply Kd.wz));exact HL104_0.out,by repeat (first | (with_reducible first | exact HB.out | apply qj | apply qz | apply qk) | exact HB.out)⟩
   ·rw [if_neg c6] at H
    exact absurd H (by simp)
  ·rw [if_neg c5] at H
   have c5b0 : ((l0.length : Int) == 1) = false := beq_eq_false_iff_ne.mpr c5
   have c5b1 : ((l0.length : Int) != 1) = true := bne_iff_ne.mpr c5
   replace H := Option.bind_eq_some_iff.mp H
   obtain ⟨t105,A70,H⟩ := H
   replace H : (if 0 ≤ t105 then (if t105 ≤ (l0.length : Int) then ((qwv.f k (l0.take (t105 : Int).toNat)).bind fun t111 => ((qwv.f k (l0.drop (t105 : Int).toNat)).bind fun t119 => ((qwj.f k t111 t119).bind fun t122 => (some t122)))) else (none)) else (none)) = some r := H
   have A7 := qq.mk A70
   clear A70
   by_cases c8 : 0 ≤ t105
   ·rw [if_pos c8] at H
    have c8b0 := eq_true c8
    have c8b1 : decide (0 ≤ t105) = true := decide_eq_true c8
    clear c8
    by_cases c9 : t105 ≤ (l0.length : Int)
    ·rw [if_pos c9] at H
     have c9b0 := eq_true c9
     have c9b1 : decide (t105 ≤ (l0.length : Int)) = true := decide_eq_true c9
     clear c9
     obtain ⟨y106,hy106⟩ : ∃ y_ : List (List Int),y_ = (l0.take (t105 : Int).toNat) := ⟨_,rfl⟩
     replace H : ((qwv.f k y106).bind fun t111 => ((qwv.f k (l0.drop (t105 : Int).toNat)).bind fun t119 => ((qwj.f k t111 t119).bind fun t122 => (some t122)))) = some r := by first | (rw [hy106];with_reducible exact H) | (have H2_ := (Option.bind_some _ _).symm.trans H;rw [hy106];with_reducible exact H2_) | (have H2_ := (Option.bind_some _ _).symm.trans H;with_reducible exact H2_) | with_reducible exact H | (rw [hy106];exact H) | exact H
     have Ny106 := qq.mk hy106
     clear hy106
     replace H := Option.bind_eq_some_iff.mp H
     obtain ⟨t111,A100,H⟩ := H
     replace H : ((qwv.f k (l0.drop (t105 : Int).toNat)).bind fun t119 => ((qwj.f k t111 t119).bind fun t122 => (some t122))) = some r := H
     have A10 := qq.mk A100
     clear A100
     have c11b0 := eq_true (of_decide_eq_true (by assumption) : 0 ≤ t105)
     have c12b0 := eq_true (of_decide_eq_true (by assumption) : t105 ≤ (l0.length : Int))
     obtain ⟨y114,hy114⟩ : ∃ y_ : List (List Int),y_ = (l0.drop (t105 : Int).toNat) := ⟨_,rfl⟩
     replace H : ((qwv.f k y114).bind fun t119 => ((qwj.f k t111 t119).bind fun t122 => (some t122))) = some r := by first | (rw [hy114];with_reducible exact H) | (have H2_ := (Option.bind_some _ _).symm.trans H;rw [hy114];with_reducible exact H2_) | (have H2_ := (Option.bind_some _ _).symm.trans H;with_reducible exact H2_) | with_reducible exact H | (rw [hy114];exact H) | exact H
     have Ny114 := qq.mk hy114
     clear hy114
     replace H := Option.bind_eq_some_iff.mp H
     obtain ⟨t119,A130,H⟩ := H
     replace H : ((qwj.f k t111 t119).bind fun t122 => (some t122)) = some r := H
     have A13 := qq.mk A130
     clear A130
     replace H := Option.bind_eq_some_iff.mp H
     obtain ⟨t122,A140,H⟩ := H
     replace H : (some t122) = some r := H
     have A14 := qq.mk A140
     clear A140
     obtain rfl := Option.some.inj H
     go_enter Try.func81,Try.ntmps81
     try go_wp2_with (first | ((with_reducible refine kj (f := 119) rfl ?_);refine goesL_ (some 16) rfl rfl Try.func119 (by kernel_rfl) rfl #[.int .i64 (l0.length : Int)] rfl (by (try simp only [List.map_toArray,List.map_cons,List.map_nil]);first | done | rfl | (simp only [List.length_drop,List.length_take];rfl)) ?_;(with_reducible refine (qvx.calls k (l0.length : Int) t105 _ A7.out).mono ?_);rintro e w' ⟨rfl,⟨nd,rfl⟩⟩;refine ⟨_,rfl,?_⟩))
     have n0_ := qq.mk (Kd.wz (Kd.vx HO0.out nd))
     have n1_ := qq.mk (qk (qz HB.out nd))
     clear HO0
     clear HB
     have HO0 := n0_
     have HB := n1_
     clear n0_ n1_
     have q16 : (t105 : Int) ≤ ((l0.length : Int) : Int) := of_decide_eq_true (by assumption)
     obtain ⟨i016,hi016,_,hsz16,_⟩ := info_parts info22
     have hroom16 : l0.length ≤ c0 := (Kd.V_reads' HO0.out).2.1
     have hC16 : Kd.F (Kd.slice 5 (Kd.int .u8)) _ _ A0 l0.length l0 := (Kd.V_at (base := w.heap.size) HO0.out).2.2
     have hcut16 := cut_to (P := Try.prog) 44 22 .i64 Try.underlying44 hi016 A0 l0.length c0 t105 (of_decide_eq_true (by assumption)) q16 hroom16
     have hr16 := Kd.F_take (m := (t105 : Int).toNat) hC16 (by omega)
     have hy16 : y106.length = (t105 : Int).toNat := (by rw [Ny106.out,List.length_take];omega)
     rw [← Ny106.out] at hr16
     rw [← hy16] at hcut16
     have HO110 := qq.mk (show Kd.V (Kd.slice 5 (Kd.int .u8)) 22 _ w.heap.size _ (.slice A0 y106.length c0) y106 from Kd.V_mk (by omega) hr16)
     have HC110 := qq.mk (show y106.length ≤ c0 from by omega)
     clear hr16 hC16 hroom16 hi016 hsz16
     have KY16 := qq.mk hy16
     clear hy16
     replace q16 := eq_true q16
     have q17 : (t105 : Int) ≤ ((l0.length : Int) : Int) := of_decide_eq_true (by assumption)
     obtain ⟨i017,hi017,_,hsz17,_⟩ := info_parts info22
     have hroom17 : l0.length ≤ c0 := (Kd.V_reads' HO0.out).2.1
     have hC17 : Kd.F (Kd.slice 5 (Kd.int .u8)) _ _ A0 l0.length l0 := (Kd.V_at (base := w.heap.size) HO0.out).2.2
     have q017 : (0 : Int) ≤ (t105 : Int) := of_decide_eq_true (by assumption)
     have hcut17 := cut_from (P := Try.prog) 44 22 .i64 Try.underlying44 hi017 1 hsz17 A0 l0.length c0 t105 q017 q17
     have hr17 := Kd.F_cut (m := (t105 : Int).toNat) (c := c0) hC17 (by omega) hroom17
     obtain ⟨A17,hA17⟩ : ∃ A1,A1 = (if c0 = (t105 : Int).toNat then A0 else (A0 : Option Addr).map (·.add ((t105 : Int).toNat * 1))) := ⟨_,rfl⟩
     obtain ⟨c17,hc17⟩ : ∃ c1,c1 = c0 - (t105 : Int).toNat := ⟨_,rfl⟩
     have hy17 : y114.length = l0.length - (t105 : Int).toNat := (by rw [Ny114.out,List.length_drop] <;> omega)
     rw [show (l0).drop (t105 : Int).toNat = y114 from Ny114.out.symm] at hr17
     replace hr17 : Kd.F (Kd.slice 5 (Kd.int .u8)) _ _ A17 y114.length y114 := (by rw [hA17];exact hr17)
     rw [← hy17,← hA17,← hc17] at hcut17
     have HO118 := qq.mk (show Kd.V (Kd.slice 5 (Kd.int .u8)) 22 _ w.heap.size _ (.slice A17 y114.length c17) y114 from Kd.V_mk (by rw [hy17,hc17];exact Nat.sub_le_sub_right hroom17 _) hr17)
     have HC118 := qq.mk (show y114.length ≤ c17 from by rw [hy17,hc17];exact Nat.sub_le_sub_right hroom17 _)
     clear hr17 hC17 hroom17 hi017 hsz17 hc17
     have KY17 := qq.mk hy17
     have KA17 := qq.mk hA17
     clear hy17 hA17
     replace q17 := eq_true q17
     refine start_ (n := 10) (S := fun w' => True) (ds := []) #[false,false,false,false,false,false,false,false,false,false] (by kernel_rfl) rfl rfl trivial (fun hHeld => ?_);refine with_tabW qwv.tab7 qwv.bits7 (fun HT_ HW_ => ?_)
     generalize (w.drewN nd).drew = w15 at HO0 HB HO110 HO118 hHeld ⊢
     refine pure_ (i := 0) (N := some 17) (v := ?_) (a' := ?_) #[true,false,false,false,false,false,false,false,false,false] rfl rfl (any_of HT_.out (by kernel_rfl)) (fun _ _ _ h => h) (Or.inl ⟨by rfl,?_⟩) ?_ ?_
     rotate_left
     ·intro w'
      go_simp
      with_reducible rfl
     rotate_left
     ·simp only [Act.put,List.setIfInBounds_toArray,List.set_cons_zero,List.set_cons_succ,i64_w,i32_w]
      rfl
     refine pure_ (i := 1) (N := some 18) (v := ?_) (a' := ?_) #[true,true,false,false,false,false,false,false,false,false] rfl rfl (any_of HT_.out (by kernel_rfl)) (fun _ _ _ h => h) (Or.inl ⟨by rfl,?_⟩) ?_ ?_
     rotate_left
     ·intro w'
      go_simp
      with_reducible rfl
     rotate_left
     ·simp only [Act.put,List.setIfInBounds_toArray,List.set_cons_zero,List.set_cons_succ,i64_w,i32_w]
      rfl
     refine pure_ (i := 2) (N := some 19) (v := ?_) (a' := ?_) #[true,true,true,false,false,false,false,false,false,false] rfl rfl (any_of HT_.out (by kernel_rfl)) (fun _ _ _ h => h) (Or.inl ⟨by rfl,?_⟩) ?_ ?_
     rotate_left
     ·intro w'
      go_simp
      with_reducible rfl
     rotate_left
     ·simp only [Act.put,List.setIfInBounds_toArray,List.set_cons_zero,List.set_cons_succ,i64_w,i32_w]
      rfl
     refine pure_ (i := 4) (N := some 21) (v := ?_) (a' := ?_) #[true,true,true,false,true,false,false,false,false,false] rfl rfl (any_of HT_.out (by kernel_rfl)) (fun _ _ _ h => h) (Or.inl ⟨by rfl,?_⟩) ?_ ?_
     rotate_left
     ·intro w'
      go_simp
      with_reducible rfl
     rotate_left
     ·simp only [Act.put,List.setIfInBounds_toArray,List.set_cons_zero,List.set_cons_succ,i64_w,i32_w]
      rfl
     refine pure_ (i := 5) (N := some 22) (v := ?_) (a' := ?_) #[true,true,true,false,true,true,false,false,false,false] rfl rfl (any_of HT_.out (by kernel_rfl)) (fun _ _ _ h => h) (Or.inl ⟨by rfl,?_⟩) ?_ ?_
     rotate_left
     ·intro w'
      go_simp
      with_reducible rfl
     rotate_left
     ·simp only [Act.put,List.setIfInBounds_toArray,List.set_cons_zero,List.set_cons_succ,i64_w,i32_w]
      rfl
     refine pure_ (i := 6) (N := some 23) (v := ?_) (a' := ?_) #[true,true,true,false,true,true,true,false,false,false] rfl rfl (any_of HT_.out (by kernel_rfl)) (fun _ _ _ h => h) (Or.inl ⟨by rfl,?_⟩) ?_ ?_
     rotate_left
     ·intro w'
      go_simp
      with_reducible rfl
     rotate_left
     ·simp only [Act.put,List.setIfInBounds_toArray,List.set_cons_zero,List.set_cons_succ,i64_w,i32_w]
      rfl
     refine one_ (i := 3) (N := some 20) #[true,true,true,true,true,true,true,false,false,false] rfl rfl (one_of HT_.out (by kernel_rfl)) (by decide) (fun K hK => ?_)
     refine goes_ Try.func81 (by kernel_rfl) rfl #[.slice A0 y106.length c0] (by rfl) rfl rfl (by (try simp only [List.map_toArray,List.map_cons,List.map_nil]);first | done | rfl | (simp only [List.length_drop,List.length_take];rfl)) ?_
     with_reducible refine (ih k (by omega) (fun k_ => (P0_ k_ ∨ w.heap.size ≤ k_)) _ _ y106 t111 _ ?side1 A10.out).mono ?_
     (case side1 => exact HO110.out)
     rintro e w18 ⟨v112,rfl,ho0,hb⟩
     refine ⟨_,rfl,?_⟩
     have n0_ := qq.mk (Kd.V_below (by (with_reducible repeat (first | apply Kd.wq | apply Kd.vx | apply Kd.wz));exact HO0.out) hb)
     have n1_ := qq.mk (Kd.V_below (by (with_reducible repeat (first | apply Kd.wq | apply Kd.vx | apply Kd.wz));exact HO110.out) hb)
     have n2_ := qq.mk (Kd.V_below (by (with_reducible repeat (first | apply Kd.wq | apply Kd.vx | apply Kd.wz));exact HO118.out) hb)
     have n3_ := qq.mk (Kd.V_lower (Kd.V_mono (ok' := fun k_ => (P0_ k_ ∨ w.heap.size ≤ k_)) ho0 (fun k_ hk_ => Or.elim hk_ (fun hs_ => hs_) (fun hn_ => (.inr (Nat.le_trans (zw (by repeat (first | (with_reducible first | exact HB.out | apply qj | apply qz | apply qk) | exact HB.out))) hn_))))) (zw (by repeat (first | (with_reducible first | exact HB.out | apply qj | apply qz | apply qk) | exact HB.out))))
     have n4_ := qq.mk (zv (by repeat (first | (with_reducible first | exact HB.out | apply qj | apply qz | apply qk) | exact HB.out)) hb)
     clear HO0
     clear HO110
     clear HO118
     clear HB
     have HO0 := n0_
     have HO110 := n1_
     have HO118 := n2_
     have HO113 := n3_
     have HB := n4_
     clear n0_ n1_ n2_ n3_ n4_
     (try clear hb)
     (try clear hb2)
     (try clear hk)
     (try clear hi)
     (try clear ho0)
     refine hK.out _ _ trivial (fun hHeld => ?_)
     clear hK K
     refine norm_ (a' := ?_) ?_ ?_
     rotate_left
     ·show Act.put _ (some 20) _ = _
      simp only [Act.put,List.setIfInBounds_toArray,List.set_cons_zero,List.set_cons_succ,i64_w,i32_w]
      rfl
     refine one_ (i := 7) (N := some 24) #[true,true,true,true,true,true,true,true,false,false] rfl rfl (one_of HT_.out (by kernel_rfl)) (by decide) (fun K hK => ?_)
     refine goes_ Try.func81 (by kernel_rfl) rfl #[.slice A17 y114.length c17] (by rfl) rfl rfl (by (try simp only [List.map_toArray,List.map_cons,List.map_nil]);first | done | rfl | (simp only [List.length_drop,List.length_take];rfl)) ?_
     with_reducible refine (ih k (by omega) (fun k_ => (P0_ k_ ∨ w.heap.size ≤ k_)) _ _ y114 t119 _ ?side1 A13.out).mono ?_
     (case side1 => exact HO118.out)
     rintro e w19 ⟨v120,rfl,ho0,hb⟩
     refine ⟨_,rfl,?_⟩
     have n0_ := qq.mk (Kd.V_below (by (with_reducible repeat (first | apply Kd.wq | apply Kd.vx | apply Kd.wz));exact HO0.out) hb)
     have n1_ := qq.mk (Kd.V_below (by (with_reducible repeat (first | apply Kd.wq | apply Kd.vx | apply Kd.wz));exact HO110.out) hb)
     have n2_ := qq.mk (Kd.V_below (by (with_reducible repeat (first | apply Kd.wq | apply Kd.vx | apply Kd.wz));exact HO118.out) hb)
     have n3_ := qq.mk (Kd.V_below (by (with_reducible repeat (first | apply Kd.wq | apply Kd.vx | apply Kd.wz));exact HO113.out) hb)
     have n4_ := qq.mk (Kd.V_lower (Kd.V_mono (ok' := fun k_ => (P0_ k_ ∨ w.heap.size ≤ k_)) ho0 (fun k_ hk_ => Or.elim hk_ (fun hs_ => hs_) (fun hn_ => (.inr (Nat.le_trans (zw (by repeat (first | (with_reducible first | exact HB.out | apply qj | apply qz | apply qk) | exact HB.out))) hn_))))) (zw (by repeat (first | (with_reducible first | exact HB.out | apply qj | apply qz | apply qk) | exact HB.out))))
     have n5_ := qq.mk (zv (by repeat (first | (with_reducible first | exact HB.out | apply qj | apply qz | apply qk) | exact HB.out)) hb)
     clear HO0
     clear HO110
     clear HO118
     clear HO113
     clear HB
     have HO0 := n0_
     have HO110 := n1_
     have HO118 := n2_
     have HO113 := n3_
     have HO121 := n4_
     have HB := n5_
     clear n0_ n1_ n2_ n3_ n4_ n5_
     (try clear hb)
     (try clear hb2)
     (try clear hk)
     (try clear hi)
     (try clear ho0)
     obtain ⟨Ao20,co20,eo20⟩ := Kd.V_slice HO113.out
     (first | subst eo20 | (injection eo20 with f1_ f2_ f3_;have f4_ := f1_.symm;have f5_ := f3_.symm;clear f1_ f2_ f3_;subst f4_;subst f5_))
     obtain ⟨Ao21,co21,eo21⟩ := Kd.V_slice HO121.out
     (first | subst eo21 | (injection eo21 with f1_ f2_ f3_;have f4_ := f1_.symm;have f5_ := f3_.symm;clear f1_ f2_ f3_;subst f4_;subst f5_))
     refine hK.out _ _ trivial (fun hHeld => ?_)
     clear hK K
     refine norm_ (a' := ?_) ?_ ?_
     rotate_left
     ·show Act.put _ (some 24) _ = _
      simp only [Act.put,List.setIfInBounds_toArray,List.set_cons_zero,List.set_cons_succ,i64_w,i32_w]
      rfl
     refine one_ (i := 8) (N := some 25) #[true,true,true,true,true,true,true,true,true,false] rfl rfl (one_of HT_.out (by kernel_rfl)) (by decide) (fun K hK => ?_)
     refine goes_ Try.func120 (by kernel_rfl) rfl #[.slice Ao20 t111.length co20,.slice Ao21 t119.length co21] (by rfl) rfl rfl (by (try simp only [List.map_toArray,List.map_cons,List.map_nil]);first | done | rfl | (simp only [List.length_drop,List.length_take];rfl)) ?_
     with_reducible refine (qwj.calls k _ _ t111 _ _ t119 t122 _ ?side1 ?side2 ?side3 ?side4 A14.out).mono ?_
     (case side1 => repeat (first | exact (Kd.V_reads' HO113.out).2.2 | (with_reducible refine Kd.C_alloc ?_ _) | (with_reducible refine Kd.C_drewN ?_ _) | (with_reducible refine Kd.C_drew ?_)))
     (case side2 => exact (Kd.V_reads' HO113.out).2.1)
     (case side3 => repeat (first | exact (Kd.V_reads' HO121.out).2.2 | (with_reducible refine Kd.C_alloc ?_ _) | (with_reducible refine Kd.C_drewN ?_ _) | (with_reducible refine Kd.C_drew ?_)))
     (case side4 => exact (Kd.V_reads' HO121.out).2.1)
     rintro e w22 ⟨v123,rfl,ho0,hb⟩
     refine ⟨_,rfl,?_⟩
     have n0_ := qq.mk (Kd.V_elder' (by (with_reducible repeat (first | apply Kd.wq | apply Kd.vx | apply Kd.wz));exact HO0.out) (Kd.R_base ho0) hb)
     have n1_ := qq.mk (Kd.V_elder' (by (with_reducible repeat (first | apply Kd.wq | apply Kd.vx | apply Kd.wz));exact HO110.out) (Kd.R_base ho0) hb)
     have n2_ := qq.mk (Kd.V_elder' (by (with_reducible repeat (first | apply Kd.wq | apply Kd.vx | apply Kd.wz));exact HO118.out) (Kd.R_base ho0) hb)
     have n3_ := qq.mk (Kd.V_elder' (by (with_reducible repeat (first | apply Kd.wq | apply Kd.vx | apply Kd.wz));exact HO113.out) (Kd.R_base ho0) hb)
     have n4_ := qq.mk (Kd.V_elder' (by (with_reducible repeat (first | apply Kd.wq | apply Kd.vx | apply Kd.wz));exact HO121.out) (Kd.R_base ho0) hb)
     have n5_ := qq.mk (Kd.R_lower (Kd.R_newM (M := fun k_ => (w.heap.size ≤ k_)) ho0 (zw (by repeat (first | (with_reducible first | exact HB.out | apply qj | apply qz | apply qk) | exact HB.out))) (fun k_ h_ => h_)) (zw (by repeat (first | (with_reducible first | exact HB.out | apply qj | apply qz | apply qk) | exact HB.out))))
     have n6_ := qq.mk (zv (by repeat (first | (with_reducible first | exact HB.out | apply qj | apply qz | apply qk) | exact HB.out)) hb)
     clear HO0
     clear HO110
     clear HO118
     clear HO113
     clear HO121
     clear HB
     have HO0 := n0_
     have HO110 := n1_
     have HO118 := n2_
     have HO113 := n3_
     have HO121 := n4_
     have HO124 := n5_
     have HB := n6_
     clear n0_ n1_ n2_ n3_ n4_ n5_ n6_
     (try clear hb)
     (try clear hb2)
     (try clear hk)
     (try clear hi)
     (try clear ho0)
     refine hK.out _ _ trivial (fun hHeld => ?_)
     clear hK K
     refine norm_ (a' := ?_) ?_ ?_
     rotate_left
     ·show Act.put _ (some 25) _ = _
      simp only [Act.put,List.setIfInBounds_toArray,List.set_cons_zero,List.set_cons_succ,i64_w,i32_w]
      rfl
     refine pure_ (i := 9) (N := some 2) (v := ?_) (a' := ?_) #[true,true,true,true,true,true,true,true,true,true] rfl rfl (any_of HT_.out (by kernel_rfl)) (fun _ _ _ h => h) (Or.inl ⟨by rfl,?_⟩) ?_ ?_
     rotate_left
     ·intro w'
      go_simp
      with_reducible rfl
     rotate_left
     ·simp only [Act.put,List.setIfInBounds_toArray,List.set_cons_zero,List.set_cons_succ,i64_w,i32_w]
      rfl
     refine done_ (done_of HT_.out (by kernel_rfl)) ?_
     try go_wp2
     go_ret
     exact ⟨_,by first | rfl | (simp [*,kz,jx] <;> rfl),Kd.V_mono (Kd.R_V (by (with_reducible repeat (first | apply Kd.jq | apply Kd.zx | apply Kd.jz));exact Kd.R_mono HO124.out (fun _ hk => hk.1))) (fun k_ hk => by first | exact ⟨(.inr (hk.1)),hk.2⟩ | exact (.inr (hk))),by repeat (first | (with_reducible first | exact HB.out | apply qj | apply qz | apply qk) | exact HB.out)⟩
    ·rw [if_neg c9] at H
     exact absurd H (by simp)
   ·rw [if_neg c8] at H
    exact absurd H (by simp)
def qkz.f (k : Nat) (l0 : List (S27)) : Option (List Int) := (qwz.f k l0).bind fun bt101 => (if bt101.2 = true then ((qwv.f k bt101.1).bind fun t105 => (some t105)) else (some ([] : List Int)))
set_option maxHeartbeats 8000000 in
set_option maxRecDepth 100000 in
theorem qkz.calls (k : Nat) (A0 : Option Addr) (c0 : Nat) (l0 : List (S27)) (r : List Int) (w : World) (hr0 : Kd.C k27 w A0 l0.length l0) (hc0 : l0.length ≤ c0) (h : qkz.f k l0 = some r) :
  Calls Try.prog 34 #[.slice A0 l0.length c0] w fun e w' => ∃ v0_ : Value,e = .returned (v0_) ∧ Kd.V (Kd.int .u8) 5 w' w.heap.size (fun k_ => (w.heap.size ≤ k_)) v0_ r ∧ Below w.heap.size w w' := by
 have HR0 := qq.mk hr0
 have HC0 := qq.mk hc0
 clear hr0 hc0
 have HB := qq.mk (Below.refl w.heap.size w)
 have H : ((qwz.f k l0).bind fun bt101 => (if bt101.2 = true then ((qwv.f k bt101.1).bind fun t105 => (some t105)) else (some ([] : List Int)))) = some r := h
 clear h
 replace H := Option.bind_eq_some_iff.mp H
 obtain ⟨⟨t101,t102⟩,A20,H⟩ := H
 replace H : (if t102 = true then ((qwv.f k t101).bind fun t105 => (some t105)) else (some ([] : List Int))) = some r := H
 have A2 := qq.mk A20
 clear A20
 by_cases c3 : t102 = true
 ·subst c3
  have H1 : ((qwv.f k t101).bind fun t105 => (some t105)) = some r := by rw [if_pos rfl] at H;exact H
  clear H
  have H := H1
  clear H1
  replace H := Option.bind_eq_some_iff.mp H
  obtain ⟨t105,A40,H⟩ := H
  replace H : (some t105) = some r := H
  have A4 := qq.mk A40
  clear A40
  obtain rfl := Option.some.inj H
  go_enter Try.func34,Try.ntmps34
  go_wp2_with (first | ((with_reducible refine kj (f := 80) rfl ?_);refine goesL_ (some 7) rfl rfl Try.func80 (by kernel_rfl) rfl #[.slice A0 l0.length c0] rfl (by (try simp only [List.map_toArray,List.map_cons,List.map_nil]);first | done | rfl | (simp only [List.length_drop,List.length_take];rfl)) ?_;(with_reducible refine (qwz.calls k _ _ l0 t101 true _ ?side1 ?side2 A2.out).mono ?_);(case side1 => repeat (first | exact HR0.out | (with_reducible refine Kd.C_alloc ?_ _) | (with_reducible refine Kd.C_drewN ?_ _) | (with_reducible refine Kd.C_drew ?_)));(case side2 => exact HC0.out);rintro e w5 ⟨v103,rfl,ho0,hb⟩;refine ⟨_,rfl,?_⟩;have n0_ := qq.mk (Kd.S_lower (Kd.S_newM (M := fun k_ => (w.heap.size ≤ k_)) ho0 (zw (by repeat (first | (with_reducible first | exact HB.out | apply qj | apply qz | apply qk) | exact HB.out))) (fun k_ h_ => h_)) (zw (by repeat (first | (with_reducible first | exact HB.out | apply qj | apply qz | apply qk) | exact HB.out))));have n1_ := qq.mk (zv (by repeat (first | (with_reducible first | exact HB.out | apply qj | apply qz | apply qk) | exact HB.out)) hb);clear HB;have HO104 := n0_;have HB := n1_;clear n0_ n1_;(try clear hb);(try clear hb2);(try clear hk);(try clear hi);(try clear ho0);obtain ⟨Ao6,co6,eo6⟩ := Kd.S_slice HO104.out;subst eo6) | ((with_reducible refine kj (f := 81) rfl ?_);refine goesL_ (some 13) rfl rfl Try.func81 (by kernel_rfl) rfl #[.slice Ao6 t101.length co6] rfl (by (try simp only [List.map_toArray,List.map_cons,List.map_nil]);first | done | rfl | (simp only [List.length_drop,List.length_take];rfl)) ?_;(with_reducible refine (qwv.calls k (fun k_ => ((w.heap.size ≤ k_) ∧ True)) _ _ t101 t105 _ ?side1 A4.out).mono ?_);(case side1 => exact Kd.S_V (HO104.out));rintro e w7 ⟨v106,rfl,ho0,hb⟩;refine ⟨_,rfl,?_⟩;have n0_ := qq.mk (Kd.S_below (by (with_reducible repeat (first | apply Kd.vv | apply Kd.vk | apply Kd.vw));exact HO104.out) hb);have n1_ := qq.mk (Kd.V_lower (Kd.V_mono (ok' := fun k_ => (w.heap.size ≤ k_)) ho0 (fun k_ hk_ => Or.elim hk_ (fun hs_ => hs_.1) (fun hn_ => (Nat.le_trans (zw (by repeat (first | (with_reducible first | exact HB.out | apply qj | apply qz | apply qk) | exact HB.out))) hn_)))) (zw (by repeat (first | (with_reducible first | exact HB.out | apply qj | apply qz | apply qk) | exact HB.out))));have n2_ := qq.mk (zv (by repeat (first | (with_reducible first | exact HB.out | apply qj | apply qz | apply qk) | exact HB.out)) hb);clear HO104;clear HB;have HO104 := n0_;have HO107 := n1_;have HB := n2_;clear n0_ n1_ n2_;(try clear hb);(try clear hb2);(try clear hk);(try clear hi);(try clear ho0)))
  go_ret
  exact ⟨_,by first | rfl | (simp [*,kz,jx] <;> rfl),by (with_reducible repeat (first | apply Kd.wq | apply Kd.vx | apply Kd.wz));exact HO107.out,by repeat (first | (with_reducible first | exact HB.out | apply qj | apply qz | apply qk) | exact HB.out)⟩
 ·replace c3 := Bool.eq_false_iff.mpr c3
  subst c3
  have H1 : (some ([] : List Int)) = some r := by rw [if_neg (show ¬ (false = true) by decide)] at H;exact H
  clear H
  have H := H1
  clear H1
  obtain rfl := Option.some.inj H
  go_enter Try.func34,Try.ntmps34
  go_wp2_with (first | ((with_reducible refine kj (f := 80) rfl ?_);refine goesL_ (some 7) rfl rfl Try.func80 (by kernel_rfl) rfl #[.slice A0 l0.length c0] rfl (by (try simp only [List.map_toArray,List.map_cons,List.map_nil]);first | done | rfl | (simp only [List.length_drop,List.length_take];rfl)) ?_;(with_reducible refine (qwz.calls k _ _ l0 t101 false _ ?side1 ?side2 A2.out).mono ?_);(case side1 => repeat (first | exact HR0.out | (with_reducible refine Kd.C_alloc ?_ _) | (with_reducible refine Kd.C_drewN ?_ _) | (with_reducible refine Kd.C_drew ?_)));(case side2 => exact HC0.out);rintro e w8 ⟨v103,rfl,ho0,hb⟩;refine ⟨_,rfl,?_⟩;have n0_ := qq.mk (Kd.S_lower (Kd.S_newM (M := fun k_ => (w.heap.size ≤ k_)) ho0 (zw (by repeat (first | (with_reducible first | exact HB.out | apply qj | apply qz | apply qk) | exact HB.out))) (fun k_ h_ => h_)) (zw (by repeat (first | (with_reducible first | exact HB.out | apply qj | apply qz | apply qk) | exact HB.out))));have n1_ := qq.mk (zv (by repeat (first | (with_reducible first | exact HB.out | apply qj | apply qz | apply qk) | exact HB.out)) hb);clear HB;have HO104 := n0_;have HB := n1_;clear n0_ n1_;(try clear hb);(try clear hb2);(try clear hk);(try clear hi);(try clear ho0)))
  go_ret
  exact ⟨_,by first | rfl | (simp [*,kz,jx] <;> rfl),Kd.R_V (by first | exact Kd.R_nil _ _ _ 0 _ | exact Kd.R_nil _ _ _ _ _ | exact Kd.N_nil _ _ _ _ _ | exact Kd.V_nil _ _ _ _ _ | exact Kd.Q_nil _ _ _ _ _ | exact Kd.S_nil _ _ _ _ _),by repeat (first | (with_reducible first | exact HB.out | apply qj | apply qz | apply qk) | exact HB.out)⟩
def qzk.l0 : Nat → List (List Int) → List (S27) → Int → Int → Option ((List (List Int)) × Bool)
 | 0,_,_,_,_ => none
 | k + 1,x4,x11,x12,x13 => if x13 < x12 then (if 0 ≤ x13 then (if x13 < (x11.length : Int) then ((qqj.f k ((wx x11 x13).f0) ((wx x11 x13).f1) ((wx x11 x13).f2) ((wx x11 x13).f3) ((wx x11 x13).f4)).bind fun t103 => ((nilS.f t103).bind fun t106 => (if t106 = true then (some (([] : List (List Int)),false)) else (if x4.length < 5864062014805 then (qzk.l0 k (x4 ++ [t103]) x11 x12 (wrap64 (x13 + 1))) else (none))))) else (none)) else (none)) else (some (x4,true))
def qzk.f (k : Nat) (l0 : List (S27)) : Option ((List (List Int)) × Bool) := if (l0.length : Int) > 200 then (some (([] : List (List Int)),false)) else (qzk.l0 k ([] : List (List Int)) l0 (l0.length : Int) 0)
set_option maxHeartbeats 8000000 in
set_option maxRecDepth 100000 in
theorem qzk.calls (k : Nat) (A0 : Option Addr) (c0 : Nat) (l0 : List (S27)) (r1 : List (List Int)) (r2 : Bool) (w : World) (hr0 : Kd.C k27 w A0 l0.length l0) (hc0 : l0.length ≤ c0) (h : qzk.f k l0 = some (r1,r2)) :
  Calls Try.prog 82 #[.slice A0 l0.length c0] w fun e w' => ∃ v0_ : Value,e = .returned (.tuple #[v0_,.bool r2]) ∧ Kd.S (Kd.slice 5 (Kd.int .u8)) 22 w' w.heap.size (fun _ => True) v0_ r1 ∧ Below w.heap.size w w' := by
 have hu27 := Try.underlying27
 have HR0 := qq.mk hr0
 have HC0 := qq.mk hc0
 clear hr0 hc0
 have HB := qq.mk (Below.refl w.heap.size w)
 have H : (if (l0.length : Int) > 200 then (some (([] : List (List Int)),false)) else (qzk.l0 k ([] : List (List Int)) l0 (l0.length : Int) 0)) = some (r1,r2) := h
 clear h
 by_cases c2 : (l0.length : Int) > 200
 ·rw [if_pos c2] at H
  have c2b0 : decide (200 < (l0.length : Int)) = true := decide_eq_true c2
  have c2b1 : decide (200 < l0.length) = true := decide_eq_true (by omega)
  clear c2
  simp only [Option.some.injEq,Prod.mk.injEq] at H
  obtain ⟨rfl,rfl⟩ := H
  have heqnil_ := eqlnil
  go_enter Try.func82,Try.ntmps82
  go_wp2
  go_ret2
  exact ⟨_,by first | rfl | (simp [*,kz,jx] <;> rfl),by first | exact Kd.S_nil _ _ _ _ _ | exact Kd.N_nil _ _ _ _ _ | exact Kd.V_nil _ _ _ _ _ | exact Kd.Q_nil _ _ _ _ _ | exact Kd.R_nil _ _ _ _ _,by repeat (first | (with_reducible first | exact HB.out | apply qj | apply qz | apply qk) | exact HB.out)⟩
 ·rw [if_neg c2] at H
  have c2b0 : decide (200 < (l0.length : Int)) = false := decide_eq_false c2
  have c2b1 : decide (200 < l0.length) = false := decide_eq_false (by omega)
  clear c2
  have H' := qq.mk H
  clear H
  have heqnil_ := eqlnil
  go_enter Try.func82,Try.ntmps82
  go_wp2
  go_loopg [4,13] k (fun kq v4 v13 w' => ∃ (x4_1 : List (List Int)) (x13_1 : Int),v13 = .int .i64 x13_1 ∧ qq (qzk.l0 kq x4_1 l0 (l0.length : Int) x13_1 = some (r1,r2)) ∧ qq (kq ≤ k) ∧ qq (Kd.S (Kd.slice 5 (Kd.int .u8)) 22 w' w.heap.size (fun _ => True) v4 x4_1) ∧ qq (Below w.heap.size w w'))
  case atStart => exact ⟨(([] : List (List Int))),(0),(by first | rfl | (simp;done) | (simp [*];done)),H',⟨Nat.le_refl _⟩,⟨by first | exact Kd.S_nil _ _ _ _ _ | exact Kd.N_nil _ _ _ _ _ | exact Kd.V_nil _ _ _ _ _ | exact Kd.Q_nil _ _ _ _ _ | exact Kd.R_nil _ _ _ _ _⟩,⟨by repeat (first | (with_reducible first | exact HB.out | apply qj | apply qz | apply qk) | exact HB.out)⟩⟩
  case round =>
   clear H'
   try clear c2
   try clear c2b0
   try clear c2b1
   try clear p2
   obtain ⟨x4_1,x13_1,rfl,HA,HK1,HO_4,HB⟩ := hrel
   cases gk with
   | zero => exact absurd HA.out (by simp [qzk.l0])
   | succ k1 =>
    have H := HA.out
    clear HA
    simp only [qzk.l0] at H
    by_cases c3 : x13_1 < (l0.length : Int)
    ·rw [if_pos c3] at H
     have c3b0 : decide (x13_1 < (l0.length : Int)) = true := decide_eq_true c3
     clear c3
     by_cases c4 : 0 ≤ x13_1
     ·rw [if_pos c4] at H
      have c4b0 : decide (0 ≤ x13_1) = true := decide_eq_true c4
      clear c4
      by_cases c5 : x13_1 < (l0.length : Int)
      ·rw [if_pos c5] at H
       have c5b0 : decide (x13_1 < (l0.length : Int)) = true := decide_eq_true c5
       clear c5
       replace H := Option.bind_eq_some_iff.mp H
       obtain ⟨t103,A60,H⟩ := H
       replace H : ((nilS.f t103).bind fun t106 => (if t106 = true then (some (([] : List (List Int)),false)) else (if x4_1.length < 5864062014805 then (qzk.l0 k1 (x4_1 ++ [t103]) l0 (l0.length : Int) (wrap64 (x13_1 + 1))) else (none)))) = some (r1,r2) := H
       have A6 := qq.mk A60
       clear A60
       replace H := Option.bind_eq_some_iff.mp H
       obtain ⟨t106,A70,H⟩ := H
       replace H : (if t106 = true then (some (([] : List (List Int)),false)) else (if x4_1.length < 5864062014805 then (qzk.l0 k1 (x4_1 ++ [t103]) l0 (l0.length : Int) (wrap64 (x13_1 + 1))) else (none))) = some (r1,r2) := H
       have A7 := qq.mk A70
       clear A70
       by_cases c8 : t106 = true
       ·subst c8
        have H1 : (some (([] : List (List Int)),false)) = some (r1,r2) := by rw [if_pos rfl] at H;exact H
        clear H
        have H := H1
        clear H1
        simp only [Option.some.injEq,Prod.mk.injEq] at H
        obtain ⟨rfl,rfl⟩ := H
        have p101 : 0 ≤ (x13_1 : Int) := of_decide_eq_true (by assumption)
        have q101 : x13_1 < (l0.length : Int) := of_decide_eq_true (by assumption)
        obtain ⟨ad101,A101_3,c101_3,A101_4,c101_4,e101,hx101_0,hx101_1,hx101_2,hx101_3,hx101_4,hl101_3,hi101_3,hl101_4,hi101_4⟩ := at_T27 HR0.out x13_1 p101 q101
        cases e101
        replace hx101_0 := (HB.out.cell (World.block_lt_of_cell? w _ hx101_0)).trans hx101_0
        replace hx101_1 := (HB.out.cell (World.block_lt_of_cell? w _ hx101_1)).trans hx101_1
        replace hx101_2 := (HB.out.cell (World.block_lt_of_cell? w _ hx101_2)).trans hx101_2
        replace hx101_3 := (HB.out.cell (World.block_lt_of_cell? w _ hx101_3)).trans hx101_3
        replace hx101_4 := (HB.out.cell (World.block_lt_of_cell? w _ hx101_4)).trans hx101_4
        have HR101_3 := qq.mk hi101_3
        have HC101_3 := qq.mk hl101_3
        clear hi101_3 hl101_3
        have HR101_4 := qq.mk hi101_4
        have HC101_4 := qq.mk hl101_4
        clear hi101_4 hl101_4
        replace p101 := eq_true p101
        replace q101 := eq_true q101
        go_wp2_with (first | ((with_reducible refine gate_dst (N := 6) rfl ?_);refine box_event ?hg (N := 6) ?hd (cs := #[.int .i64 0,.string (⟨#[]⟩ : ByteArray),.string (⟨#[]⟩ : ByteArray),.slice none 0 0,.slice none 0 0]) (t := 27) ?hr ?_;(case hd => rfl);(case hg => rfl);(case hr => first | (go_simp;done) | (go_simp;rfl));intro gb102 hg w9 hbox hb;have n0_ := qq.mk (Kd.S_below (by (with_reducible repeat (first | apply Kd.vv | apply Kd.vk | apply Kd.vw));exact HO_4.out) hb);have n1_ := qq.mk (zv (by repeat (first | (with_reducible first | exact HB.out | apply qj | apply qz | apply qk) | exact HB.out)) hb);have n2_ := qq.mk (hbox);have n3_ := qq.mk ((by rw [hg];exact (zw (by repeat (first | (with_reducible first | exact HB.out | apply qj | apply qz | apply qk) | exact HB.out))) : w.heap.size ≤ gb102));have n4_ := qq.mk ((by rw [hg];exact (zw (by repeat (first | (with_reducible first | exact HB.out | apply qj | apply qz | apply qk) | exact HB.out))) : w.heap.size ≤ gb102));clear HO_4;clear HB;have HO_4 := n0_;have HB := n1_;have BK102 := n2_;have GW102 := n3_;have GE102 := n4_;clear n0_ n1_ n2_ n3_ n4_;clear hb hbox hg;have hcz10_0 : w9.cell? ⟨gb102,0,none⟩ = some (.int .i64 0) := (qw BK102.out 0).trans rfl;have hcz10_1 : w9.cell? ⟨gb102,1,none⟩ = some (.string (⟨#[]⟩ : ByteArray)) := (qw BK102.out 1).trans rfl;have hcz10_2 : w9.cell? ⟨gb102,2,none⟩ = some (.string (⟨#[]⟩ : ByteArray)) := (qw BK102.out 2).trans rfl;have hcz10_3 : w9.cell? ⟨gb102,3,none⟩ = some (.slice none 0 0) := (qw BK102.out 3).trans rfl;have hcz10_4 : w9.cell? ⟨gb102,4,none⟩ = some (.slice none 0 0) := (qw BK102.out 4).trans rfl;have hfz10_0 := qv BK102.out 0;have hfz10_1 := qv BK102.out 1;have hfz10_2 := qv BK102.out 2;have hfz10_3 := qv BK102.out 3;have hfz10_4 := qv BK102.out 4) | ((with_reducible refine kj (f := 29) rfl ?_);refine goesL_ (some 18) rfl rfl Try.func29 (by kernel_rfl) rfl #[.agg #[.int .i64 ((wx l0 x13_1).f0),.string ((wx l0 x13_1).f1),.string ((wx l0 x13_1).f2),.slice A101_3 ((wx l0 x13_1).f3).length c101_3,.slice A101_4 ((wx l0 x13_1).f4).length c101_4]] rfl (by (try simp only [List.map_toArray,List.map_cons,List.map_nil]);first | done | rfl | (simp only [List.length_drop,List.length_take];rfl)) ?_;(with_reducible refine (qqj.callsN k1 ((wx l0 x13_1).f0) ((wx l0 x13_1).f1) ((wx l0 x13_1).f2) _ _ ((wx l0 x13_1).f3) _ _ ((wx l0 x13_1).f4) t103 _ ?side1 ?side2 ?side3 ?side4 A6.out).mono ?_);(case side1 => exact Kd.C_below HR101_3.out (by repeat (first | (with_reducible first | exact HB.out | apply qj | apply qz | apply qk | refine qx ?_ GE102.out) | exact HB.out)));(case side2 => exact HC101_3.out);(case side3 => exact Kd.C_below HR101_4.out (by repeat (first | (with_reducible first | exact HB.out | apply qj | apply qz | apply qk | refine qx ?_ GE102.out) | exact HB.out)));(case side4 => exact HC101_4.out);rintro e w11 ⟨v104,rfl,hn0,ho0,hb⟩;refine ⟨_,rfl,?_⟩;have n0_ := qq.mk (Kd.S_elder' (by (with_reducible repeat (first | apply Kd.vv | apply Kd.vk | apply Kd.vw));exact (Kd.S_mono (Kd.S_far (p := ⟨gb102,4,none⟩) (Kd.S_far (p := ⟨gb102,3,none⟩) (Kd.S_far (p := ⟨gb102,2,none⟩) (Kd.S_far (p := ⟨gb102,1,none⟩) (Kd.S_far (p := ⟨gb102,0,none⟩) (Kd.S_types HO_4.out BK102.out (by decide)) (fun _ hk => hk.2) (.int .i64 ((wx l0 x13_1).f0))) (fun _ hk => hk.2) (.string ((wx l0 x13_1).f1))) (fun _ hk => hk.2) (.string ((wx l0 x13_1).f2))) (fun _ hk => hk.2) (.slice A101_3 ((wx l0 x13_1).f3).length c101_3)) (fun _ hk => hk.2) (.slice A101_4 ((wx l0 x13_1).f4).length c101_4)) (fun _ h_ => h_.1))) (Kd.R_base ho0) hb);have n1_ := qq.mk (Kd.R_lower ho0 (zw (by repeat (first | (with_reducible first | exact HB.out | apply qj | apply qz | apply qk | refine qx ?_ GE102.out) | exact HB.out))));have n2_ := qq.mk (wj (g := gb102) (o := .cells #[.int .i64 ((wx l0 x13_1).f0),.string ((wx l0 x13_1).f1),.string ((wx l0 x13_1).f2),.slice A101_3 ((wx l0 x13_1).f3).length c101_3,.slice A101_4 ((wx l0 x13_1).f4).length c101_4] 27 (0,0)) (by (with_reducible repeat (first | refine zz ?_ _ | refine zj ?_ | refine zq ?_ _));refine blk_put (cs := #[.int .i64 ((wx l0 x13_1).f0),.string ((wx l0 x13_1).f1),.string ((wx l0 x13_1).f2),.slice A101_3 ((wx l0 x13_1).f3).length c101_3,.slice none 0 0]) ?_ 4 _ rfl;(with_reducible repeat (first | refine zz ?_ _ | refine zj ?_ | refine zq ?_ _));refine blk_put (cs := #[.int .i64 ((wx l0 x13_1).f0),.string ((wx l0 x13_1).f1),.string ((wx l0 x13_1).f2),.slice none 0 0,.slice none 0 0]) ?_ 3 _ rfl;(with_reducible repeat (first | refine zz ?_ _ | refine zj ?_ | refine zq ?_ _));refine blk_put (cs := #[.int .i64 ((wx l0 x13_1).f0),.string ((wx l0 x13_1).f1),.string (⟨#[]⟩ : ByteArray),.slice none 0 0,.slice none 0 0]) ?_ 2 _ rfl;(with_reducible repeat (first | refine zz ?_ _ | refine zj ?_ | refine zq ?_ _));refine blk_put (cs := #[.int .i64 ((wx l0 x13_1).f0),.string (⟨#[]⟩ : ByteArray),.string (⟨#[]⟩ : ByteArray),.slice none 0 0,.slice none 0 0]) ?_ 1 _ rfl;(with_reducible repeat (first | refine zz ?_ _ | refine zj ?_ | refine zq ?_ _));refine blk_put (cs := #[.int .i64 0,.string (⟨#[]⟩ : ByteArray),.string (⟨#[]⟩ : ByteArray),.slice none 0 0,.slice none 0 0]) ?_ 0 _ rfl;(with_reducible repeat (first | refine zz ?_ _ | refine zj ?_ | refine zq ?_ _));exact BK102.out) hb);have n3_ := qq.mk (zv (by repeat (first | (with_reducible first | exact HB.out | apply qj | apply qz | apply qk | refine qx ?_ GE102.out) | exact HB.out)) hb);clear HO_4;clear BK102;clear HB;have HO_4 := n0_;have HO105 := n1_;have BK102 := n2_;have HB := n3_;clear n0_ n1_ n2_ n3_;(try clear hb);(try clear hb2);(try clear hk);(try clear hi);(try clear ho0);obtain ⟨Ao12,co12,eo12⟩ := Kd.R_slice HO105.out;subst eo12;have hAAo12 := nil_is hn0 A7.out;clear hn0) | ((with_reducible refine kj (f := 158) rfl ?_);refine goesL_ (some 20) rfl rfl Try.func158 (by kernel_rfl) rfl #[.slice Ao12 t103.length co12] rfl (by (try simp only [List.map_toArray,List.map_cons,List.map_nil]);first | done | rfl | (simp only [List.length_drop,List.length_take];rfl)) ?_;(with_reducible refine (nilS.calls _ _ t103 true _ ?side1 ?side2 A7.out).mono ?_);(case side1 => repeat (first | exact (Kd.R_reads' HO105.out).2.2 | (with_reducible refine Kd.C_alloc ?_ _) | (with_reducible refine Kd.C_drewN ?_ _) | (with_reducible refine Kd.C_drew ?_)));(case side2 => exact (Kd.R_reads' HO105.out).2.1);rintro e w' ⟨rfl,⟨nd,rfl⟩⟩;refine ⟨_,rfl,?_⟩))
        go_ret2
        exact ⟨_,by first | rfl | (simp [*,kz,jx] <;> rfl),by first | exact Kd.S_nil _ _ _ _ _ | exact Kd.N_nil _ _ _ _ _ | exact Kd.V_nil _ _ _ _ _ | exact Kd.Q_nil _ _ _ _ _ | exact Kd.R_nil _ _ _ _ _,by repeat (first | (with_reducible first | exact HB.out | apply qj | apply qz | apply qk | refine qx ?_ GE102.out) | exact HB.out)⟩
       ·replace c8 := Bool.eq_false_iff.mpr c8
        subst c8
        have H1 : (if x4_1.length < 5864062014805 then (qzk.l0 k1 (x4_1 ++ [t103]) l0 (l0.length : Int) (wrap64 (x13_1 + 1))) else (none)) = some (r1,r2) := by rw [if_neg (show ¬ (false = true) by decide)] at H;exact H
        clear H
        have H := H1
        clear H1
        by_cases c13 : x4_1.length < 5864062014805
        ·rw [if_pos c13] at H
         have LMc13 := qq.mk c13
         clear c13
         obtain ⟨y107,hy107⟩ : ∃ y_ : List (List Int),y_ = (x4_1 ++ [t103]) := ⟨_,rfl⟩
         replace H : (qzk.l0 k1 y107 l0 (l0.length : Int) (wrap64 (x13_1 + 1))) = some (r1,r2) := by first | (rw [hy107];with_reducible exact H) | (have H2_ := (Option.bind_some _ _).symm.trans H;rw [hy107];with_reducible exact H2_) | (have H2_ := (Option.bind_some _ _).symm.trans H;with_reducible exact H2_) | with_reducible exact H | (rw [hy107];exact H) | exact H
         have Ny107 := qq.mk hy107
         clear hy107
         have H' := qq.mk H
         clear H
         have p101 : 0 ≤ (x13_1 : Int) := of_decide_eq_true (by assumption)
         have q101 : x13_1 < (l0.length : Int) := of_decide_eq_true (by assumption)
         obtain ⟨ad101,A101_3,c101_3,A101_4,c101_4,e101,hx101_0,hx101_1,hx101_2,hx101_3,hx101_4,hl101_3,hi101_3,hl101_4,hi101_4⟩ := at_T27 HR0.out x13_1 p101 q101
         cases e101
         replace hx101_0 := (HB.out.cell (World.block_lt_of_cell? w _ hx101_0)).trans hx101_0
         replace hx101_1 := (HB.out.cell (World.block_lt_of_cell? w _ hx101_1)).trans hx101_1
         replace hx101_2 := (HB.out.cell (World.block_lt_of_cell? w _ hx101_2)).trans hx101_2
         replace hx101_3 := (HB.out.cell (World.block_lt_of_cell? w _ hx101_3)).trans hx101_3
         replace hx101_4 := (HB.out.cell (World.block_lt_of_cell? w _ hx101_4)).trans hx101_4
         have HR101_3 := qq.mk hi101_3
         have HC101_3 := qq.mk hl101_3
         clear hi101_3 hl101_3
         have HR101_4 := qq.mk hi101_4
         have HC101_4 := qq.mk hl101_4
         clear hi101_4 hl101_4
         replace p101 := eq_true p101
         replace q101 := eq_true q101
         go_wp2_with (first | ((with_reducible refine gate_dst (N := 6) rfl ?_);refine box_event ?hg (N := 6) ?hd (cs := #[.int .i64 0,.string (⟨#[]⟩ : ByteArray),.string (⟨#[]⟩ : ByteArray),.slice none 0 0,.slice none 0 0]) (t := 27) ?hr ?_;(case hd => rfl);(case hg => rfl);(case hr => first | (go_simp;done) | (go_simp;rfl));intro gb102 hg w14 hbox hb;have n0_ := qq.mk (Kd.S_below (by (with_reducible repeat (first | apply Kd.vv | apply Kd.vk | apply Kd.vw));exact HO_4.out) hb);have n1_ := qq.mk (zv (by repeat (first | (with_reducible first | exact HB.out | apply qj | apply qz | apply qk) | exact HB.out)) hb);have n2_ := qq.mk (hbox);have n3_ := qq.mk ((by rw [hg];exact (zw (by repeat (first | (with_reducible first | exact HB.out | apply qj | apply qz | apply qk) | exact HB.out))) : w.heap.size ≤ gb102));have n4_ := qq.mk ((by rw [hg];exact (zw (by repeat (first | (with_reducible first | exact HB.out | apply qj | apply qz | apply qk) | exact HB.out))) : w.heap.size ≤ gb102));clear HO_4;clear HB;have HO_4 := n0_;have HB := n1_;have BK102 := n2_;have GW102 := n3_;have GE102 := n4_;clear n0_ n1_ n2_ n3_ n4_;clear hb hbox hg;have hcz15_0 : w14.cell? ⟨gb102,0,none⟩ = some (.int .i64 0) := (qw BK102.out 0).trans rfl;have hcz15_1 : w14.cell? ⟨gb102,1,none⟩ = some (.string (⟨#[]⟩ : ByteArray)) := (qw BK102.out 1).trans rfl;have hcz15_2 : w14.cell? ⟨gb102,2,none⟩ = some (.string (⟨#[]⟩ : ByteArray)) := (qw BK102.out 2).trans rfl;have hcz15_3 : w14.cell? ⟨gb102,3,none⟩ = some (.slice none 0 0) := (qw BK102.out 3).trans rfl;have hcz15_4 : w14.cell? ⟨gb102,4,none⟩ = some (.slice none 0 0) := (qw BK102.out 4).trans rfl;have hfz15_0 := qv BK102.out 0;have hfz15_1 := qv BK102.out 1;have hfz15_2 := qv BK102.out 2;have hfz15_3 := qv BK102.out 3;have hfz15_4 := qv BK102.out 4) | ((with_reducible refine kj (f := 29) rfl ?_);refine goesL_ (some 18) rfl rfl Try.func29 (by kernel_rfl) rfl #[.agg #[.int .i64 ((wx l0 x13_1).f0),.string ((wx l0 x13_1).f1),.string ((wx l0 x13_1).f2),.slice A101_3 ((wx l0 x13_1).f3).length c101_3,.slice A101_4 ((wx l0 x13_1).f4).length c101_4]] rfl (by (try simp only [List.map_toArray,List.map_cons,List.map_nil]);first | done | rfl | (simp only [List.length_drop,List.length_take];rfl)) ?_;(with_reducible refine (qqj.callsN k1 ((wx l0 x13_1).f0) ((wx l0 x13_1).f1) ((wx l0 x13_1).f2) _ _ ((wx l0 x13_1).f3) _ _ ((wx l0 x13_1).f4) t103 _ ?side1 ?side2 ?side3 ?side4 A6.out).mono ?_);(case side1 => exact Kd.C_below HR101_3.out (by repeat (first | (with_reducible first | exact HB.out | apply qj | apply qz | apply qk | refine qx ?_ GE102.out) | exact HB.out)));(case side2 => exact HC101_3.out);(case side3 => exact Kd.C_below HR101_4.out (by repeat (first | (with_reducible first | exact HB.out | apply qj | apply qz | apply qk | refine qx ?_ GE102.out) | exact HB.out)));(case side4 => exact HC101_4.out);rintro e w16 ⟨v104,rfl,hn0,ho0,hb⟩;refine ⟨_,rfl,?_⟩;have n0_ := qq.mk (Kd.S_elder' (by (with_reducible repeat (first | apply Kd.vv | apply Kd.vk | apply Kd.vw));exact (Kd.S_mono (Kd.S_far (p := ⟨gb102,4,none⟩) (Kd.S_far (p := ⟨gb102,3,none⟩) (Kd.S_far (p := ⟨gb102,2,none⟩) (Kd.S_far (p := ⟨gb102,1,none⟩) (Kd.S_far (p := ⟨gb102,0,none⟩) (Kd.S_types HO_4.out BK102.out (by decide)) (fun _ hk => hk.2) (.int .i64 ((wx l0 x13_1).f0))) (fun _ hk => hk.2) (.string ((wx l0 x13_1).f1))) (fun _ hk => hk.2) (.string ((wx l0 x13_1).f2))) (fun _ hk => hk.2) (.slice A101_3 ((wx l0 x13_1).f3).length c101_3)) (fun _ hk => hk.2) (.slice A101_4 ((wx l0 x13_1).f4).length c101_4)) (fun _ h_ => h_.1))) (Kd.R_base ho0) hb);have n1_ := qq.mk (Kd.R_lower ho0 (zw (by repeat (first | (with_reducible first | exact HB.out | apply qj | apply qz | apply qk | refine qx ?_ GE102.out) | exact HB.out))));have n2_ := qq.mk (wj (g := gb102) (o := .cells #[.int .i64 ((wx l0 x13_1).f0),.string ((wx l0 x13_1).f1),.string ((wx l0 x13_1).f2),.slice A101_3 ((wx l0 x13_1).f3).length c101_3,.slice A101_4 ((wx l0 x13_1).f4).length c101_4] 27 (0,0)) (by (with_reducible repeat (first | refine zz ?_ _ | refine zj ?_ | refine zq ?_ _));refine blk_put (cs := #[.int .i64 ((wx l0 x13_1).f0),.string ((wx l0 x13_1).f1),.string ((wx l0 x13_1).f2),.slice A101_3 ((wx l0 x13_1).f3).length c101_3,.slice none 0 0]) ?_ 4 _ rfl;(with_reducible repeat (first | refine zz ?_ _ | refine zj ?_ | refine zq ?_ _));refine blk_put (cs := #[.int .i64 ((wx l0 x13_1).f0),.string ((wx l0 x13_1).f1),.string ((wx l0 x13_1).f2),.slice none 0 0,.slice none 0 0]) ?_ 3 _ rfl;(with_reducible repeat (first | refine zz ?_ _ | refine zj ?_ | refine zq ?_ _));refine blk_put (cs := #[.int .i64 ((wx l0 x13_1).f0),.string ((wx l0 x13_1).f1),.string (⟨#[]⟩ : ByteArray),.slice none 0 0,.slice none 0 0]) ?_ 2 _ rfl;(with_reducible repeat (first | refine zz ?_ _ | refine zj ?_ | refine zq ?_ _));refine blk_put (cs := #[.int .i64 ((wx l0 x13_1).f0),.string (⟨#[]⟩ : ByteArray),.string (⟨#[]⟩ : ByteArray),.slice none 0 0,.slice none 0 0]) ?_ 1 _ rfl;(with_reducible repeat (first | refine zz ?_ _ | refine zj ?_ | refine zq ?_ _));refine blk_put (cs := #[.int .i64 0,.string (⟨#[]⟩ : ByteArray),.string (⟨#[]⟩ : ByteArray),.slice none 0 0,.slice none 0 0]) ?_ 0 _ rfl;(with_reducible repeat (first | refine zz ?_ _ | refine zj ?_ | refine zq ?_ _));exact BK102.out) hb);have n3_ := qq.mk (zv (by repeat (first | (with_reducible first | exact HB.out | apply qj | apply qz | apply qk | refine qx ?_ GE102.out) | exact HB.out)) hb);clear HO_4;clear BK102;clear HB;have HO_4 := n0_;have HO105 := n1_;have BK102 := n2_;have HB := n3_;clear n0_ n1_ n2_ n3_;(try clear hb);(try clear hb2);(try clear hk);(try clear hi);(try clear ho0);obtain ⟨Ao17,co17,eo17⟩ := Kd.R_slice HO105.out;subst eo17;have hAAo17 := nil_isnt HO105.out A7.out;clear hn0) | ((with_reducible refine kj (f := 158) rfl ?_);refine goesL_ (some 20) rfl rfl Try.func158 (by kernel_rfl) rfl #[.slice Ao17 t103.length co17] rfl (by (try simp only [List.map_toArray,List.map_cons,List.map_nil]);first | done | rfl | (simp only [List.length_drop,List.length_take];rfl)) ?_;(with_reducible refine (nilS.calls _ _ t103 false _ ?side1 ?side2 A7.out).mono ?_);(case side1 => repeat (first | exact (Kd.R_reads' HO105.out).2.2 | (with_reducible refine Kd.C_alloc ?_ _) | (with_reducible refine Kd.C_drewN ?_ _) | (with_reducible refine Kd.C_drew ?_)));(case side2 => exact (Kd.R_reads' HO105.out).2.1);rintro e w' ⟨rfl,⟨nd,rfl⟩⟩;refine ⟨_,rfl,?_⟩) | ((with_reducible refine gate_builtin (b := .append) (xs := #[.tmp 21,.tmp 23]) rfl ?_);at_builtin;refine Kd.S_append (Kd.slice 5 (Kd.int .u8)) (w0 := w) w.heap.size rfl (.tmp 21) (.tmp 23) 44 22 (.slice none 0 0) 24 rfl Try.underlying44 info22 rfl (by decide) (by omega) u4 x4_1 t103 [.slice Ao17 t103.length co17] (fun _ => True) (fun k_ => some k_ = (.slice Ao17 t103.length co17 : Value).ownBlock) rfl rfl ?aP (fun k_ hk_ => ((Kd.R_mono (ok' := fun k_ => ((fun _ => True)) k_ ∧ some k_ ≠ (u4 : Value).ownBlock) (Kd.R_apart' (HO105.out) (Kd.S_typed HO_4.out) (by decide)) (fun k_ hk => ⟨trivial,hk.2⟩))).1 k_ hk_.symm) ?aF ?aO ?aB ?aS ?aL ?_;(case aP => exact Kd.M_row (Kd.R_mono (Kd.R_tight rfl (Kd.R_mono (ok' := fun k_ => ((fun _ => True)) k_ ∧ some k_ ≠ (u4 : Value).ownBlock) (Kd.R_apart' (HO105.out) (Kd.S_typed HO_4.out) (by decide)) (fun k_ hk => ⟨trivial,hk.2⟩))) (fun _ h_ => h_)));(case aB => exact (by repeat (first | (with_reducible first | exact HB.out | apply qj | apply qz | apply qk | refine qx ?_ GE102.out) | exact HB.out)));(case aF => exact (fun _ _ => trivial));(case aO => exact (by (with_reducible repeat (first | apply Kd.vv | apply Kd.vk | apply Kd.vw));exact Kd.S_mono HO_4.out (fun k_ hk => ⟨trivial,fun e_ => hk.2 e_⟩)));(case aS => exact (zw (by repeat (first | (with_reducible first | exact HB.out | apply qj | apply qz | apply qk | refine qx ?_ GE102.out) | exact HB.out))));(case aL => have := LMc13.out;omega);intro v108 w18 ho hb hg hat;rw [← Ny107.out] at ho;have n0_ := qq.mk (blk_grown (g := gb102) (o := .cells #[.int .i64 ((wx l0 x13_1).f0),.string ((wx l0 x13_1).f1),.string ((wx l0 x13_1).f2),.slice A101_3 ((wx l0 x13_1).f3).length c101_3,.slice A101_4 ((wx l0 x13_1).f4).length c101_4] 27 (0,0)) (by (with_reducible repeat (first | refine zz ?_ _ | refine zj ?_ | refine zq ?_ _));exact BK102.out) hg (Kd.S_ne HO_4.out BK102.out (by decide)));have n1_ := qq.mk (hb);have n2_ := qq.mk (ho);clear BK102;clear HB;clear HO_4;clear HO105;have BK102 := n0_;have HB := n1_;have HO109 := n2_;clear n0_ n1_ n2_;clear ho hb hg hat))
         go_roundg k1
         case measure => have := HK1.out;omega
         case rel => exact ⟨(y107),(wrap64 (x13_1 + 1)),(by first | rfl | (simp;done) | (simp [*];done)),H',⟨by have := HK1.out;omega⟩,⟨by (with_reducible repeat (first | apply Kd.vv | apply Kd.vk | apply Kd.vw));exact HO109.out⟩,⟨by repeat (first | (with_reducible first | exact HB.out | apply qj | apply qz | apply qk | refine qx ?_ GE102.out) | exact HB.out)⟩⟩
        ·rw [if_neg c13] at H
         exact absurd H (by simp)
      ·rw [if_neg c5] at H
       exact absurd H (by simp)
     ·rw [if_neg c4] at H
      exact absurd H (by simp)
    ·rw [if_neg c3] at H
     have c3b0 : decide (x13_1 < (l0.length : Int)) = false := decide_eq_false c3
     clear c3
     simp only [Option.some.injEq,Prod.mk.injEq] at H
     obtain ⟨rfl,rfl⟩ := H
     go_wp2
     go_ret2
     exact ⟨_,by first | rfl | (simp [*,kz,jx] <;> rfl),by (with_reducible repeat (first | apply Kd.vv | apply Kd.vk | apply Kd.vw));exact HO_4.out,by repeat (first | (with_reducible first | exact HB.out | apply qj | apply qz | apply qk) | exact HB.out)⟩
def qzx.f : Nat → List (List Int) → Option (List Int)
 | 0,_ => none
 | k + 1,l0 => if (l0.length : Int) = 0 then ((qqq.f ([] : List Int)).bind fun t101 => (some t101)) else (if (l0.length : Int) = 1 then (if 0 < (l0.length : Int) then ((xq.f (rd_L2 l0 0)).bind fun t105 => (some t105)) else (none)) else ((qzj.f k (l0.length : Int)).bind fun t108 => (if 0 ≤ t108 then (if t108 ≤ (l0.length : Int) then ((qzx.f k (l0.take (t108 : Int).toNat)).bind fun t113 => ((qzx.f k (l0.drop (t108 : Int).toNat)).bind fun t120 => ((qzq.f t113 t120).bind fun t123 => (some t123)))) else (none)) else (none))))
def qzx.T7 : Bool × List (List Nat × List Nat) := (true,[([],[]),([],[]),([0,1],[0,1]),([2],[2]),([],[]),([],[]),([4,5],[4,5]),([6,3],[6]),([3,7,7],[3,7]),([8,8,0,1,2,3,4,5,6,7,8],[8])])
def qzx.B7 : List Nat := [0,0,3,7,0,0,48,127,255,511]
theorem qzx.tab7 : rtab .any (opsOf Try.f83 7) = qzx.T7 := by kernel_rfl
theorem qzx.bits7 : waitsOk qzx.T7.2 qzx.B7 = true := by kernel_rfl
set_option maxHeartbeats 8000000 in
set_option maxRecDepth 100000 in
theorem qzx.calls (k : Nat) : ∀ (A0 : Option Addr) (c0 : Nat) (l0 : List (List Int)) (r : List Int) (w : World) (hr0 : Kd.C (Kd.slice 5 (Kd.int .u8)) w A0 l0.length l0) (hc0 : l0.length ≤ c0) (h : qzx.f k l0 = some r),
  Calls Try.prog 83 #[.slice A0 l0.length c0] w fun e w' => ∃ v0_ : Value,e = .returned (v0_) ∧ Kd.R (Kd.int .u8) 5 w' w.heap.size (fun _ => True) v0_ r ∧ Below w.heap.size w w' := by
 induction k using Nat.strongRecOn with
 | _ k ih =>
 intro A0 c0 l0 r w hr0 hc0 h
 cases k with
 | zero => exact absurd h (by simp [qzx.f])
 | succ k =>
 simp only [qzx.f] at h
 have HR0 := qq.mk hr0
 have HC0 := qq.mk hc0
 clear hr0 hc0
 have HB := qq.mk (Below.refl w.heap.size w)
 have H : (if (l0.length : Int) = 0 then ((qqq.f ([] : List Int)).bind fun t101 => (some t101)) else (if (l0.length : Int) = 1 then (if 0 < (l0.length : Int) then ((xq.f (rd_L2 l0 0)).bind fun t105 => (some t105)) else (none)) else ((qzj.f k (l0.length : Int)).bind fun t108 => (if 0 ≤ t108 then (if t108 ≤ (l0.length : Int) then ((qzx.f k (l0.take (t108 : Int).toNat)).bind fun t113 => ((qzx.f k (l0.drop (t108 : Int).toNat)).bind fun t120 => ((qzq.f t113 t120).bind fun t123 => (some t123)))) else (none)) else (none))))) = some r := h
 clear h
 by_cases c2 : (l0.length : Int) = 0
 ·rw [if_pos c2] at H
  have c2b0 : ((l0.length : Int) == 0) = true := beq_iff_eq.mpr c2
  have c2b1 : ((l0.length : Int) != 0) = false := bne_eq_false_iff_eq.mpr c2
  clear c2
  replace H := Option.bind_eq_some_iff.mp H
  obtain ⟨t101,A30,H⟩ := H
  replace H : (some t101) = some r := H
  have A3 := qq.mk A30
  clear A30
  obtain rfl := Option.some.inj H
  go_enter Try.func83,Try.ntmps83
  go_wp2_with (first | ((with_reducible refine kj (f := 77) rfl ?_);refine goesL_ (some 8) rfl rfl Try.func77 (by kernel_rfl) rfl #[.slice none 0 0] rfl (by (try simp only [List.map_toArray,List.map_cons,List.map_nil]);first | done | rfl | (simp only [List.length_drop,List.length_take];rfl)) ?_;(refine (qqq.calls _ _ ([] : List Int) t101 _ ?side1 ?side2 A3.out).mono ?_);(case side1 => exact Kd.C_nil _ _);(case side2 => exact Nat.le_refl _);rintro e w4 ⟨v102,rfl,ho0,hb⟩;refine ⟨_,rfl,?_⟩;have n0_ := qq.mk (Kd.R_lower ho0 (zw (by repeat (first | (with_reducible first | exact HB.out | apply qj | apply qz | apply qk) | exact HB.out))));have n1_ := qq.mk (zv (by repeat (first | (with_reducible first | exact HB.out | apply qj | apply qz | apply qk) | exact HB.out)) hb);clear HB;have HO103 := n0_;have HB := n1_;clear n0_ n1_;(try clear hb);(try clear hb2);(try clear hk);(try clear hi);(try clear ho0)))
  go_ret
  exact ⟨_,by first | rfl | (simp [*,kz,jx] <;> rfl),by (with_reducible repeat (first | apply Kd.jq | apply Kd.zx | apply Kd.jz));exact HO103.out,by repeat (first | (with_reducible first | exact HB.out | apply qj | apply qz | apply qk) | exact HB.out)⟩
 ·rw [if_neg c2] at H
  have c2b0 : ((l0.length : Int) == 0) = false := beq_eq_false_iff_ne.mpr c2
  have c2b1 : ((l0.length : Int) != 0) = true := bne_iff_ne.mpr c2
  have c2b2 : ¬ (l0 = []) := fun h_ => c2 (by rw [h_];rfl)
  by_cases c5 : (l0.length : Int) = 1
  ·rw [if_pos c5] at H
   have c5b0 : ((l0.length : Int) == 1) = true := beq_iff_eq.mpr c5
   have c5b1 : ((l0.length : Int) != 1) = false := bne_eq_false_iff_eq.mpr c5
   clear c5
   by_cases c6 : 0 < (l0.length : Int)
   ·rw [if_pos c6] at H
    have c6b0 : decide (0 < (l0.length : Int)) = true := decide_eq_true c6
    have c6b1 : decide (0 < l0.length) = true := decide_eq_true (by omega)
    clear c6
    replace H := Option.bind_eq_some_iff.mp H
    obtain ⟨t105,A70,H⟩ := H
    replace H : (some t105) = some r := H
    have A7 := qq.mk A70
    clear A70
    obtain rfl := Option.some.inj H
    have p104 : 0 ≤ (0 : Int) := (by omega)
    have q104 : 0 < (l0.length : Int) := of_decide_eq_true (by assumption)
    obtain ⟨ad104,A104_0,c104_0,e104,hx104_0,hl104_0,hi104_0⟩ := at_L2 HR0.out 0 p104 q104
    cases e104
    have qi104 : (0 < l0.length) = True := eq_true (by omega)
    (try rw [show ((0 : Int)).toNat = 0 from rfl] at hx104_0)
    (try rw [Addr.add_zero'] at hx104_0)
    have HR104_0 := qq.mk hi104_0
    have HC104_0 := qq.mk hl104_0
    clear hi104_0 hl104_0
    replace p104 := eq_true p104
    replace q104 := eq_true q104
    go_enter Try.func83,Try.ntmps83
    go_wp2_with (first | ((with_reducible refine kj (f := 74) rfl ?_);refine goesL_ (some 14) rfl rfl Try.func74 (by kernel_rfl) rfl #[.slice A104_0 (rd_L2 l0 0).length c104_0] rfl (by (try simp only [List.map_toArray,List.map_cons,List.map_nil]);first | done | rfl | (simp only [List.length_drop,List.length_take];rfl)) ?_;(with_reducible refine (xq.calls _ _ (rd_L2 l0 0) t105 _ ?side1 ?side2 A7.out).mono ?_);(case side1 => repeat (first | exact HR104_0.out | (with_reducible refine Kd.C_alloc ?_ _) | (with_reducible refine Kd.C_drewN ?_ _) | (with_reducible refine Kd.C_drew ?_)));(case side2 => exact HC104_0.out);rintro e w8 ⟨v106,rfl,ho0,hb⟩;refine ⟨_,rfl,?_⟩;have n0_ := qq.mk (Kd.R_lower ho0 (zw (by repeat (first | (with_reducible first | exact HB.out | apply qj | apply qz | apply qk) | exact HB.out))));have n1_ := qq.mk (zv (by repeat (first | (with_reducible first | exact HB.out | apply qj | apply qz | apply qk) | exact HB.out)) hb);clear HB;have HO107 := n0_;have HB := n1_;clear n0_ n1_;(try clear hb);(try clear hb2);(try clear hk);(try clear hi);(try clear ho0)))
    go_ret
    exact ⟨_,by first | rfl | (simp [*,kz,jx] <;> rfl),by (with_reducible repeat (first | apply Kd.jq | apply Kd.zx | apply Kd.jz));exact HO107.out,by repeat (first | (with_reducible first | exact HB.out | apply qj | apply qz | apply qk) | exact HB.out)⟩
   ·rw [if_neg c6] at H
    exact absurd H (by simp)
  ·rw [if_neg c5] at H
   have c5b0 : ((l0.length : Int) == 1) = false := beq_eq_false_iff_ne.mpr c5
   have c5b1 : ((l0.length : Int) != 1) = true := bne_iff_ne.mpr c5
   replace H := Option.bind_eq_some_iff.mp H
   obtain ⟨t108,A90,H⟩ := H
   replace H : (if 0 ≤ t108 then (if t108 ≤ (l0.length : Int) then ((qzx.f k (l0.take (t108 : Int).toNat)).bind fun t113 => ((qzx.f k (l0.drop (t108 : Int).toNat)).bind fun t120 => ((qzq.f t113 t120).bind fun t123 => (some t123)))) else (none)) else (none)) = some r := H
   have A9 := qq.mk A90
   clear A90
   by_cases c10 : 0 ≤ t108
   ·rw [if_pos c10] at H
    have c10b0 := eq_true c10
    have c10b1 : decide (0 ≤ t108) = true := decide_eq_true c10
    clear c10
    by_cases c11 : t108 ≤ (l0.length : Int)
    ·rw [if_pos c11] at H
     have c11b0 := eq_true c11
     have c11b1 : decide (t108 ≤ (l0.length : Int)) = true := decide_eq_true c11
     clear c11
     obtain ⟨y109,hy109⟩ : ∃ y_ : List (List Int),y_ = (l0.take (t108 : Int).toNat) := ⟨_,rfl⟩
     replace H : ((qzx.f k y109).bind fun t113 => ((qzx.f k (l0.drop (t108 : Int).toNat)).bind fun t120 => ((qzq.f t113 t120).bind fun t123 => (some t123)))) = some r := by first | (rw [hy109];with_reducible exact H) | (have H2_ := (Option.bind_some _ _).symm.trans H;rw [hy109];with_reducible exact H2_) | (have H2_ := (Option.bind_some _ _).symm.trans H;with_reducible exact H2_) | with_reducible exact H | (rw [hy109];exact H) | exact H
     have Ny109 := qq.mk hy109
     clear hy109
     replace H := Option.bind_eq_some_iff.mp H
     obtain ⟨t113,A120,H⟩ := H
     replace H : ((qzx.f k (l0.drop (t108 : Int).toNat)).bind fun t120 => ((qzq.f t113 t120).bind fun t123 => (some t123))) = some r := H
     have A12 := qq.mk A120
     clear A120
     have c13b0 := eq_true (of_decide_eq_true (by assumption) : 0 ≤ t108)
     have c14b0 := eq_true (of_decide_eq_true (by assumption) : t108 ≤ (l0.length : Int))
     obtain ⟨y116,hy116⟩ : ∃ y_ : List (List Int),y_ = (l0.drop (t108 : Int).toNat) := ⟨_,rfl⟩
     replace H : ((qzx.f k y116).bind fun t120 => ((qzq.f t113 t120).bind fun t123 => (some t123))) = some r := by first | (rw [hy116];with_reducible exact H) | (have H2_ := (Option.bind_some _ _).symm.trans H;rw [hy116];with_reducible exact H2_) | (have H2_ := (Option.bind_some _ _).symm.trans H;with_reducible exact H2_) | with_reducible exact H | (rw [hy116];exact H) | exact H
     have Ny116 := qq.mk hy116
     clear hy116
     replace H := Option.bind_eq_some_iff.mp H
     obtain ⟨t120,A150,H⟩ := H
     replace H : ((qzq.f t113 t120).bind fun t123 => (some t123)) = some r := H
     have A15 := qq.mk A150
     clear A150
     replace H := Option.bind_eq_some_iff.mp H
     obtain ⟨t123,A160,H⟩ := H
     replace H : (some t123) = some r := H
     have A16 := qq.mk A160
     clear A160
     obtain rfl := Option.some.inj H
     go_enter Try.func83,Try.ntmps83
     try go_wp2_with (first | ((with_reducible refine kj (f := 121) rfl ?_);refine goesL_ (some 17) rfl rfl Try.func121 (by kernel_rfl) rfl #[.int .i64 (l0.length : Int)] rfl (by (try simp only [List.map_toArray,List.map_cons,List.map_nil]);first | done | rfl | (simp only [List.length_drop,List.length_take];rfl)) ?_;(with_reducible refine (qzj.calls k (l0.length : Int) t108 _ A9.out).mono ?_);rintro e w' ⟨rfl,⟨nd,rfl⟩⟩;refine ⟨_,rfl,?_⟩))
     have n0_ := qq.mk (qk (qz HB.out nd))
     clear HB
     have HB := n0_
     clear n0_
     have q18 : (t108 : Int) ≤ ((l0.length : Int) : Int) := of_decide_eq_true (by assumption)
     obtain ⟨i018,hi018,_,hsz18,_⟩ := info_parts info22
     have hroom18 : l0.length ≤ c0 := HC0.out
     have hC18 : Kd.C (Kd.slice 5 (Kd.int .u8)) _ A0 l0.length l0 := HR0.out
     have hcut18 := cut_to (P := Try.prog) 44 22 .i64 Try.underlying44 hi018 A0 l0.length c0 t108 (of_decide_eq_true (by assumption)) q18 hroom18
     have hr18 := Kd.C_take (m := (t108 : Int).toNat) hC18 (by omega)
     have hy18 : y109.length = (t108 : Int).toNat := (by rw [Ny109.out,List.length_take];omega)
     rw [← Ny109.out] at hr18
     rw [← hy18] at hcut18
     have HR112 := qq.mk hr18
     have HC112 := qq.mk (show y109.length ≤ c0 from by omega)
     clear hr18 hC18 hroom18 hi018 hsz18
     have KY18 := qq.mk hy18
     clear hy18
     replace q18 := eq_true q18
     have q19 : (t108 : Int) ≤ ((l0.length : Int) : Int) := of_decide_eq_true (by assumption)
     obtain ⟨i019,hi019,_,hsz19,_⟩ := info_parts info22
     have hroom19 : l0.length ≤ c0 := HC0.out
     have hC19 : Kd.C (Kd.slice 5 (Kd.int .u8)) _ A0 l0.length l0 := HR0.out
     have q019 : (0 : Int) ≤ (t108 : Int) := of_decide_eq_true (by assumption)
     have hcut19 := cut_from (P := Try.prog) 44 22 .i64 Try.underlying44 hi019 1 hsz19 A0 l0.length c0 t108 q019 q19
     have hr19 := Kd.C_drop (m := (t108 : Int).toNat) (c := c0) hC19 (by omega) hroom19
     obtain ⟨A19,hA19⟩ : ∃ A1,A1 = (if c0 = (t108 : Int).toNat then A0 else (A0 : Option Addr).map (·.add ((t108 : Int).toNat * 1))) := ⟨_,rfl⟩
     obtain ⟨c19,hc19⟩ : ∃ c1,c1 = c0 - (t108 : Int).toNat := ⟨_,rfl⟩
     have hy19 : y116.length = l0.length - (t108 : Int).toNat := (by rw [Ny116.out,List.length_drop] <;> omega)
     rw [show (l0).drop (t108 : Int).toNat = y116 from Ny116.out.symm] at hr19
     replace hr19 : Kd.C (Kd.slice 5 (Kd.int .u8)) _ A19 y116.length y116 := (by rw [hA19];exact hr19)
     rw [← hy19,← hA19,← hc19] at hcut19
     have HR119 := qq.mk hr19
     have HC119 := qq.mk (show y116.length ≤ c19 from by rw [hy19,hc19];exact Nat.sub_le_sub_right hroom19 _)
     clear hr19 hC19 hroom19 hi019 hsz19 hc19
     have KY19 := qq.mk hy19
     have KA19 := qq.mk hA19
     clear hy19 hA19
     replace q19 := eq_true q19
     refine start_ (n := 10) (S := fun w' => True) (ds := []) #[false,false,false,false,false,false,false,false,false,false] (by kernel_rfl) rfl rfl trivial (fun hHeld => ?_);refine with_tabW qzx.tab7 qzx.bits7 (fun HT_ HW_ => ?_)
     generalize (w.drewN nd).drew = w17 at HB HR112 HR119 hHeld ⊢
     refine pure_ (i := 0) (N := some 18) (v := ?_) (a' := ?_) #[true,false,false,false,false,false,false,false,false,false] rfl rfl (any_of HT_.out (by kernel_rfl)) (fun _ _ _ h => h) (Or.inl ⟨by rfl,?_⟩) ?_ ?_
     rotate_left
     ·intro w'
      go_simp
      with_reducible rfl
     rotate_left
     ·simp only [Act.put,List.setIfInBounds_toArray,List.set_cons_zero,List.set_cons_succ,i64_w,i32_w]
      rfl
     refine pure_ (i := 1) (N := some 19) (v := ?_) (a' := ?_) #[true,true,false,false,false,false,false,false,false,false] rfl rfl (any_of HT_.out (by kernel_rfl)) (fun _ _ _ h => h) (Or.inl ⟨by rfl,?_⟩) ?_ ?_
     rotate_left
     ·intro w'
      go_simp
      with_reducible rfl
     rotate_left
     ·simp only [Act.put,List.setIfInBounds_toArray,List.set_cons_zero,List.set_cons_succ,i64_w,i32_w]
      rfl
     refine pure_ (i := 2) (N := some 20) (v := ?_) (a' := ?_) #[true,true,true,false,false,false,false,false,false,false] rfl rfl (any_of HT_.out (by kernel_rfl)) (fun _ _ _ h => h) (Or.inl ⟨by rfl,?_⟩) ?_ ?_
     rotate_left
     ·intro w'
      go_simp
      with_reducible rfl
     rotate_left
     ·simp only [Act.put,List.setIfInBounds_toArray,List.set_cons_zero,List.set_cons_succ,i64_w,i32_w]
      rfl
     refine pure_ (i := 4) (N := some 22) (v := ?_) (a' := ?_) #[true,true,true,false,true,false,false,false,false,false] rfl rfl (any_of HT_.out (by kernel_rfl)) (fun _ _ _ h => h) (Or.inl ⟨by rfl,?_⟩) ?_ ?_
     rotate_left
     ·intro w'
      go_simp
      with_reducible rfl
     rotate_left
     ·simp only [Act.put,List.setIfInBounds_toArray,List.set_cons_zero,List.set_cons_succ,i64_w,i32_w]
      rfl
     refine pure_ (i := 5) (N := some 23) (v := ?_) (a' := ?_) #[true,true,true,false,true,true,false,false,false,false] rfl rfl (any_of HT_.out (by kernel_rfl)) (fun _ _ _ h => h) (Or.inl ⟨by rfl,?_⟩) ?_ ?_
     rotate_left
     ·intro w'
      go_simp
      with_reducible rfl
     rotate_left
     ·simp only [Act.put,List.setIfInBounds_toArray,List.set_cons_zero,List.set_cons_succ,i64_w,i32_w]
      rfl
     refine pure_ (i := 6) (N := some 24) (v := ?_) (a' := ?_) #[true,true,true,false,true,true,true,false,false,false] rfl rfl (any_of HT_.out (by kernel_rfl)) (fun _ _ _ h => h) (Or.inl ⟨by rfl,?_⟩) ?_ ?_
     rotate_left
     ·intro w'
      go_simp
      with_reducible rfl
     rotate_left
     ·simp only [Act.put,List.setIfInBounds_toArray,List.set_cons_zero,List.set_cons_succ,i64_w,i32_w]
      rfl
     refine one_ (i := 3) (N := some 21) #[true,true,true,true,true,true,true,false,false,false] rfl rfl (one_of HT_.out (by kernel_rfl)) (by decide) (fun K hK => ?_)
     refine goes_ Try.func83 (by kernel_rfl) rfl #[.slice A0 y109.length c0] (by rfl) rfl rfl (by (try simp only [List.map_toArray,List.map_cons,List.map_nil]);first | done | rfl | (simp only [List.length_drop,List.length_take];rfl)) ?_
     with_reducible refine (ih k (by omega) _ _ y109 t113 _ ?side1 ?side2 A12.out).mono ?_
     (case side1 => repeat (first | exact (Kd.C_below HR112.out HB.out) | (with_reducible refine Kd.C_alloc ?_ _) | (with_reducible refine Kd.C_drewN ?_ _) | (with_reducible refine Kd.C_drew ?_)))
     (case side2 => exact HC112.out)
     rintro e w20 ⟨v114,rfl,ho0,hb⟩
     refine ⟨_,rfl,?_⟩
     have n0_ := qq.mk (Kd.R_lower ho0 (zw (by repeat (first | (with_reducible first | exact HB.out | apply qj | apply qz | apply qk) | exact HB.out))))
     have n1_ := qq.mk (zv (by repeat (first | (with_reducible first | exact HB.out | apply qj | apply qz | apply qk) | exact HB.out)) hb)
     clear HB
     have HO115 := n0_
     have HB := n1_
     clear n0_ n1_
     (try clear hb)
     (try clear hb2)
     (try clear hk)
     (try clear hi)
     (try clear ho0)
     refine hK.out _ _ trivial (fun hHeld => ?_)
     clear hK K
     refine norm_ (a' := ?_) ?_ ?_
     rotate_left
     ·show Act.put _ (some 21) _ = _
      simp only [Act.put,List.setIfInBounds_toArray,List.set_cons_zero,List.set_cons_succ,i64_w,i32_w]
      rfl
     refine one_ (i := 7) (N := some 25) #[true,true,true,true,true,true,true,true,false,false] rfl rfl (one_of HT_.out (by kernel_rfl)) (by decide) (fun K hK => ?_)
     refine goes_ Try.func83 (by kernel_rfl) rfl #[.slice A19 y116.length c19] (by rfl) rfl rfl (by (try simp only [List.map_toArray,List.map_cons,List.map_nil]);first | done | rfl | (simp only [List.length_drop,List.length_take];rfl)) ?_
     with_reducible refine (ih k (by omega) _ _ y116 t120 _ ?side1 ?side2 A15.out).mono ?_
     (case side1 => repeat (first | exact (Kd.C_below HR119.out HB.out) | (with_reducible refine Kd.C_alloc ?_ _) | (with_reducible refine Kd.C_drewN ?_ _) | (with_reducible refine Kd.C_drew ?_)))
     (case side2 => exact HC119.out)
     rintro e w21 ⟨v121,rfl,ho0,hb⟩
     refine ⟨_,rfl,?_⟩
     have n0_ := qq.mk (Kd.R_elder' (by (with_reducible repeat (first | apply Kd.jq | apply Kd.zx | apply Kd.jz));exact HO115.out) (Kd.R_base ho0) hb)
     have n1_ := qq.mk (Kd.R_lower (Kd.R_new' ho0 (Kd.R_lt (by (with_reducible repeat (first | apply Kd.jq | apply Kd.zx | apply Kd.jz));exact HO115.out))) (zw (by repeat (first | (with_reducible first | exact HB.out | apply qj | apply qz | apply qk) | exact HB.out))))
     have n2_ := qq.mk (zv (by repeat (first | (with_reducible first | exact HB.out | apply qj | apply qz | apply qk) | exact HB.out)) hb)
     clear HO115
     clear HB
     have HO115 := n0_
     have HO122 := n1_
     have HB := n2_
     clear n0_ n1_ n2_
     (try clear hb)
     (try clear hb2)
     (try clear hk)
     (try clear hi)
     (try clear ho0)
     obtain ⟨Ao22,co22,eo22⟩ := Kd.R_slice HO115.out
     (first | subst eo22 | (injection eo22 with f1_ f2_ f3_;have f4_ := f1_.symm;have f5_ := f3_.symm;clear f1_ f2_ f3_;subst f4_;subst f5_))
     obtain ⟨Ao23,co23,eo23⟩ := Kd.R_slice HO122.out
     (first | subst eo23 | (injection eo23 with f1_ f2_ f3_;have f4_ := f1_.symm;have f5_ := f3_.symm;clear f1_ f2_ f3_;subst f4_;subst f5_))
     refine hK.out _ _ trivial (fun hHeld => ?_)
     clear hK K
     refine norm_ (a' := ?_) ?_ ?_
     rotate_left
     ·show Act.put _ (some 25) _ = _
      simp only [Act.put,List.setIfInBounds_toArray,List.set_cons_zero,List.set_cons_succ,i64_w,i32_w]
      rfl
     refine one_ (i := 8) (N := some 26) #[true,true,true,true,true,true,true,true,true,false] rfl rfl (one_of HT_.out (by kernel_rfl)) (by decide) (fun K hK => ?_)
     refine goes_ Try.func122 (by kernel_rfl) rfl #[.slice Ao22 t113.length co22,.slice Ao23 t120.length co23] (by rfl) rfl rfl (by (try simp only [List.map_toArray,List.map_cons,List.map_nil]);first | done | rfl | (simp only [List.length_drop,List.length_take];rfl)) ?_
     with_reducible refine (qzq.calls (fun k_ => some k_ = (.slice Ao22 t113.length co22 : Value).ownBlock) _ _ t113 (fun k_ => some k_ = (.slice Ao23 t120.length co23 : Value).ownBlock) _ _ t120 t123 _ ?side1 ?side2 A16.out).mono ?_
     (case side1 => exact Kd.R_V (Kd.R_tight rfl (HO115.out)))
     (case side2 => exact Kd.R_V (Kd.R_tight rfl (HO122.out)))
     rintro e w24 ⟨v124,rfl,ho0,hb⟩
     refine ⟨_,rfl,?_⟩
     have n0_ := qq.mk (Kd.R_elder' (by (with_reducible repeat (first | apply Kd.jq | apply Kd.zx | apply Kd.jz));exact HO115.out) (Kd.R_base ho0) hb)
     have n1_ := qq.mk (Kd.R_elder' (by (with_reducible repeat (first | apply Kd.jq | apply Kd.zx | apply Kd.jz));exact HO122.out) (Kd.R_base ho0) hb)
     have n2_ := qq.mk (Kd.R_lower (Kd.R_new' (Kd.R_new' (Kd.R_mono (ok' := fun k_ => True) ho0 (fun _ hk_ => trivial)) (Kd.R_lt (by (with_reducible repeat (first | apply Kd.jq | apply Kd.zx | apply Kd.jz));exact HO115.out))) (Kd.R_lt (by (with_reducible repeat (first | apply Kd.jq | apply Kd.zx | apply Kd.jz));exact HO122.out))) (zw (by repeat (first | (with_reducible first | exact HB.out | apply qj | apply qz | apply qk) | exact HB.out))))
     have n3_ := qq.mk (zv (by repeat (first | (with_reducible first | exact HB.out | apply qj | apply qz | apply qk) | exact HB.out)) hb)
     clear HO115
     clear HO122
     clear HB
     have HO115 := n0_
     have HO122 := n1_
     have HO125 := n2_
     have HB := n3_
     clear n0_ n1_ n2_ n3_
     (try clear hb)
     (try clear hb2)
     (try clear hk)
     (try clear hi)
     (try clear ho0)
     refine hK.out _ _ trivial (fun hHeld => ?_)
     clear hK K
     refine norm_ (a' := ?_) ?_ ?_
     rotate_left
     ·show Act.put _ (some 26) _ = _
      simp only [Act.put,List.setIfInBounds_toArray,List.set_cons_zero,List.set_cons_succ,i64_w,i32_w]
      rfl
     refine pure_ (i := 9) (N := some 2) (v := ?_) (a' := ?_) #[true,true,true,true,true,true,true,true,true,true] rfl rfl (any_of HT_.out (by kernel_rfl)) (fun _ _ _ h => h) (Or.inl ⟨by rfl,?_⟩) ?_ ?_
     rotate_left
     ·intro w'
      go_simp
      with_reducible rfl
     rotate_left
     ·simp only [Act.put,List.setIfInBounds_toArray,List.set_cons_zero,List.set_cons_succ,i64_w,i32_w]
      rfl
     refine done_ (done_of HT_.out (by kernel_rfl)) ?_
     try go_wp2
     go_ret
     exact ⟨_,by first | rfl | (simp [*,kz,jx] <;> rfl),by (with_reducible repeat (first | apply Kd.jq | apply Kd.zx | apply Kd.jz));exact Kd.R_mono HO125.out (fun _ hk => trivial),by repeat (first | (with_reducible first | exact HB.out | apply qj | apply qz | apply qk) | exact HB.out)⟩
    ·rw [if_neg c11] at H
     exact absurd H (by simp)
   ·rw [if_neg c10] at H
    exact absurd H (by simp)
open Go.RowKit Go.Proofs.YtipdkendfcopiaaW.PrintWords
theorem leaves_l0_pos (k : Nat) : ∀ (x : List (List Int)) (l0 : List S27) (n i : Int) (l : List (List Int)) (b : Bool),(∀ y ∈ x,0 < y.length) → qzk.l0 k x l0 n i = some (l,b) → ∀ y ∈ l,0 < y.length := by
 induction k with
 | zero => intro x l0 n i l b hx h;simp [qzk.l0] at h
 | succ k ih =>
  intro x l0 n i l b hx h
  simp only [qzk.l0] at h
  split at h
  case isFalse => 
   simp only [Option.some.injEq,Prod.mk.injEq] at h
   obtain ⟨rfl,rfl⟩ := h
   exact hx
  split at h
  case isFalse => cases h
  split at h
  case isFalse => cases h
  obtain ⟨t,ht,h⟩ := Option.bind_eq_some_iff.1 h
  obtain ⟨u,hu,h⟩ := Option.bind_eq_some_iff.1 h
  split at h
  ·simp only [Option.some.injEq,Prod.mk.injEq] at h
   obtain ⟨rfl,rfl⟩ := h
   intro y hy
   cases hy
  ·rename_i hne
   split at h
   case isFalse => cases h
   refine ih _ _ _ _ _ _ ?_ h
   intro y hy
   rcases List.mem_append.1 hy with hy | hy
   ·exact hx y hy
   ·obtain rfl := List.mem_singleton.1 hy
    exact nilS_false (by rw [hu,eq_false_of_ne_true hne])
theorem leaves_pos {k : Nat} {l0 : List S27} {l : List (List Int)} {b : Bool} (h : qzk.f k l0 = some (l,b)) : ∀ y ∈ l,0 < y.length := by
 simp only [qzk.f] at h
 split at h
 ·simp only [Option.some.injEq,Prod.mk.injEq] at h
  obtain ⟨rfl,rfl⟩ := h
  intro y hy
  cases hy
 ·refine leaves_l0_pos k _ _ _ _ _ _ ?_ h
  intro y hy
  cases hy
theorem yboth_pos {a b r : List Int} (h : qzq.f a b = some r) : 0 < r.length := by
 simp only [qzq.f] at h
 obtain ⟨t,ht,h⟩ := Option.bind_eq_some_iff.1 h
 obtain ⟨u,hu,h⟩ := Option.bind_eq_some_iff.1 h
 obtain rfl := Option.some.inj h
 exact digest_pos hu
theorem yroot_pos {k : Nat} {l : List (List Int)} {r : List Int} (hl : ∀ y ∈ l,0 < y.length) (h : qzx.f k l = some r) : 0 < r.length := by
 cases k with
 | zero => simp [qzx.f] at h
 | succ k =>
  simp only [qzx.f] at h
  split at h
  ·obtain ⟨u,hu,h⟩ := Option.bind_eq_some_iff.1 h
   obtain rfl := Option.some.inj h
   exact digest_pos hu
  split at h
  ·split at h
   case isFalse => cases h
   rename_i h1 h2
   obtain ⟨u,hu,h⟩ := Option.bind_eq_some_iff.1 h
   obtain rfl := Option.some.inj h
   simp only [xq.f] at hu
   split at hu
   case isFalse => cases hu
   obtain rfl := Option.some.inj hu
   refine hl _ ?_
   have h3 : 0 < l.length := by omega
   simp only [rd_L2,Int.toNat_zero,List.getD_eq_getElem?_getD,List.getElem?_eq_getElem h3,Option.getD_some]
   exact List.getElem_mem h3
  ·obtain ⟨u,hu,h⟩ := Option.bind_eq_some_iff.1 h
   split at h
   case isFalse => cases h
   split at h
   case isFalse => cases h
   obtain ⟨u1,hu1,h⟩ := Option.bind_eq_some_iff.1 h
   obtain ⟨u2,hu2,h⟩ := Option.bind_eq_some_iff.1 h
   obtain ⟨u3,hu3,h⟩ := Option.bind_eq_some_iff.1 h
   obtain rfl := Option.some.inj h
   exact yboth_pos hu3
theorem root_pos {k k2 : Nat} {l0 : List S27} {l : List (List Int)} {b : Bool} {r : List Int} (h1 : qzk.f k l0 = some (l,b)) (h2 : qzx.f k2 l = some r) : 0 < r.length := yroot_pos (leaves_pos h1) h2
def qqx.f (k : Nat) (l0 : List (S27)) : Option (List Int) := (qzk.f k l0).bind fun bt101 => (if bt101.2 = true then ((qzx.f k bt101.1).bind fun t105 => (some t105)) else (some ([] : List Int)))
set_option maxHeartbeats 8000000 in
set_option maxRecDepth 100000 in
theorem qqx.callsN (k : Nat) (A0 : Option Addr) (c0 : Nat) (l0 : List (S27)) (r : List Int) (w : World) (hr0 : Kd.C k27 w A0 l0.length l0) (hc0 : l0.length ≤ c0) (h : qqx.f k l0 = some r) :
  Calls Try.prog 36 #[.slice A0 l0.length c0] w fun e w' => ∃ v0_ : Value,e = .returned (v0_) ∧ (r.length = 0 → v0_ = .slice none 0 0) ∧ Kd.R (Kd.int .u8) 5 w' w.heap.size (fun _ => True) v0_ r ∧ Below w.heap.size w w' := by
 have HR0 := qq.mk hr0
 have HC0 := qq.mk hc0
 clear hr0 hc0
 have HB := qq.mk (Below.refl w.heap.size w)
 have H : ((qzk.f k l0).bind fun bt101 => (if bt101.2 = true then ((qzx.f k bt101.1).bind fun t105 => (some t105)) else (some ([] : List Int)))) = some r := h
 clear h
 replace H := Option.bind_eq_some_iff.mp H
 obtain ⟨⟨t101,t102⟩,A20,H⟩ := H
 replace H : (if t102 = true then ((qzx.f k t101).bind fun t105 => (some t105)) else (some ([] : List Int))) = some r := H
 have A2 := qq.mk A20
 clear A20
 by_cases c3 : t102 = true
 ·subst c3
  have H1 : ((qzx.f k t101).bind fun t105 => (some t105)) = some r := by rw [if_pos rfl] at H;exact H
  clear H
  have H := H1
  clear H1
  replace H := Option.bind_eq_some_iff.mp H
  obtain ⟨t105,A40,H⟩ := H
  replace H : (some t105) = some r := H
  have A4 := qq.mk A40
  clear A40
  obtain rfl := Option.some.inj H
  go_enter Try.func36,Try.ntmps36
  go_wp2_with (first | ((with_reducible refine kj (f := 82) rfl ?_);refine goesL_ (some 7) rfl rfl Try.func82 (by kernel_rfl) rfl #[.slice A0 l0.length c0] rfl (by (try simp only [List.map_toArray,List.map_cons,List.map_nil]);first | done | rfl | (simp only [List.length_drop,List.length_take];rfl)) ?_;(with_reducible refine (qzk.calls k _ _ l0 t101 true _ ?side1 ?side2 A2.out).mono ?_);(case side1 => repeat (first | exact HR0.out | (with_reducible refine Kd.C_alloc ?_ _) | (with_reducible refine Kd.C_drewN ?_ _) | (with_reducible refine Kd.C_drew ?_)));(case side2 => exact HC0.out);rintro e w5 ⟨v103,rfl,ho0,hb⟩;refine ⟨_,rfl,?_⟩;have n0_ := qq.mk (Kd.S_lower ho0 (zw (by repeat (first | (with_reducible first | exact HB.out | apply qj | apply qz | apply qk) | exact HB.out))));have n1_ := qq.mk (zv (by repeat (first | (with_reducible first | exact HB.out | apply qj | apply qz | apply qk) | exact HB.out)) hb);clear HB;have HO104 := n0_;have HB := n1_;clear n0_ n1_;(try clear hb);(try clear hb2);(try clear hk);(try clear hi);(try clear ho0);obtain ⟨Ao6,co6,eo6⟩ := Kd.S_slice HO104.out;subst eo6) | ((with_reducible refine kj (f := 83) rfl ?_);refine goesL_ (some 13) rfl rfl Try.func83 (by kernel_rfl) rfl #[.slice Ao6 t101.length co6] rfl (by (try simp only [List.map_toArray,List.map_cons,List.map_nil]);first | done | rfl | (simp only [List.length_drop,List.length_take];rfl)) ?_;(with_reducible refine (qzx.calls k _ _ t101 t105 _ ?side1 ?side2 A4.out).mono ?_);(case side1 => repeat (first | exact (Kd.S_reads' HO104.out).2.2 | (with_reducible refine Kd.C_alloc ?_ _) | (with_reducible refine Kd.C_drewN ?_ _) | (with_reducible refine Kd.C_drew ?_)));(case side2 => exact (Kd.S_reads' HO104.out).2.1);rintro e w7 ⟨v106,rfl,ho0,hb⟩;refine ⟨_,rfl,?_⟩;have n0_ := qq.mk (Kd.S_elder' (by (with_reducible repeat (first | apply Kd.vv | apply Kd.vk | apply Kd.vw));exact HO104.out) (Kd.R_base ho0) hb);have n1_ := qq.mk (Kd.R_lower ho0 (zw (by repeat (first | (with_reducible first | exact HB.out | apply qj | apply qz | apply qk) | exact HB.out))));have n2_ := qq.mk (zv (by repeat (first | (with_reducible first | exact HB.out | apply qj | apply qz | apply qk) | exact HB.out)) hb);clear HO104;clear HB;have HO104 := n0_;have HO107 := n1_;have HB := n2_;clear n0_ n1_ n2_;(try clear hb);(try clear hb2);(try clear hk);(try clear hi);(try clear ho0)))
  go_ret
  exact ⟨_,by first | rfl | (simp [*,kz,jx] <;> rfl),by first | exact fun _ => rfl | exact rfl | exact trivial | exact nil_absurd (root_pos (qq.out (by assumption)) (qq.out (by assumption))) | exact nil_absurd' (root_pos (qq.out (by assumption)) (qq.out (by assumption))),by (with_reducible repeat (first | apply Kd.jq | apply Kd.zx | apply Kd.jz));exact HO107.out,by repeat (first | (with_reducible first | exact HB.out | apply qj | apply qz | apply qk) | exact HB.out)⟩
 ·replace c3 := Bool.eq_false_iff.mpr c3
  subst c3
  have H1 : (some ([] : List Int)) = some r := by rw [if_neg (show ¬ (false = true) by decide)] at H;exact H
  clear H
  have H := H1
  clear H1
  obtain rfl := Option.some.inj H
  go_enter Try.func36,Try.ntmps36
  go_wp2_with (first | ((with_reducible refine kj (f := 82) rfl ?_);refine goesL_ (some 7) rfl rfl Try.func82 (by kernel_rfl) rfl #[.slice A0 l0.length c0] rfl (by (try simp only [List.map_toArray,List.map_cons,List.map_nil]);first | done | rfl | (simp only [List.length_drop,List.length_take];rfl)) ?_;(with_reducible refine (qzk.calls k _ _ l0 t101 false _ ?side1 ?side2 A2.out).mono ?_);(case side1 => repeat (first | exact HR0.out | (with_reducible refine Kd.C_alloc ?_ _) | (with_reducible refine Kd.C_drewN ?_ _) | (with_reducible refine Kd.C_drew ?_)));(case side2 => exact HC0.out);rintro e w8 ⟨v103,rfl,ho0,hb⟩;refine ⟨_,rfl,?_⟩;have n0_ := qq.mk (Kd.S_lower ho0 (zw (by repeat (first | (with_reducible first | exact HB.out | apply qj | apply qz | apply qk) | exact HB.out))));have n1_ := qq.mk (zv (by repeat (first | (with_reducible first | exact HB.out | apply qj | apply qz | apply qk) | exact HB.out)) hb);clear HB;have HO104 := n0_;have HB := n1_;clear n0_ n1_;(try clear hb);(try clear hb2);(try clear hk);(try clear hi);(try clear ho0)))
  go_ret
  exact ⟨_,by first | rfl | (simp [*,kz,jx] <;> rfl),by first | exact fun _ => rfl | exact rfl | exact trivial | exact nil_absurd (root_pos (qq.out (by assumption)) (qq.out (by assumption))) | exact nil_absurd' (root_pos (qq.out (by assumption)) (qq.out (by assumption))),by first | exact Kd.R_nil _ _ _ _ _ | exact Kd.N_nil _ _ _ _ _ | exact Kd.V_nil _ _ _ _ _ | exact Kd.Q_nil _ _ _ _ _ | exact Kd.S_nil _ _ _ _ _,by repeat (first | (with_reducible first | exact HB.out | apply qj | apply qz | apply qk) | exact HB.out)⟩
theorem qqx.calls (k : Nat) (A0 : Option Addr) (c0 : Nat) (l0 : List (S27)) (r : List Int) (w : World) (hr0 : Kd.C k27 w A0 l0.length l0) (hc0 : l0.length ≤ c0) (h : qqx.f k l0 = some r) :
  Calls Try.prog 36 #[.slice A0 l0.length c0] w fun e w' => ∃ v0_ : Value,e = .returned (v0_) ∧ Kd.R (Kd.int .u8) 5 w' w.heap.size (fun _ => True) v0_ r ∧ Below w.heap.size w w' :=
 (qqx.callsN k A0 c0 l0 r w hr0 hc0 h).mono fun e_ w_ ⟨v_,h1_,_,h2_,h3_⟩ => ⟨v_,h1_,h2_,h3_⟩
def qzv.f : Nat → List (List Int) → Int → Option ((List (List Int)))
 | 0,_,_ => none
 | k + 1,l0,a1 => if (l0.length : Int) = 1 then (some ([] : List (List Int))) else ((qzj.f k (l0.length : Int)).bind fun t101 => (if a1 < t101 then (if 0 ≤ t101 then (if t101 ≤ (l0.length : Int) then ((qzv.f k (l0.take (t101 : Int).toNat) a1).bind fun t106 => ((qzx.f k (l0.drop (t101 : Int).toNat)).bind fun t113 => (if t106.length < 5864062014805 then (some (t106 ++ [t113])) else (none)))) else (none)) else (none)) else (if 0 ≤ t101 then (if t101 ≤ (l0.length : Int) then ((qzv.f k (l0.drop (t101 : Int).toNat) (wrap64 (a1 - t101))).bind fun t123 => ((qzx.f k (l0.take (t101 : Int).toNat)).bind fun t130 => (if t123.length < 5864062014805 then (some (t123 ++ [t130])) else (none)))) else (none)) else (none))))
def qzv.T5 : Bool × List (List Nat × List Nat) := (true,[([],[]),([],[]),([0,1],[0,1]),([],[]),([2,3],[2,3]),([],[]),([],[]),([5,6],[5,6]),([7,4],[7]),([8],[8]),([4,9,8],[4,9]),([10,10,0,1,2,3,4,5,6,7,8,9,10],[10])])
def qzv.B5 : List Nat := [0,0,3,0,15,0,0,96,255,511,1023,2047]
theorem qzv.tab5 : rtab .any (opsOf Try.f87 5) = qzv.T5 := by kernel_rfl
theorem qzv.bits5 : waitsOk qzv.T5.2 qzv.B5 = true := by kernel_rfl
def qzv.T6 : Bool × List (List Nat × List Nat) := (true,[([],[]),([],[]),([0,1],[0,1]),([],[]),([],[]),([3,4],[3,4]),([2,5],[2,5]),([],[]),([],[]),([7,8],[7,8]),([9,6],[9]),([10],[10]),([6,11,10],[6,11]),([12,12,0,1,2,3,4,5,6,7,8,9,10,11,12],[12])])
def qzv.B6 : List Nat := [0,0,3,0,0,24,63,0,0,384,1023,2047,4095,8191]
theorem qzv.tab6 : rtab .any (opsOf Try.f87 6) = qzv.T6 := by kernel_rfl
theorem qzv.bits6 : waitsOk qzv.T6.2 qzv.B6 = true := by kernel_rfl
set_option maxHeartbeats 8000000 in
set_option maxRecDepth 100000 in
theorem qzv.calls (k : Nat) : ∀ (A0 : Option Addr) (c0 : Nat) (l0 : List (List Int)) (a1 : Int) (r : List (List Int)) (w : World) (hr0 : Kd.C (Kd.slice 5 (Kd.int .u8)) w A0 l0.length l0) (hc0 : l0.length ≤ c0) (h : qzv.f k l0 a1 = some r),
  Calls Try.prog 87 #[.slice A0 l0.length c0,.int .i64 a1] w fun e w' => ∃ v0_ : Value,e = .returned (v0_) ∧ Kd.S (Kd.slice 5 (Kd.int .u8)) 22 w' w.heap.size (fun _ => True) v0_ r ∧ Below w.heap.size w w' := by
 induction k using Nat.strongRecOn with
 | _ k ih =>
 intro A0 c0 l0 a1 r w hr0 hc0 h
 cases k with
 | zero => exact absurd h (by simp [qzv.f])
 | succ k =>
 simp only [qzv.f] at h
 have HR0 := qq.mk hr0
 have HC0 := qq.mk hc0
 clear hr0 hc0
 have HB := qq.mk (Below.refl w.heap.size w)
 have H : (if (l0.length : Int) = 1 then (some ([] : List (List Int))) else ((qzj.f k (l0.length : Int)).bind fun t101 => (if a1 < t101 then (if 0 ≤ t101 then (if t101 ≤ (l0.length : Int) then ((qzv.f k (l0.take (t101 : Int).toNat) a1).bind fun t106 => ((qzx.f k (l0.drop (t101 : Int).toNat)).bind fun t113 => (if t106.length < 5864062014805 then (some (t106 ++ [t113])) else (none)))) else (none)) else (none)) else (if 0 ≤ t101 then (if t101 ≤ (l0.length : Int) then ((qzv.f k (l0.drop (t101 : Int).toNat) (wrap64 (a1 - t101))).bind fun t123 => ((qzx.f k (l0.take (t101 : Int).toNat)).bind fun t130 => (if t123.length < 5864062014805 then (some (t123 ++ [t130])) else (none)))) else (none)) else (none))))) = some r := h
 clear h
 by_cases c3 : (l0.length : Int) = 1
 ·rw [if_pos c3] at H
  have c3b0 : ((l0.length : Int) == 1) = true := beq_iff_eq.mpr c3
  have c3b1 : ((l0.length : Int) != 1) = false := bne_eq_false_iff_eq.mpr c3
  clear c3
  obtain rfl := Option.some.inj H
  go_enter Try.func87,Try.ntmps87
  go_wp2
  go_ret
  exact ⟨_,by first | rfl | (simp [*,kz,jx] <;> rfl),by first | exact Kd.S_nil _ _ _ _ _ | exact Kd.N_nil _ _ _ _ _ | exact Kd.V_nil _ _ _ _ _ | exact Kd.Q_nil _ _ _ _ _ | exact Kd.R_nil _ _ _ _ _,by repeat (first | (with_reducible first | exact HB.out | apply qj | apply qz | apply qk) | exact HB.out)⟩
 ·rw [if_neg c3] at H
  have c3b0 : ((l0.length : Int) == 1) = false := beq_eq_false_iff_ne.mpr c3
  have c3b1 : ((l0.length : Int) != 1) = true := bne_iff_ne.mpr c3
  replace H := Option.bind_eq_some_iff.mp H
  obtain ⟨t101,A40,H⟩ := H
  replace H : (if a1 < t101 then (if 0 ≤ t101 then (if t101 ≤ (l0.length : Int) then ((qzv.f k (l0.take (t101 : Int).toNat) a1).bind fun t106 => ((qzx.f k (l0.drop (t101 : Int).toNat)).bind fun t113 => (if t106.length < 5864062014805 then (some (t106 ++ [t113])) else (none)))) else (none)) else (none)) else (if 0 ≤ t101 then (if t101 ≤ (l0.length : Int) then ((qzv.f k (l0.drop (t101 : Int).toNat) (wrap64 (a1 - t101))).bind fun t123 => ((qzx.f k (l0.take (t101 : Int).toNat)).bind fun t130 => (if t123.length < 5864062014805 then (some (t123 ++ [t130])) else (none)))) else (none)) else (none))) = some r := H
  have A4 := qq.mk A40
  clear A40
  by_cases c5 : a1 < t101
  ·rw [if_pos c5] at H
   have c5b0 : decide (a1 < t101) = true := decide_eq_true c5
   clear c5
   by_cases c6 : 0 ≤ t101
   ·rw [if_pos c6] at H
    have c6b0 := eq_true c6
    have c6b1 : decide (0 ≤ t101) = true := decide_eq_true c6
    clear c6
    by_cases c7 : t101 ≤ (l0.length : Int)
    ·rw [if_pos c7] at H
     have c7b0 := eq_true c7
     have c7b1 : decide (t101 ≤ (l0.length : Int)) = true := decide_eq_true c7
     clear c7
     obtain ⟨y102,hy102⟩ : ∃ y_ : List (List Int),y_ = (l0.take (t101 : Int).toNat) := ⟨_,rfl⟩
     replace H : ((qzv.f k y102 a1).bind fun t106 => ((qzx.f k (l0.drop (t101 : Int).toNat)).bind fun t113 => (if t106.length < 5864062014805 then (some (t106 ++ [t113])) else (none)))) = some r := by first | (rw [hy102];with_reducible exact H) | (have H2_ := (Option.bind_some _ _).symm.trans H;rw [hy102];with_reducible exact H2_) | (have H2_ := (Option.bind_some _ _).symm.trans H;with_reducible exact H2_) | with_reducible exact H | (rw [hy102];exact H) | exact H
     have Ny102 := qq.mk hy102
     clear hy102
     replace H := Option.bind_eq_some_iff.mp H
     obtain ⟨t106,A80,H⟩ := H
     replace H : ((qzx.f k (l0.drop (t101 : Int).toNat)).bind fun t113 => (if t106.length < 5864062014805 then (some (t106 ++ [t113])) else (none))) = some r := H
     have A8 := qq.mk A80
     clear A80
     have c9b0 := eq_true (of_decide_eq_true (by assumption) : 0 ≤ t101)
     have c10b0 := eq_true (of_decide_eq_true (by assumption) : t101 ≤ (l0.length : Int))
     obtain ⟨y109,hy109⟩ : ∃ y_ : List (List Int),y_ = (l0.drop (t101 : Int).toNat) := ⟨_,rfl⟩
     replace H : ((qzx.f k y109).bind fun t113 => (if t106.length < 5864062014805 then (some (t106 ++ [t113])) else (none))) = some r := by first | (rw [hy109];with_reducible exact H) | (have H2_ := (Option.bind_some _ _).symm.trans H;rw [hy109];with_reducible exact H2_) | (have H2_ := (Option.bind_some _ _).symm.trans H;with_reducible exact H2_) | with_reducible exact H | (rw [hy109];exact H) | exact H
     have Ny109 := qq.mk hy109
     clear hy109
     replace H := Option.bind_eq_some_iff.mp H
     obtain ⟨t113,A110,H⟩ := H
     replace H : (if t106.length < 5864062014805 then (some (t106 ++ [t113])) else (none)) = some r := H
     have A11 := qq.mk A110
     clear A110
     by_cases c12 : t106.length < 5864062014805
     ·rw [if_pos c12] at H
      have LMc12 := qq.mk c12
      clear c12
      obtain ⟨y116,hy116⟩ : ∃ y_ : List (List Int),y_ = (t106 ++ [t113]) := ⟨_,rfl⟩
      replace H : (some y116) = some r := by first | (rw [hy116];with_reducible exact H) | (have H2_ := (Option.bind_some _ _).symm.trans H;rw [hy116];with_reducible exact H2_) | (have H2_ := (Option.bind_some _ _).symm.trans H;with_reducible exact H2_) | with_reducible exact H | (rw [hy116];exact H) | exact H
      have Ny116 := qq.mk hy116
      clear hy116
      obtain rfl := Option.some.inj H
      go_enter Try.func87,Try.ntmps87
      try go_wp2_with (first | ((with_reducible refine kj (f := 121) rfl ?_);refine goesL_ (some 11) rfl rfl Try.func121 (by kernel_rfl) rfl #[.int .i64 (l0.length : Int)] rfl (by (try simp only [List.map_toArray,List.map_cons,List.map_nil]);first | done | rfl | (simp only [List.length_drop,List.length_take];rfl)) ?_;(with_reducible refine (qzj.calls k (l0.length : Int) t101 _ A4.out).mono ?_);rintro e w' ⟨rfl,⟨nd,rfl⟩⟩;refine ⟨_,rfl,?_⟩))
      have n0_ := qq.mk (qk (qz HB.out nd))
      clear HB
      have HB := n0_
      clear n0_
      have q14 : (t101 : Int) ≤ ((l0.length : Int) : Int) := of_decide_eq_true (by assumption)
      obtain ⟨i014,hi014,_,hsz14,_⟩ := info_parts info22
      have hroom14 : l0.length ≤ c0 := HC0.out
      have hC14 : Kd.C (Kd.slice 5 (Kd.int .u8)) _ A0 l0.length l0 := HR0.out
      have hcut14 := cut_to (P := Try.prog) 44 22 .i64 Try.underlying44 hi014 A0 l0.length c0 t101 (of_decide_eq_true (by assumption)) q14 hroom14
      have hr14 := Kd.C_take (m := (t101 : Int).toNat) hC14 (by omega)
      have hy14 : y102.length = (t101 : Int).toNat := (by rw [Ny102.out,List.length_take];omega)
      rw [← Ny102.out] at hr14
      rw [← hy14] at hcut14
      have HR105 := qq.mk hr14
      have HC105 := qq.mk (show y102.length ≤ c0 from by omega)
      clear hr14 hC14 hroom14 hi014 hsz14
      have KY14 := qq.mk hy14
      clear hy14
      replace q14 := eq_true q14
      have q15 : (t101 : Int) ≤ ((l0.length : Int) : Int) := of_decide_eq_true (by assumption)
      obtain ⟨i015,hi015,_,hsz15,_⟩ := info_parts info22
      have hroom15 : l0.length ≤ c0 := HC0.out
      have hC15 : Kd.C (Kd.slice 5 (Kd.int .u8)) _ A0 l0.length l0 := HR0.out
      have q015 : (0 : Int) ≤ (t101 : Int) := of_decide_eq_true (by assumption)
      have hcut15 := cut_from (P := Try.prog) 44 22 .i64 Try.underlying44 hi015 1 hsz15 A0 l0.length c0 t101 q015 q15
      have hr15 := Kd.C_drop (m := (t101 : Int).toNat) (c := c0) hC15 (by omega) hroom15
      obtain ⟨A15,hA15⟩ : ∃ A1,A1 = (if c0 = (t101 : Int).toNat then A0 else (A0 : Option Addr).map (·.add ((t101 : Int).toNat * 1))) := ⟨_,rfl⟩
      obtain ⟨c15,hc15⟩ : ∃ c1,c1 = c0 - (t101 : Int).toNat := ⟨_,rfl⟩
      have hy15 : y109.length = l0.length - (t101 : Int).toNat := (by rw [Ny109.out,List.length_drop] <;> omega)
      rw [show (l0).drop (t101 : Int).toNat = y109 from Ny109.out.symm] at hr15
      replace hr15 : Kd.C (Kd.slice 5 (Kd.int .u8)) _ A15 y109.length y109 := (by rw [hA15];exact hr15)
      rw [← hy15,← hA15,← hc15] at hcut15
      have HR112 := qq.mk hr15
      have HC112 := qq.mk (show y109.length ≤ c15 from by rw [hy15,hc15];exact Nat.sub_le_sub_right hroom15 _)
      clear hr15 hC15 hroom15 hi015 hsz15 hc15
      have KY15 := qq.mk hy15
      have KA15 := qq.mk hA15
      clear hy15 hA15
      replace q15 := eq_true q15
      refine start_ (n := 12) (S := fun w' => True) (ds := []) #[false,false,false,false,false,false,false,false,false,false,false,false] (by kernel_rfl) rfl rfl trivial (fun hHeld => ?_);refine with_tabW qzv.tab5 qzv.bits5 (fun HT_ HW_ => ?_)
      generalize (w.drewN nd).drew = w13 at HB HR105 HR112 hHeld ⊢
      refine pure_ (i := 0) (N := some 15) (v := ?_) (a' := ?_) #[true,false,false,false,false,false,false,false,false,false,false,false] rfl rfl (any_of HT_.out (by kernel_rfl)) (fun _ _ _ h => h) (Or.inl ⟨by rfl,?_⟩) ?_ ?_
      rotate_left
      ·intro w'
       go_simp
       with_reducible rfl
      rotate_left
      ·simp only [Act.put,List.setIfInBounds_toArray,List.set_cons_zero,List.set_cons_succ,i64_w,i32_w]
       rfl
      refine pure_ (i := 1) (N := some 16) (v := ?_) (a' := ?_) #[true,true,false,false,false,false,false,false,false,false,false,false] rfl rfl (any_of HT_.out (by kernel_rfl)) (fun _ _ _ h => h) (Or.inl ⟨by rfl,?_⟩) ?_ ?_
      rotate_left
      ·intro w'
       go_simp
       with_reducible rfl
      rotate_left
      ·simp only [Act.put,List.setIfInBounds_toArray,List.set_cons_zero,List.set_cons_succ,i64_w,i32_w]
       rfl
      refine pure_ (i := 2) (N := some 17) (v := ?_) (a' := ?_) #[true,true,true,false,false,false,false,false,false,false,false,false] rfl rfl (any_of HT_.out (by kernel_rfl)) (fun _ _ _ h => h) (Or.inl ⟨by rfl,?_⟩) ?_ ?_
      rotate_left
      ·intro w'
       go_simp
       with_reducible rfl
      rotate_left
      ·simp only [Act.put,List.setIfInBounds_toArray,List.set_cons_zero,List.set_cons_succ,i64_w,i32_w]
       rfl
      refine pure_ (i := 3) (N := some 18) (v := ?_) (a' := ?_) #[true,true,true,true,false,false,false,false,false,false,false,false] rfl rfl (any_of HT_.out (by kernel_rfl)) (fun _ _ _ h => h) (Or.inl ⟨by rfl,?_⟩) ?_ ?_
      rotate_left
      ·intro w'
       go_simp
       with_reducible rfl
      rotate_left
      ·simp only [Act.put,List.setIfInBounds_toArray,List.set_cons_zero,List.set_cons_succ,i64_w,i32_w]
       rfl
      refine pure_ (i := 5) (N := some 20) (v := ?_) (a' := ?_) #[true,true,true,true,false,true,false,false,false,false,false,false] rfl rfl (any_of HT_.out (by kernel_rfl)) (fun _ _ _ h => h) (Or.inl ⟨by rfl,?_⟩) ?_ ?_
      rotate_left
      ·intro w'
       go_simp
       with_reducible rfl
      rotate_left
      ·simp only [Act.put,List.setIfInBounds_toArray,List.set_cons_zero,List.set_cons_succ,i64_w,i32_w]
       rfl
      refine pure_ (i := 6) (N := some 21) (v := ?_) (a' := ?_) #[true,true,true,true,false,true,true,false,false,false,false,false] rfl rfl (any_of HT_.out (by kernel_rfl)) (fun _ _ _ h => h) (Or.inl ⟨by rfl,?_⟩) ?_ ?_
      rotate_left
      ·intro w'
       go_simp
       with_reducible rfl
      rotate_left
      ·simp only [Act.put,List.setIfInBounds_toArray,List.set_cons_zero,List.set_cons_succ,i64_w,i32_w]
       rfl
      refine pure_ (i := 7) (N := some 22) (v := ?_) (a' := ?_) #[true,true,true,true,false,true,true,true,false,false,false,false] rfl rfl (any_of HT_.out (by kernel_rfl)) (fun _ _ _ h => h) (Or.inl ⟨by rfl,?_⟩) ?_ ?_
      rotate_left
      ·intro w'
       go_simp
       with_reducible rfl
      rotate_left
      ·simp only [Act.put,List.setIfInBounds_toArray,List.set_cons_zero,List.set_cons_succ,i64_w,i32_w]
       rfl
      refine one_ (i := 4) (N := some 19) #[true,true,true,true,true,true,true,true,false,false,false,false] rfl rfl (one_of HT_.out (by kernel_rfl)) (by decide) (fun K hK => ?_)
      refine goes_ Try.func87 (by kernel_rfl) rfl #[.slice A0 y102.length c0,.int .i64 a1] (by rfl) rfl rfl (by (try simp only [List.map_toArray,List.map_cons,List.map_nil]);first | done | rfl | (simp only [List.length_drop,List.length_take];rfl)) ?_
      with_reducible refine (ih k (by omega) _ _ y102 a1 t106 _ ?side1 ?side2 A8.out).mono ?_
      (case side1 => repeat (first | exact (Kd.C_below HR105.out HB.out) | (with_reducible refine Kd.C_alloc ?_ _) | (with_reducible refine Kd.C_drewN ?_ _) | (with_reducible refine Kd.C_drew ?_)))
      (case side2 => exact HC105.out)
      rintro e w16 ⟨v107,rfl,ho0,hb⟩
      refine ⟨_,rfl,?_⟩
      have n0_ := qq.mk (Kd.S_lower ho0 (zw (by repeat (first | (with_reducible first | exact HB.out | apply qj | apply qz | apply qk) | exact HB.out))))
      have n1_ := qq.mk (zv (by repeat (first | (with_reducible first | exact HB.out | apply qj | apply qz | apply qk) | exact HB.out)) hb)
      clear HB
      have HO108 := n0_
      have HB := n1_
      clear n0_ n1_
      (try clear hb)
      (try clear hb2)
      (try clear hk)
      (try clear hi)
      (try clear ho0)
      refine hK.out _ _ trivial (fun hHeld => ?_)
      clear hK K
      refine norm_ (a' := ?_) ?_ ?_
      rotate_left
      ·show Act.put _ (some 19) _ = _
       simp only [Act.put,List.setIfInBounds_toArray,List.set_cons_zero,List.set_cons_succ,i64_w,i32_w]
       rfl
      refine one_ (i := 8) (N := some 23) #[true,true,true,true,true,true,true,true,true,false,false,false] rfl rfl (one_of HT_.out (by kernel_rfl)) (by decide) (fun K hK => ?_)
      refine goes_ Try.func83 (by kernel_rfl) rfl #[.slice A15 y109.length c15] (by rfl) rfl rfl (by (try simp only [List.map_toArray,List.map_cons,List.map_nil]);first | done | rfl | (simp only [List.length_drop,List.length_take];rfl)) ?_
      with_reducible refine (qzx.calls k _ _ y109 t113 _ ?side1 ?side2 A11.out).mono ?_
      (case side1 => repeat (first | exact (Kd.C_below HR112.out HB.out) | (with_reducible refine Kd.C_alloc ?_ _) | (with_reducible refine Kd.C_drewN ?_ _) | (with_reducible refine Kd.C_drew ?_)))
      (case side2 => exact HC112.out)
      rintro e w17 ⟨v114,rfl,ho0,hb⟩
      refine ⟨_,rfl,?_⟩
      have n0_ := qq.mk (Kd.S_elder' (by (with_reducible repeat (first | apply Kd.vv | apply Kd.vk | apply Kd.vw));exact HO108.out) (Kd.R_base ho0) hb)
      have n1_ := qq.mk (Kd.R_lower ho0 (zw (by repeat (first | (with_reducible first | exact HB.out | apply qj | apply qz | apply qk) | exact HB.out))))
      have n2_ := qq.mk (zv (by repeat (first | (with_reducible first | exact HB.out | apply qj | apply qz | apply qk) | exact HB.out)) hb)
      clear HO108
      clear HB
      have HO108 := n0_
      have HO115 := n1_
      have HB := n2_
      clear n0_ n1_ n2_
      (try clear hb)
      (try clear hb2)
      (try clear hk)
      (try clear hi)
      (try clear ho0)
      obtain ⟨Ao19,co19,eo19⟩ := Kd.R_slice HO115.out
      (first | subst eo19 | (injection eo19 with f1_ f2_ f3_;have f4_ := f1_.symm;have f5_ := f3_.symm;clear f1_ f2_ f3_;subst f4_;subst f5_))
      refine hK.out _ _ trivial (fun hHeld => ?_)
      clear hK K
      refine norm_ (a' := ?_) ?_ ?_
      rotate_left
      ·show Act.put _ (some 23) _ = _
       simp only [Act.put,List.setIfInBounds_toArray,List.set_cons_zero,List.set_cons_succ,i64_w,i32_w]
       rfl
      refine one_ (i := 9) (N := some 24) #[true,true,true,true,true,true,true,true,true,true,false,false] rfl rfl (one_of HT_.out (by kernel_rfl)) (by decide) (fun K hK => ?_)
      refine value_ (w1 := ?_) (v := ?_) (by rfl) rfl ?_ ?_
      rotate_left 2
      ·go_simp
       constructor
       ·rfl
       ·rfl
      refine hK.out _ _ trivial (fun hHeld => ?_)
      clear hK K
      refine norm_ (a' := ?_) ?_ ?_
      rotate_left
      ·show Act.put _ (some 24) _ = _
       simp only [Act.put,List.setIfInBounds_toArray,List.set_cons_zero,List.set_cons_succ,i64_w,i32_w]
       rfl
      refine one_ (i := 10) (N := some 25) #[true,true,true,true,true,true,true,true,true,true,true,false] rfl rfl (one_of HT_.out (by kernel_rfl)) (by decide) (fun K hK => ?_)
      refine Kd.S_append_step (Kd.slice 5 (Kd.int .u8)) (w0 := w) w.heap.size (by rfl) (.tmp 19) (.tmp 24) 44 22 (.slice none 0 0) 24 rfl Try.underlying44 info22 rfl (by decide) (by omega) v107 t106 t113 [.slice Ao19 t113.length co19] (fun _ => True) (fun k_ => some k_ = (.slice Ao19 t113.length co19 : Value).ownBlock) rfl rfl ?aP (fun k_ hk_ => ((Kd.R_mono (ok' := fun k_ => ((fun _ => True)) k_ ∧ some k_ ≠ (v107 : Value).ownBlock) (Kd.R_apart' (HO115.out) (Kd.S_typed HO108.out) (by decide)) (fun k_ hk => ⟨trivial,hk.2⟩))).1 k_ hk_.symm) ?aF ?aO ?aB ?aS ?aL ?_
      (case aP => exact Kd.M_row (Kd.R_mono (Kd.R_tight rfl (Kd.R_mono (ok' := fun k_ => ((fun _ => True)) k_ ∧ some k_ ≠ (v107 : Value).ownBlock) (Kd.R_apart' (HO115.out) (Kd.S_typed HO108.out) (by decide)) (fun k_ hk => ⟨trivial,hk.2⟩))) (fun _ h_ => h_)))
      (case aB => exact (by repeat (first | (with_reducible first | exact HB.out | apply qj | apply qz | apply qk) | exact HB.out)))
      (case aF => exact (fun _ _ => trivial))
      (case aO => exact (by (with_reducible repeat (first | apply Kd.vv | apply Kd.vk | apply Kd.vw));exact Kd.S_mono HO108.out (fun k_ hk => ⟨trivial,fun e_ => hk.2 e_⟩)))
      (case aS => exact (zw (by repeat (first | (with_reducible first | exact HB.out | apply qj | apply qz | apply qk) | exact HB.out))))
      (case aL => have := LMc12.out;omega)
      intro v117 w18 ho hb hg hat
      rw [← Ny116.out] at ho
      have n0_ := qq.mk (hb)
      have n1_ := qq.mk (ho)
      clear HB
      clear HO108
      clear HO115
      have HB := n0_
      have HO118 := n1_
      clear n0_ n1_
      clear ho hb hg hat
      refine hK.out _ _ trivial (fun hHeld => ?_)
      clear hK K
      refine norm_ (a' := ?_) ?_ ?_
      rotate_left
      ·show Act.put _ (some 25) _ = _
       simp only [Act.put,List.setIfInBounds_toArray,List.set_cons_zero,List.set_cons_succ,i64_w,i32_w]
       rfl
      refine pure_ (i := 11) (N := some 4) (v := ?_) (a' := ?_) #[true,true,true,true,true,true,true,true,true,true,true,true] rfl rfl (any_of HT_.out (by kernel_rfl)) (fun _ _ _ h => h) (Or.inl ⟨by rfl,?_⟩) ?_ ?_
      rotate_left
      ·intro w'
       go_simp
       with_reducible rfl
      rotate_left
      ·simp only [Act.put,List.setIfInBounds_toArray,List.set_cons_zero,List.set_cons_succ,i64_w,i32_w]
       rfl
      refine done_ (done_of HT_.out (by kernel_rfl)) ?_
      try go_wp2
      go_ret
      exact ⟨_,by first | rfl | (simp [*,kz,jx] <;> rfl),by (with_reducible repeat (first | apply Kd.vv | apply Kd.vk | apply Kd.vw));exact HO118.out,by repeat (first | (with_reducible first | exact HB.out | apply qj | apply qz | apply qk) | exact HB.out)⟩
     ·rw [if_neg c12] at H
      exact absurd H (by simp)
    ·rw [if_neg c7] at H
     exact absurd H (by simp)
   ·rw [if_neg c6] at H
    exact absurd H (by simp)
  ·rw [if_neg c5] at H
   have c5b0 : decide (a1 < t101) = false := decide_eq_false c5
   clear c5
   by_cases c20 : 0 ≤ t101
   ·rw [if_pos c20] at H
    have c20b0 := eq_true c20
    have c20b1 : decide (0 ≤ t101) = true := decide_eq_true c20
    clear c20
    by_cases c21 : t101 ≤ (l0.length : Int)
    ·rw [if_pos c21] at H
     have c21b0 := eq_true c21
     have c21b1 : decide (t101 ≤ (l0.length : Int)) = true := decide_eq_true c21
     clear c21
     obtain ⟨y119,hy119⟩ : ∃ y_ : List (List Int),y_ = (l0.drop (t101 : Int).toNat) := ⟨_,rfl⟩
     replace H : ((qzv.f k y119 (wrap64 (a1 - t101))).bind fun t123 => ((qzx.f k (l0.take (t101 : Int).toNat)).bind fun t130 => (if t123.length < 5864062014805 then (some (t123 ++ [t130])) else (none)))) = some r := by first | (rw [hy119];with_reducible exact H) | (have H2_ := (Option.bind_some _ _).symm.trans H;rw [hy119];with_reducible exact H2_) | (have H2_ := (Option.bind_some _ _).symm.trans H;with_reducible exact H2_) | with_reducible exact H | (rw [hy119];exact H) | exact H
     have Ny119 := qq.mk hy119
     clear hy119
     replace H := Option.bind_eq_some_iff.mp H
     obtain ⟨t123,A220,H⟩ := H
     replace H : ((qzx.f k (l0.take (t101 : Int).toNat)).bind fun t130 => (if t123.length < 5864062014805 then (some (t123 ++ [t130])) else (none))) = some r := H
     have A22 := qq.mk A220
     clear A220
     have c23b0 := eq_true (of_decide_eq_true (by assumption) : 0 ≤ t101)
     have c24b0 := eq_true (of_decide_eq_true (by assumption) : t101 ≤ (l0.length : Int))
     obtain ⟨y126,hy126⟩ : ∃ y_ : List (List Int),y_ = (l0.take (t101 : Int).toNat) := ⟨_,rfl⟩
     replace H : ((qzx.f k y126).bind fun t130 => (if t123.length < 5864062014805 then (some (t123 ++ [t130])) else (none))) = some r := by first | (rw [hy126];with_reducible exact H) | (have H2_ := (Option.bind_some _ _).symm.trans H;rw [hy126];with_reducible exact H2_) | (have H2_ := (Option.bind_some _ _).symm.trans H;with_reducible exact H2_) | with_reducible exact H | (rw [hy126];exact H) | exact H
     have Ny126 := qq.mk hy126
     clear hy126
     replace H := Option.bind_eq_some_iff.mp H
     obtain ⟨t130,A250,H⟩ := H
     replace H : (if t123.length < 5864062014805 then (some (t123 ++ [t130])) else (none)) = some r := H
     have A25 := qq.mk A250
     clear A250
     by_cases c26 : t123.length < 5864062014805
     ·rw [if_pos c26] at H
      have LMc26 := qq.mk c26
      clear c26
      obtain ⟨y133,hy133⟩ : ∃ y_ : List (List Int),y_ = (t123 ++ [t130]) := ⟨_,rfl⟩
      replace H : (some y133) = some r := by first | (rw [hy133];with_reducible exact H) | (have H2_ := (Option.bind_some _ _).symm.trans H;rw [hy133];with_reducible exact H2_) | (have H2_ := (Option.bind_some _ _).symm.trans H;with_reducible exact H2_) | with_reducible exact H | (rw [hy133];exact H) | exact H
      have Ny133 := qq.mk hy133
      clear hy133
      obtain rfl := Option.some.inj H
      go_enter Try.func87,Try.ntmps87
      try go_wp2_with (first | ((with_reducible refine kj (f := 121) rfl ?_);refine goesL_ (some 11) rfl rfl Try.func121 (by kernel_rfl) rfl #[.int .i64 (l0.length : Int)] rfl (by (try simp only [List.map_toArray,List.map_cons,List.map_nil]);first | done | rfl | (simp only [List.length_drop,List.length_take];rfl)) ?_;(with_reducible refine (qzj.calls k (l0.length : Int) t101 _ A4.out).mono ?_);rintro e w' ⟨rfl,⟨nd,rfl⟩⟩;refine ⟨_,rfl,?_⟩))
      have n0_ := qq.mk (qk (qz HB.out nd))
      clear HB
      have HB := n0_
      clear n0_
      have q28 : (t101 : Int) ≤ ((l0.length : Int) : Int) := of_decide_eq_true (by assumption)
      obtain ⟨i028,hi028,_,hsz28,_⟩ := info_parts info22
      have hroom28 : l0.length ≤ c0 := HC0.out
      have hC28 : Kd.C (Kd.slice 5 (Kd.int .u8)) _ A0 l0.length l0 := HR0.out
      have q028 : (0 : Int) ≤ (t101 : Int) := of_decide_eq_true (by assumption)
      have hcut28 := cut_from (P := Try.prog) 44 22 .i64 Try.underlying44 hi028 1 hsz28 A0 l0.length c0 t101 q028 q28
      have hr28 := Kd.C_drop (m := (t101 : Int).toNat) (c := c0) hC28 (by omega) hroom28
      obtain ⟨A28,hA28⟩ : ∃ A1,A1 = (if c0 = (t101 : Int).toNat then A0 else (A0 : Option Addr).map (·.add ((t101 : Int).toNat * 1))) := ⟨_,rfl⟩
      obtain ⟨c28,hc28⟩ : ∃ c1,c1 = c0 - (t101 : Int).toNat := ⟨_,rfl⟩
      have hy28 : y119.length = l0.length - (t101 : Int).toNat := (by rw [Ny119.out,List.length_drop] <;> omega)
      rw [show (l0).drop (t101 : Int).toNat = y119 from Ny119.out.symm] at hr28
      replace hr28 : Kd.C (Kd.slice 5 (Kd.int .u8)) _ A28 y119.length y119 := (by rw [hA28];exact hr28)
      rw [← hy28,← hA28,← hc28] at hcut28
      have HR122 := qq.mk hr28
      have HC122 := qq.mk (show y119.length ≤ c28 from by rw [hy28,hc28];exact Nat.sub_le_sub_right hroom28 _)
      clear hr28 hC28 hroom28 hi028 hsz28 hc28
      have KY28 := qq.mk hy28
      have KA28 := qq.mk hA28
      clear hy28 hA28
      replace q28 := eq_true q28
      have q29 : (t101 : Int) ≤ ((l0.length : Int) : Int) := of_decide_eq_true (by assumption)
      obtain ⟨i029,hi029,_,hsz29,_⟩ := info_parts info22
      have hroom29 : l0.length ≤ c0 := HC0.out
      have hC29 : Kd.C (Kd.slice 5 (Kd.int .u8)) _ A0 l0.length l0 := HR0.out
      have hcut29 := cut_to (P := Try.prog) 44 22 .i64 Try.underlying44 hi029 A0 l0.length c0 t101 (of_decide_eq_true (by assumption)) q29 hroom29
      have hr29 := Kd.C_take (m := (t101 : Int).toNat) hC29 (by omega)
      have hy29 : y126.length = (t101 : Int).toNat := (by rw [Ny126.out,List.length_take];omega)
      rw [← Ny126.out] at hr29
      rw [← hy29] at hcut29
      have HR129 := qq.mk hr29
      have HC129 := qq.mk (show y126.length ≤ c0 from by omega)
      clear hr29 hC29 hroom29 hi029 hsz29
      have KY29 := qq.mk hy29
      clear hy29
      replace q29 := eq_true q29
      refine start_ (n := 14) (S := fun w' => True) (ds := []) #[false,false,false,false,false,false,false,false,false,false,false,false,false,false] (by kernel_rfl) rfl rfl trivial (fun hHeld => ?_);refine with_tabW qzv.tab6 qzv.bits6 (fun HT_ HW_ => ?_)
      generalize (w.drewN nd).drew = w27 at HB HR122 HR129 hHeld ⊢
      refine pure_ (i := 0) (N := some 26) (v := ?_) (a' := ?_) #[true,false,false,false,false,false,false,false,false,false,false,false,false,false] rfl rfl (any_of HT_.out (by kernel_rfl)) (fun _ _ _ h => h) (Or.inl ⟨by rfl,?_⟩) ?_ ?_
      rotate_left
      ·intro w'
       go_simp
       with_reducible rfl
      rotate_left
      ·simp only [Act.put,List.setIfInBounds_toArray,List.set_cons_zero,List.set_cons_succ,i64_w,i32_w]
       rfl
      refine pure_ (i := 1) (N := some 27) (v := ?_) (a' := ?_) #[true,true,false,false,false,false,false,false,false,false,false,false,false,false] rfl rfl (any_of HT_.out (by kernel_rfl)) (fun _ _ _ h => h) (Or.inl ⟨by rfl,?_⟩) ?_ ?_
      rotate_left
      ·intro w'
       go_simp
       with_reducible rfl
      rotate_left
      ·simp only [Act.put,List.setIfInBounds_toArray,List.set_cons_zero,List.set_cons_succ,i64_w,i32_w]
       rfl
      refine pure_ (i := 2) (N := some 28) (v := ?_) (a' := ?_) #[true,true,true,false,false,false,false,false,false,false,false,false,false,false] rfl rfl (any_of HT_.out (by kernel_rfl)) (fun _ _ _ h => h) (Or.inl ⟨by rfl,?_⟩) ?_ ?_
      rotate_left
      ·intro w'
       go_simp
       with_reducible rfl
      rotate_left
      ·simp only [Act.put,List.setIfInBounds_toArray,List.set_cons_zero,List.set_cons_succ,i64_w,i32_w]
       rfl
      refine pure_ (i := 3) (N := some 29) (v := ?_) (a' := ?_) #[true,true,true,true,false,false,false,false,false,false,false,false,false,false] rfl rfl (any_of HT_.out (by kernel_rfl)) (fun _ _ _ h => h) (Or.inl ⟨by rfl,?_⟩) ?_ ?_
      rotate_left
      ·intro w'
       go_simp
       with_reducible rfl
      rotate_left
      ·simp only [Act.put,List.setIfInBounds_toArray,List.set_cons_zero,List.set_cons_succ,i64_w,i32_w]
       rfl
      refine pure_ (i := 4) (N := some 30) (v := ?_) (a' := ?_) #[true,true,true,true,true,false,false,false,false,false,false,false,false,false] rfl rfl (any_of HT_.out (by kernel_rfl)) (fun _ _ _ h => h) (Or.inl ⟨by rfl,?_⟩) ?_ ?_
      rotate_left
      ·intro w'
       go_simp
       with_reducible rfl
      rotate_left
      ·simp only [Act.put,List.setIfInBounds_toArray,List.set_cons_zero,List.set_cons_succ,i64_w,i32_w]
       rfl
      refine pure_ (i := 5) (N := some 31) (v := ?_) (a' := ?_) #[true,true,true,true,true,true,false,false,false,false,false,false,false,false] rfl rfl (any_of HT_.out (by kernel_rfl)) (fun _ _ _ h => h) (Or.inl ⟨by rfl,?_⟩) ?_ ?_
      rotate_left
      ·intro w'
       go_simp
       with_reducible rfl
      rotate_left
      ·simp only [Act.put,List.setIfInBounds_toArray,List.set_cons_zero,List.set_cons_succ,i64_w,i32_w]
       rfl
      refine pure_ (i := 7) (N := some 33) (v := ?_) (a' := ?_) #[true,true,true,true,true,true,false,true,false,false,false,false,false,false] rfl rfl (any_of HT_.out (by kernel_rfl)) (fun _ _ _ h => h) (Or.inl ⟨by rfl,?_⟩) ?_ ?_
      rotate_left
      ·intro w'
       go_simp
       with_reducible rfl
      rotate_left
      ·simp only [Act.put,List.setIfInBounds_toArray,List.set_cons_zero,List.set_cons_succ,i64_w,i32_w]
       rfl
      refine pure_ (i := 8) (N := some 34) (v := ?_) (a' := ?_) #[true,true,true,true,true,true,false,true,true,false,false,false,false,false] rfl rfl (any_of HT_.out (by kernel_rfl)) (fun _ _ _ h => h) (Or.inl ⟨by rfl,?_⟩) ?_ ?_
      rotate_left
      ·intro w'
       go_simp
       with_reducible rfl
      rotate_left
      ·simp only [Act.put,List.setIfInBounds_toArray,List.set_cons_zero,List.set_cons_succ,i64_w,i32_w]
       rfl
      refine pure_ (i := 9) (N := some 35) (v := ?_) (a' := ?_) #[true,true,true,true,true,true,false,true,true,true,false,false,false,false] rfl rfl (any_of HT_.out (by kernel_rfl)) (fun _ _ _ h => h) (Or.inl ⟨by rfl,?_⟩) ?_ ?_
      rotate_left
      ·intro w'
       go_simp
       with_reducible rfl
      rotate_left
      ·simp only [Act.put,List.setIfInBounds_toArray,List.set_cons_zero,List.set_cons_succ,i64_w,i32_w]
       rfl
      refine one_ (i := 6) (N := some 32) #[true,true,true,true,true,true,true,true,true,true,false,false,false,false] rfl rfl (one_of HT_.out (by kernel_rfl)) (by decide) (fun K hK => ?_)
      refine goes_ Try.func87 (by kernel_rfl) rfl #[.slice A28 y119.length c28,.int .i64 (wrap64 (a1 - t101))] (by rfl) rfl rfl (by (try simp only [List.map_toArray,List.map_cons,List.map_nil]);first | done | rfl | (simp only [List.length_drop,List.length_take];rfl)) ?_
      with_reducible refine (ih k (by omega) _ _ y119 (wrap64 (a1 - t101)) t123 _ ?side1 ?side2 A22.out).mono ?_
      (case side1 => repeat (first | exact (Kd.C_below HR122.out HB.out) | (with_reducible refine Kd.C_alloc ?_ _) | (with_reducible refine Kd.C_drewN ?_ _) | (with_reducible refine Kd.C_drew ?_)))
      (case side2 => exact HC122.out)
      rintro e w30 ⟨v124,rfl,ho0,hb⟩
      refine ⟨_,rfl,?_⟩
      have n0_ := qq.mk (Kd.S_lower ho0 (zw (by repeat (first | (with_reducible first | exact HB.out | apply qj | apply qz | apply qk) | exact HB.out))))
      have n1_ := qq.mk (zv (by repeat (first | (with_reducible first | exact HB.out | apply qj | apply qz | apply qk) | exact HB.out)) hb)
      clear HB
      have HO125 := n0_
      have HB := n1_
      clear n0_ n1_
      (try clear hb)
      (try clear hb2)
      (try clear hk)
      (try clear hi)
      (try clear ho0)
      refine hK.out _ _ trivial (fun hHeld => ?_)
      clear hK K
      refine norm_ (a' := ?_) ?_ ?_
      rotate_left
      ·show Act.put _ (some 32) _ = _
       simp only [Act.put,List.setIfInBounds_toArray,List.set_cons_zero,List.set_cons_succ,i64_w,i32_w]
       rfl
      refine one_ (i := 10) (N := some 36) #[true,true,true,true,true,true,true,true,true,true,true,false,false,false] rfl rfl (one_of HT_.out (by kernel_rfl)) (by decide) (fun K hK => ?_)
      refine goes_ Try.func83 (by kernel_rfl) rfl #[.slice A0 y126.length c0] (by rfl) rfl rfl (by (try simp only [List.map_toArray,List.map_cons,List.map_nil]);first | done | rfl | (simp only [List.length_drop,List.length_take];rfl)) ?_
      with_reducible refine (qzx.calls k _ _ y126 t130 _ ?side1 ?side2 A25.out).mono ?_
      (case side1 => repeat (first | exact (Kd.C_below HR129.out HB.out) | (with_reducible refine Kd.C_alloc ?_ _) | (with_reducible refine Kd.C_drewN ?_ _) | (with_reducible refine Kd.C_drew ?_)))
      (case side2 => exact HC129.out)
      rintro e w31 ⟨v131,rfl,ho0,hb⟩
      refine ⟨_,rfl,?_⟩
      have n0_ := qq.mk (Kd.S_elder' (by (with_reducible repeat (first | apply Kd.vv | apply Kd.vk | apply Kd.vw));exact HO125.out) (Kd.R_base ho0) hb)
      have n1_ := qq.mk (Kd.R_lower ho0 (zw (by repeat (first | (with_reducible first | exact HB.out | apply qj | apply qz | apply qk) | exact HB.out))))
      have n2_ := qq.mk (zv (by repeat (first | (with_reducible first | exact HB.out | apply qj | apply qz | apply qk) | exact HB.out)) hb)
      clear HO125
      clear HB
      have HO125 := n0_
      have HO132 := n1_
      have HB := n2_
      clear n0_ n1_ n2_
      (try clear hb)
      (try clear hb2)
      (try clear hk)
      (try clear hi)
      (try clear ho0)
      obtain ⟨Ao33,co33,eo33⟩ := Kd.R_slice HO132.out
      (first | subst eo33 | (injection eo33 with f1_ f2_ f3_;have f4_ := f1_.symm;have f5_ := f3_.symm;clear f1_ f2_ f3_;subst f4_;subst f5_))
      refine hK.out _ _ trivial (fun hHeld => ?_)
      clear hK K
      refine norm_ (a' := ?_) ?_ ?_
      rotate_left
      ·show Act.put _ (some 36) _ = _
       simp only [Act.put,List.setIfInBounds_toArray,List.set_cons_zero,List.set_cons_succ,i64_w,i32_w]
       rfl
      refine one_ (i := 11) (N := some 37) #[true,true,true,true,true,true,true,true,true,true,true,true,false,false] rfl rfl (one_of HT_.out (by kernel_rfl)) (by decide) (fun K hK => ?_)
      refine value_ (w1 := ?_) (v := ?_) (by rfl) rfl ?_ ?_
      rotate_left 2
      ·go_simp
       constructor
       ·rfl
       ·rfl
      refine hK.out _ _ trivial (fun hHeld => ?_)
      clear hK K
      refine norm_ (a' := ?_) ?_ ?_
      rotate_left
      ·show Act.put _ (some 37) _ = _
       simp only [Act.put,List.setIfInBounds_toArray,List.set_cons_zero,List.set_cons_succ,i64_w,i32_w]
       rfl
      refine one_ (i := 12) (N := some 38) #[true,true,true,true,true,true,true,true,true,true,true,true,true,false] rfl rfl (one_of HT_.out (by kernel_rfl)) (by decide) (fun K hK => ?_)
      refine Kd.S_append_step (Kd.slice 5 (Kd.int .u8)) (w0 := w) w.heap.size (by rfl) (.tmp 32) (.tmp 37) 44 22 (.slice none 0 0) 24 rfl Try.underlying44 info22 rfl (by decide) (by omega) v124 t123 t130 [.slice Ao33 t130.length co33] (fun _ => True) (fun k_ => some k_ = (.slice Ao33 t130.length co33 : Value).ownBlock) rfl rfl ?aP (fun k_ hk_ => ((Kd.R_mono (ok' := fun k_ => ((fun _ => True)) k_ ∧ some k_ ≠ (v124 : Value).ownBlock) (Kd.R_apart' (HO132.out) (Kd.S_typed HO125.out) (by decide)) (fun k_ hk => ⟨trivial,hk.2⟩))).1 k_ hk_.symm) ?aF ?aO ?aB ?aS ?aL ?_
      (case aP => exact Kd.M_row (Kd.R_mono (Kd.R_tight rfl (Kd.R_mono (ok' := fun k_ => ((fun _ => True)) k_ ∧ some k_ ≠ (v124 : Value).ownBlock) (Kd.R_apart' (HO132.out) (Kd.S_typed HO125.out) (by decide)) (fun k_ hk => ⟨trivial,hk.2⟩))) (fun _ h_ => h_)))
      (case aB => exact (by repeat (first | (with_reducible first | exact HB.out | apply qj | apply qz | apply qk) | exact HB.out)))
      (case aF => exact (fun _ _ => trivial))
      (case aO => exact (by (with_reducible repeat (first | apply Kd.vv | apply Kd.vk | apply Kd.vw));exact Kd.S_mono HO125.out (fun k_ hk => ⟨trivial,fun e_ => hk.2 e_⟩)))
      (case aS => exact (zw (by repeat (first | (with_reducible first | exact HB.out | apply qj | apply qz | apply qk) | exact HB.out))))
      (case aL => have := LMc26.out;omega)
      intro v134 w32 ho hb hg hat
      rw [← Ny133.out] at ho
      have n0_ := qq.mk (hb)
      have n1_ := qq.mk (ho)
      clear HB
      clear HO125
      clear HO132
      have HB := n0_
      have HO135 := n1_
      clear n0_ n1_
      clear ho hb hg hat
      refine hK.out _ _ trivial (fun hHeld => ?_)
      clear hK K
      refine norm_ (a' := ?_) ?_ ?_
      rotate_left
      ·show Act.put _ (some 38) _ = _
       simp only [Act.put,List.setIfInBounds_toArray,List.set_cons_zero,List.set_cons_succ,i64_w,i32_w]
       rfl
      refine pure_ (i := 13) (N := some 4) (v := ?_) (a' := ?_) #[true,true,true,true,true,true,true,true,true,true,true,true,true,true] rfl rfl (any_of HT_.out (by kernel_rfl)) (fun _ _ _ h => h) (Or.inl ⟨by rfl,?_⟩) ?_ ?_
      rotate_left
      ·intro w'
       go_simp
       with_reducible rfl
      rotate_left
      ·simp only [Act.put,List.setIfInBounds_toArray,List.set_cons_zero,List.set_cons_succ,i64_w,i32_w]
       rfl
      refine done_ (done_of HT_.out (by kernel_rfl)) ?_
      try go_wp2
      go_ret
      exact ⟨_,by first | rfl | (simp [*,kz,jx] <;> rfl),by (with_reducible repeat (first | apply Kd.vv | apply Kd.vk | apply Kd.vw));exact HO135.out,by repeat (first | (with_reducible first | exact HB.out | apply qj | apply qz | apply qk) | exact HB.out)⟩
     ·rw [if_neg c26] at H
      exact absurd H (by simp)
    ·rw [if_neg c21] at H
     exact absurd H (by simp)
   ·rw [if_neg c20] at H
    exact absurd H (by simp)
def qqv.f (k : Nat) (l0 : List (S27)) (a1 : Int) : Option ((List (List Int))) := (qzk.f k l0).bind fun bt101 => (if bt101.2 = true then (if a1 < 0 then (some ([] : List (List Int))) else (if a1 ≥ (bt101.1.length : Int) then (some ([] : List (List Int))) else ((qzv.f k bt101.1 a1).bind fun t105 => (some t105)))) else (some ([] : List (List Int))))
set_option maxHeartbeats 8000000 in
set_option maxRecDepth 100000 in
theorem qqv.calls (k : Nat) (A0 : Option Addr) (c0 : Nat) (l0 : List (S27)) (a1 : Int) (r : List (List Int)) (w : World) (hr0 : Kd.C k27 w A0 l0.length l0) (hc0 : l0.length ≤ c0) (h : qqv.f k l0 a1 = some r) :
  Calls Try.prog 40 #[.slice A0 l0.length c0,.int .i64 a1] w fun e w' => ∃ v0_ : Value,e = .returned (v0_) ∧ Kd.S (Kd.slice 5 (Kd.int .u8)) 22 w' w.heap.size (fun _ => True) v0_ r ∧ Below w.heap.size w w' := by
 have HR0 := qq.mk hr0
 have HC0 := qq.mk hc0
 clear hr0 hc0
 have HB := qq.mk (Below.refl w.heap.size w)
 have H : ((qzk.f k l0).bind fun bt101 => (if bt101.2 = true then (if a1 < 0 then (some ([] : List (List Int))) else (if a1 ≥ (bt101.1.length : Int) then (some ([] : List (List Int))) else ((qzv.f k bt101.1 a1).bind fun t105 => (some t105)))) else (some ([] : List (List Int))))) = some r := h
 clear h
 replace H := Option.bind_eq_some_iff.mp H
 obtain ⟨⟨t101,t102⟩,A30,H⟩ := H
 replace H : (if t102 = true then (if a1 < 0 then (some ([] : List (List Int))) else (if a1 ≥ (t101.length : Int) then (some ([] : List (List Int))) else ((qzv.f k t101 a1).bind fun t105 => (some t105)))) else (some ([] : List (List Int)))) = some r := H
 have A3 := qq.mk A30
 clear A30
 by_cases c4 : t102 = true
 ·subst c4
  have H1 : (if a1 < 0 then (some ([] : List (List Int))) else (if a1 ≥ (t101.length : Int) then (some ([] : List (List Int))) else ((qzv.f k t101 a1).bind fun t105 => (some t105)))) = some r := by rw [if_pos rfl] at H;exact H
  clear H
  have H := H1
  clear H1
  by_cases c5 : a1 < 0
  ·rw [if_pos c5] at H
   have c5b0 : decide (a1 < 0) = true := decide_eq_true c5
   clear c5
   obtain rfl := Option.some.inj H
   go_enter Try.func40,Try.ntmps40
   go_wp2_with (first | ((with_reducible refine kj (f := 82) rfl ?_);refine goesL_ (some 9) rfl rfl Try.func82 (by kernel_rfl) rfl #[.slice A0 l0.length c0] rfl (by (try simp only [List.map_toArray,List.map_cons,List.map_nil]);first | done | rfl | (simp only [List.length_drop,List.length_take];rfl)) ?_;(with_reducible refine (qzk.calls k _ _ l0 t101 true _ ?side1 ?side2 A3.out).mono ?_);(case side1 => repeat (first | exact HR0.out | (with_reducible refine Kd.C_alloc ?_ _) | (with_reducible refine Kd.C_drewN ?_ _) | (with_reducible refine Kd.C_drew ?_)));(case side2 => exact HC0.out);rintro e w6 ⟨v103,rfl,ho0,hb⟩;refine ⟨_,rfl,?_⟩;have n0_ := qq.mk (Kd.S_lower ho0 (zw (by repeat (first | (with_reducible first | exact HB.out | apply qj | apply qz | apply qk) | exact HB.out))));have n1_ := qq.mk (zv (by repeat (first | (with_reducible first | exact HB.out | apply qj | apply qz | apply qk) | exact HB.out)) hb);clear HB;have HO104 := n0_;have HB := n1_;clear n0_ n1_;(try clear hb);(try clear hb2);(try clear hk);(try clear hi);(try clear ho0)))
   go_ret
   exact ⟨_,by first | rfl | (simp [*,kz,jx] <;> rfl),by first | exact Kd.S_nil _ _ _ _ _ | exact Kd.N_nil _ _ _ _ _ | exact Kd.V_nil _ _ _ _ _ | exact Kd.Q_nil _ _ _ _ _ | exact Kd.R_nil _ _ _ _ _,by repeat (first | (with_reducible first | exact HB.out | apply qj | apply qz | apply qk) | exact HB.out)⟩
  ·rw [if_neg c5] at H
   have c5b0 : decide (a1 < 0) = false := decide_eq_false c5
   clear c5
   by_cases c7 : a1 ≥ (t101.length : Int)
   ·rw [if_pos c7] at H
    have c7b0 : decide ((t101.length : Int) ≤ a1) = true := decide_eq_true c7
    clear c7
    obtain rfl := Option.some.inj H
    go_enter Try.func40,Try.ntmps40
    go_wp2_with (first | ((with_reducible refine kj (f := 82) rfl ?_);refine goesL_ (some 9) rfl rfl Try.func82 (by kernel_rfl) rfl #[.slice A0 l0.length c0] rfl (by (try simp only [List.map_toArray,List.map_cons,List.map_nil]);first | done | rfl | (simp only [List.length_drop,List.length_take];rfl)) ?_;(with_reducible refine (qzk.calls k _ _ l0 t101 true _ ?side1 ?side2 A3.out).mono ?_);(case side1 => repeat (first | exact HR0.out | (with_reducible refine Kd.C_alloc ?_ _) | (with_reducible refine Kd.C_drewN ?_ _) | (with_reducible refine Kd.C_drew ?_)));(case side2 => exact HC0.out);rintro e w8 ⟨v103,rfl,ho0,hb⟩;refine ⟨_,rfl,?_⟩;have n0_ := qq.mk (Kd.S_lower ho0 (zw (by repeat (first | (with_reducible first | exact HB.out | apply qj | apply qz | apply qk) | exact HB.out))));have n1_ := qq.mk (zv (by repeat (first | (with_reducible first | exact HB.out | apply qj | apply qz | apply qk) | exact HB.out)) hb);clear HB;have HO104 := n0_;have HB := n1_;clear n0_ n1_;(try clear hb);(try clear hb2);(try clear hk);(try clear hi);(try clear ho0);obtain ⟨Ao9,co9,eo9⟩ := Kd.S_slice HO104.out;subst eo9))
    go_ret
    exact ⟨_,by first | rfl | (simp [*,kz,jx] <;> rfl),by first | exact Kd.S_nil _ _ _ _ _ | exact Kd.N_nil _ _ _ _ _ | exact Kd.V_nil _ _ _ _ _ | exact Kd.Q_nil _ _ _ _ _ | exact Kd.R_nil _ _ _ _ _,by repeat (first | (with_reducible first | exact HB.out | apply qj | apply qz | apply qk) | exact HB.out)⟩
   ·rw [if_neg c7] at H
    have c7b0 : decide ((t101.length : Int) ≤ a1) = false := decide_eq_false c7
    clear c7
    replace H := Option.bind_eq_some_iff.mp H
    obtain ⟨t105,A100,H⟩ := H
    replace H : (some t105) = some r := H
    have A10 := qq.mk A100
    clear A100
    obtain rfl := Option.some.inj H
    go_enter Try.func40,Try.ntmps40
    go_wp2_with (first | ((with_reducible refine kj (f := 82) rfl ?_);refine goesL_ (some 9) rfl rfl Try.func82 (by kernel_rfl) rfl #[.slice A0 l0.length c0] rfl (by (try simp only [List.map_toArray,List.map_cons,List.map_nil]);first | done | rfl | (simp only [List.length_drop,List.length_take];rfl)) ?_;(with_reducible refine (qzk.calls k _ _ l0 t101 true _ ?side1 ?side2 A3.out).mono ?_);(case side1 => repeat (first | exact HR0.out | (with_reducible refine Kd.C_alloc ?_ _) | (with_reducible refine Kd.C_drewN ?_ _) | (with_reducible refine Kd.C_drew ?_)));(case side2 => exact HC0.out);rintro e w11 ⟨v103,rfl,ho0,hb⟩;refine ⟨_,rfl,?_⟩;have n0_ := qq.mk (Kd.S_lower ho0 (zw (by repeat (first | (with_reducible first | exact HB.out | apply qj | apply qz | apply qk) | exact HB.out))));have n1_ := qq.mk (zv (by repeat (first | (with_reducible first | exact HB.out | apply qj | apply qz | apply qk) | exact HB.out)) hb);clear HB;have HO104 := n0_;have HB := n1_;clear n0_ n1_;(try clear hb);(try clear hb2);(try clear hk);(try clear hi);(try clear ho0);obtain ⟨Ao12,co12,eo12⟩ := Kd.S_slice HO104.out;subst eo12) | ((with_reducible refine kj (f := 87) rfl ?_);refine goesL_ (some 26) rfl rfl Try.func87 (by kernel_rfl) rfl #[.slice Ao12 t101.length co12,.int .i64 a1] rfl (by (try simp only [List.map_toArray,List.map_cons,List.map_nil]);first | done | rfl | (simp only [List.length_drop,List.length_take];rfl)) ?_;(with_reducible refine (qzv.calls k _ _ t101 a1 t105 _ ?side1 ?side2 A10.out).mono ?_);(case side1 => repeat (first | exact (Kd.S_reads' HO104.out).2.2 | (with_reducible refine Kd.C_alloc ?_ _) | (with_reducible refine Kd.C_drewN ?_ _) | (with_reducible refine Kd.C_drew ?_)));(case side2 => exact (Kd.S_reads' HO104.out).2.1);rintro e w13 ⟨v106,rfl,ho0,hb⟩;refine ⟨_,rfl,?_⟩;have n0_ := qq.mk (Kd.S_elder' (by (with_reducible repeat (first | apply Kd.vv | apply Kd.vk | apply Kd.vw));exact HO104.out) (Kd.S_base ho0) hb);have n1_ := qq.mk (Kd.S_lower (Kd.S_new' ho0 (Kd.S_lt (by (with_reducible repeat (first | apply Kd.vv | apply Kd.vk | apply Kd.vw));exact HO104.out))) (zw (by repeat (first | (with_reducible first | exact HB.out | apply qj | apply qz | apply qk) | exact HB.out))));have n2_ := qq.mk (zv (by repeat (first | (with_reducible first | exact HB.out | apply qj | apply qz | apply qk) | exact HB.out)) hb);clear HO104;clear HB;have HO104 := n0_;have HO107 := n1_;have HB := n2_;clear n0_ n1_ n2_;(try clear hb);(try clear hb2);(try clear hk);(try clear hi);(try clear ho0)))
    go_ret
    exact ⟨_,by first | rfl | (simp [*,kz,jx] <;> rfl),by (with_reducible repeat (first | apply Kd.vv | apply Kd.vk | apply Kd.vw));exact Kd.S_mono HO107.out (fun _ hk => trivial),by repeat (first | (with_reducible first | exact HB.out | apply qj | apply qz | apply qk) | exact HB.out)⟩
 ·replace c4 := Bool.eq_false_iff.mpr c4
  subst c4
  have H1 : (some ([] : List (List Int))) = some r := by rw [if_neg (show ¬ (false = true) by decide)] at H;exact H
  clear H
  have H := H1
  clear H1
  obtain rfl := Option.some.inj H
  go_enter Try.func40,Try.ntmps40
  go_wp2_with (first | ((with_reducible refine kj (f := 82) rfl ?_);refine goesL_ (some 9) rfl rfl Try.func82 (by kernel_rfl) rfl #[.slice A0 l0.length c0] rfl (by (try simp only [List.map_toArray,List.map_cons,List.map_nil]);first | done | rfl | (simp only [List.length_drop,List.length_take];rfl)) ?_;(with_reducible refine (qzk.calls k _ _ l0 t101 false _ ?side1 ?side2 A3.out).mono ?_);(case side1 => repeat (first | exact HR0.out | (with_reducible refine Kd.C_alloc ?_ _) | (with_reducible refine Kd.C_drewN ?_ _) | (with_reducible refine Kd.C_drew ?_)));(case side2 => exact HC0.out);rintro e w14 ⟨v103,rfl,ho0,hb⟩;refine ⟨_,rfl,?_⟩;have n0_ := qq.mk (Kd.S_lower ho0 (zw (by repeat (first | (with_reducible first | exact HB.out | apply qj | apply qz | apply qk) | exact HB.out))));have n1_ := qq.mk (zv (by repeat (first | (with_reducible first | exact HB.out | apply qj | apply qz | apply qk) | exact HB.out)) hb);clear HB;have HO104 := n0_;have HB := n1_;clear n0_ n1_;(try clear hb);(try clear hb2);(try clear hk);(try clear hi);(try clear ho0)))
  go_ret
  exact ⟨_,by first | rfl | (simp [*,kz,jx] <;> rfl),by first | exact Kd.S_nil _ _ _ _ _ | exact Kd.N_nil _ _ _ _ _ | exact Kd.V_nil _ _ _ _ _ | exact Kd.Q_nil _ _ _ _ _ | exact Kd.R_nil _ _ _ _ _,by repeat (first | (with_reducible first | exact HB.out | apply qj | apply qz | apply qk) | exact HB.out)⟩
def ww (w0 W : World) (g : Nat) (f0 : List Int) (f1 : Int) (f2 : Int) : Prop := ∃ A0 c0,W.heap[g]? = some (.cells #[.slice A0 f0.length c0,.int .i64 f1,.int .u64 f2] 107 (0,0)) ∧ w0.heap.size ≤ g ∧ Kd.C (Kd.int .u8) w0 A0 f0.length f0
theorem ww.grown {w0 W : World} {g : Nat} {f0 : List Int} {f1 : Int} {f2 : Int} {W1 : World} {row : Option Nat} (h : ww w0 W g f0 f1 f2) (hw : W.grownBy W1 row) (hne : some g ≠ row) : ww w0 W1 g f0 f1 f2 := by
 obtain ⟨A0,c0,hb,hg,hr0⟩ := h
 exact ⟨A0,c0,blk_grown hb hw hne,hg,hr0⟩
theorem ww.own_neN {w0 W : World} {g : Nat} {f0 : List Int} {f1 : Int} {f2 : Int} {α : Type} {d : Kd α} {e : Nat} {base : Nat} {ok : Nat → Prop} {v : Value} {xs : List α} (h : ww w0 W g f0 f1 f2) (ho : Kd.N d e W base ok v xs) (ht : e ≠ 107) : some g ≠ v.ownBlock := by
 obtain ⟨A0,c0,hb,hg,hr0⟩ := h
 exact Kd.N_ne ho hb ht
theorem ww.fresh {w0 W : World} {g : Nat} {f0 : List Int} {f1 : Int} {f2 : Int} (h : ww w0 W g f0 f1 f2) : ∀ k,W.heap.size ≤ k → k ≠ g := by
 obtain ⟨A0,c0,hb,hg,hr0⟩ := h
 exact Kd.freshB hb
theorem ww.kept {w0 W : World} {g : Nat} {f0 : List Int} {f1 : Int} {f2 : Int} {W1 : World} {S : Nat → Prop} (h : ww w0 W g f0 f1 f2) (hk : kw W W1 S) (hne : ¬ S g) : ww w0 W1 g f0 f1 f2 := by
 obtain ⟨A0,c0,hb,hg,hr0⟩ := h
 exact ⟨A0,c0,blk_kept hb hk hne,hg,hr0⟩
theorem ww.below {w0 W : World} {g : Nat} {f0 : List Int} {f1 : Int} {f2 : Int} {W1 : World} (h : ww w0 W g f0 f1 f2) (hw : Below W.heap.size W W1) : ww w0 W1 g f0 f1 f2 := h.grown (grown_of_below hw none) (by simp)
theorem ww.alloc {w0 W : World} {g : Nat} {f0 : List Int} {f1 : Int} {f2 : Int} (h : ww w0 W g f0 f1 f2) (o : Obj) : ww w0 (W.alloc o) g f0 f1 f2 := h.below (qj (Below.refl _ _) o)
theorem ww.drewN {w0 W : World} {g : Nat} {f0 : List Int} {f1 : Int} {f2 : Int} (h : ww w0 W g f0 f1 f2) (m : Nat) : ww w0 (W.drewN m) g f0 f1 f2 := h
theorem ww.drew {w0 W : World} {g : Nat} {f0 : List Int} {f1 : Int} {f2 : Int} (h : ww w0 W g f0 f1 f2) : ww w0 W.drew g f0 f1 f2 := h
theorem ww.at_ {w0 W : World} {g : Nat} {f0 : List Int} {f1 : Int} {f2 : Int} {w' : World} {m : Nat} (hq : W.drewN m = w') (h : ww w0 W g f0 f1 f2) : ww w0 w' g f0 f1 f2 := by subst hq;exact ww.drewN h m
theorem ww.apart {w0 W : World} {g : Nat} {f0 : List Int} {f1 : Int} {f2 : Int} {α : Type} {d : Kd α} {e : Nat} {base : Nat} {ok : Nat → Prop} {v : Value} {xs : List α} (h : ww w0 W g f0 f1 f2) (ho : d.R e W base ok v xs) (ht : ∀ q,q ∈ e :: d.E → q ≠ 107) : d.R e W base (fun k => ok k ∧ k ≠ g) v xs := by
 obtain ⟨A0,c0,hb,hg,hr0⟩ := h
 exact Kd.R_types ho hb ht
theorem ww.own_ne {w0 W : World} {g : Nat} {f0 : List Int} {f1 : Int} {f2 : Int} {α : Type} {d : Kd α} {e : Nat} {base : Nat} {ok : Nat → Prop} {v : Value} {xs : List α} (h : ww w0 W g f0 f1 f2) (ho : d.R e W base ok v xs) (ht : e ≠ 107) : some g ≠ v.ownBlock := by
 obtain ⟨A0,c0,hb,hg,hr0⟩ := h
 exact Kd.R_ne ho hb ht
theorem ww.lt {w0 W : World} {g : Nat} {f0 : List Int} {f1 : Int} {f2 : Int} (h : ww w0 W g f0 f1 f2) : g < W.heap.size := by
 obtain ⟨A0,c0,hb,hg,hr0⟩ := h
 exact blk_lt hb
theorem ww.ge {w0 W : World} {g : Nat} {f0 : List Int} {f1 : Int} {f2 : Int} (h : ww w0 W g f0 f1 f2) : w0.heap.size ≤ g := by
 obtain ⟨A0,c0,hb,hg,hr0⟩ := h
 exact hg
theorem ww.far {w0 W : World} {g : Nat} {f0 : List Int} {f1 : Int} {f2 : Int} {p : Addr} (h : ww w0 W g f0 f1 f2) (hne : g ≠ p.block) (u : Value) : ww w0 (W.setCell p u) g f0 f1 f2 := by
 obtain ⟨A0,c0,hb,hg,hr0⟩ := h
 exact ⟨A0,c0,blk_far hb hne u,hg,hr0⟩
theorem cellS107_0 {W : World} {g : Nat} {A0 : Option Addr} {c0 : Nat} {f0 : List Int} {f1 : Int} {f2 : Int} (h : W.heap[g]? = some (.cells #[.slice A0 f0.length c0,.int .i64 f1,.int .u64 f2] 107 (0,0))) : W.cell? ⟨g,0,none⟩ = some (.slice A0 f0.length c0) := (qw h 0).trans rfl
theorem cellS107_1 {W : World} {g : Nat} {A0 : Option Addr} {c0 : Nat} {f0 : List Int} {f1 : Int} {f2 : Int} (h : W.heap[g]? = some (.cells #[.slice A0 f0.length c0,.int .i64 f1,.int .u64 f2] 107 (0,0))) : W.cell? ⟨g,1,none⟩ = some (.int .i64 f1) := (qw h 1).trans rfl
theorem ww.set_1 {w0 W : World} {g : Nat} {f0 : List Int} {f1 : Int} {f2 : Int} (h : ww w0 W g f0 f1 f2) (x : Int) : ww w0 (W.setCell ⟨g,1,none⟩ (.int .i64 x)) g f0 x f2 := by
 obtain ⟨A0,c0,hb,hg,hr0⟩ := h
 exact ⟨A0,c0,by simpa using blk_set hb 1 (.int .i64 x),hg,hr0⟩
theorem cellS107_2 {W : World} {g : Nat} {A0 : Option Addr} {c0 : Nat} {f0 : List Int} {f1 : Int} {f2 : Int} (h : W.heap[g]? = some (.cells #[.slice A0 f0.length c0,.int .i64 f1,.int .u64 f2] 107 (0,0))) : W.cell? ⟨g,2,none⟩ = some (.int .u64 f2) := (qw h 2).trans rfl
theorem ww.set_2 {w0 W : World} {g : Nat} {f0 : List Int} {f1 : Int} {f2 : Int} (h : ww w0 W g f0 f1 f2) (x : Int) : ww w0 (W.setCell ⟨g,2,none⟩ (.int .u64 x)) g f0 f1 x := by
 obtain ⟨A0,c0,hb,hg,hr0⟩ := h
 exact ⟨A0,c0,by simpa using blk_set hb 2 (.int .u64 x),hg,hr0⟩
theorem ww.new (w0 W : World) (A0 : Option Addr) (c0 : Nat) (f0 : List Int) (f1 : Int) (f2 : Int) (hB : Below w0.heap.size w0 W) (hr0 : Kd.C (Kd.int .u8) w0 A0 f0.length f0) : ww w0 (W.alloc (.cells #[.slice A0 f0.length c0,.int .i64 f1,.int .u64 f2] 107)) W.heap.size f0 f1 f2 := ⟨A0,c0,by simpa using heap_alloc_new W _,hB.size,hr0⟩
def newCur.f (l0_0 : List Int) (a0_1 : Int) (a0_2 : Int) : Option (List Int × Int × Int) := some (l0_0,a0_1,a0_2)
set_option maxHeartbeats 8000000 in
set_option maxRecDepth 100000 in
theorem newCur.calls (A0_0 : Option Addr) (c0_0 : Nat) (l0_0 : List Int) (a0_1 : Int) (a0_2 : Int) (r1 : List Int) (r2 : Int) (r3 : Int) (w0 w : World) (hB : Below w0.heap.size w0 w) (hr0_0 : Kd.C (Kd.int .u8) w0 A0_0 l0_0.length l0_0) (hc0_0 : l0_0.length ≤ c0_0) (h : newCur.f l0_0 a0_1 a0_2 = some (r1,r2,r3)) :
  BoxCalls 107 #[.slice A0_0 l0_0.length c0_0,.int .i64 a0_1,.int .u64 a0_2] w fun e w' => ∃ g_ : Nat,e = .returned (.pointer (some ⟨g_,0,none⟩)) ∧ ww w0 w' g_ r1 r2 r3 ∧ Below w0.heap.size w0 w' ∧ Below w.heap.size w w' := by
 unfold newCur.f at h
 simp only [Option.some.injEq,Prod.mk.injEq] at h
 obtain ⟨rfl,rfl,rfl⟩ := h
 exact ⟨_,rfl,ww.new w0 w A0_0 c0_0 l0_0 a0_1 a0_2 hB hr0_0,hB.alloc hB.size _,qj (Below.refl _ _) _⟩
def qkx.f (s0_0 : List Int) (s0_1 : Int) (s0_2 : Int) : Option (Int × Int × Int) := if s0_1 < (s0_0.length : Int) then (if 0 ≤ s0_1 then (if (wrap64 (s0_1 + 1)) ≤ (s0_0.length : Int) then (some (wrap64 (rd s0_0 s0_1),wrap64 (s0_1 + 1),IntKind.u64.wrap ((IntKind.u64.wrap ((IntKind.u64.wrap (s0_2 * 6364136223846793005)) + (IntKind.u64.wrap (wrap64 (rd s0_0 s0_1))))) + 1442695040888963407))) else (some (wrap64 (Go.bits .and .u64 ((IntKind.u64.wrap ((IntKind.u64.wrap ((IntKind.u64.wrap (s0_2 * 6364136223846793005)) + (IntKind.u64.wrap (wrap64 (rd s0_0 s0_1))))) + 1442695040888963407)) / 1099511627776) 255),wrap64 (s0_1 + 1),IntKind.u64.wrap ((IntKind.u64.wrap ((IntKind.u64.wrap (s0_2 * 6364136223846793005)) + (IntKind.u64.wrap (wrap64 (rd s0_0 s0_1))))) + 1442695040888963407)))) else (none)) else (if (wrap64 (s0_1 + 1)) ≤ (s0_0.length : Int) then (some (0,wrap64 (s0_1 + 1),IntKind.u64.wrap ((IntKind.u64.wrap (IntKind.u64.wrap (s0_2 * 6364136223846793005))) + 1442695040888963407))) else (some (wrap64 (Go.bits .and .u64 ((IntKind.u64.wrap ((IntKind.u64.wrap (IntKind.u64.wrap (s0_2 * 6364136223846793005))) + 1442695040888963407)) / 1099511627776) 255),wrap64 (s0_1 + 1),IntKind.u64.wrap ((IntKind.u64.wrap (IntKind.u64.wrap (s0_2 * 6364136223846793005))) + 1442695040888963407))))
set_option maxHeartbeats 8000000 in
set_option maxRecDepth 100000 in
theorem qkx.calls (g : Nat) (s0_0 : List Int) (s0_1 : Int) (s0_2 : Int) (r1 : Int) (r2 : Int) (r3 : Int) (w0 w : World) (hI : ww w0 w g s0_0 s0_1 s0_2) (hB : Below w0.heap.size w0 w) (h : qkx.f s0_0 s0_1 s0_2 = some (r1,r2,r3)) :
  Calls Try.prog 133 #[.pointer (some ⟨g,0,none⟩)] w fun e w' => e = .returned (.int .i64 r1) ∧ ww w0 w' g s0_0 r2 r3 ∧ Below w0.heap.size w0 w' ∧ zk w w' g none := by
 have HI0 := qq.mk hI
 have HK := qq.mk (zk.refl w g none)
 have HL := qq.mk hB.size
 clear hI
 have HW0 := qq.mk hB.size
 have HB := qq.mk hB
 clear hB
 have H : (if s0_1 < (s0_0.length : Int) then (if 0 ≤ s0_1 then (if (wrap64 (s0_1 + 1)) ≤ (s0_0.length : Int) then (some (wrap64 (rd s0_0 s0_1),wrap64 (s0_1 + 1),IntKind.u64.wrap ((IntKind.u64.wrap ((IntKind.u64.wrap (s0_2 * 6364136223846793005)) + (IntKind.u64.wrap (wrap64 (rd s0_0 s0_1))))) + 1442695040888963407))) else (some (wrap64 (Go.bits .and .u64 ((IntKind.u64.wrap ((IntKind.u64.wrap ((IntKind.u64.wrap (s0_2 * 6364136223846793005)) + (IntKind.u64.wrap (wrap64 (rd s0_0 s0_1))))) + 1442695040888963407)) / 1099511627776) 255),wrap64 (s0_1 + 1),IntKind.u64.wrap ((IntKind.u64.wrap ((IntKind.u64.wrap (s0_2 * 6364136223846793005)) + (IntKind.u64.wrap (wrap64 (rd s0_0 s0_1))))) + 1442695040888963407)))) else (none)) else (if (wrap64 (s0_1 + 1)) ≤ (s0_0.length : Int) then (some (0,wrap64 (s0_1 + 1),IntKind.u64.wrap ((IntKind.u64.wrap (IntKind.u64.wrap (s0_2 * 6364136223846793005))) + 1442695040888963407))) else (some (wrap64 (Go.bits .and .u64 ((IntKind.u64.wrap ((IntKind.u64.wrap (IntKind.u64.wrap (s0_2 * 6364136223846793005))) + 1442695040888963407)) / 1099511627776) 255),wrap64 (s0_1 + 1),IntKind.u64.wrap ((IntKind.u64.wrap (IntKind.u64.wrap (s0_2 * 6364136223846793005))) + 1442695040888963407))))) = some (r1,r2,r3) := h
 clear h
 by_cases c2 : s0_1 < (s0_0.length : Int)
 ·rw [if_pos c2] at H
  have c2b0 : decide (s0_1 < (s0_0.length : Int)) = true := decide_eq_true c2
  clear c2
  by_cases c3 : 0 ≤ s0_1
  ·rw [if_pos c3] at H
   have c3b0 : decide (0 ≤ s0_1) = true := decide_eq_true c3
   clear c3
   by_cases c4 : (wrap64 (s0_1 + 1)) ≤ (s0_0.length : Int)
   ·rw [if_pos c4] at H
    have c4b0 : decide ((wrap64 (s0_1 + 1)) ≤ (s0_0.length : Int)) = true := decide_eq_true c4
    clear c4
    simp only [Option.some.injEq,Prod.mk.injEq] at H
    obtain ⟨rfl,rfl,rfl⟩ := H
    obtain ⟨ASz5_0,cSz5_0,HGz5,hgz5,HSz5_0⟩ := HI0.out
    have hcz5_0 := cellS107_0 HGz5
    have hcz5_1 := cellS107_1 HGz5
    have hcz5_2 := cellS107_2 HGz5
    have hfz5_1 := qv HGz5 1
    have hfz5_2 := qv HGz5 2
    clear HGz5 hgz5
    have p101 : 0 ≤ (s0_1 : Int) := of_decide_eq_true (by assumption)
    have q101 : s0_1 < (s0_0.length : Int) := of_decide_eq_true (by assumption)
    obtain ⟨ad101,e101,hx101_0⟩ := Kd.at_int HSz5_0 s0_1 p101 q101
    cases e101
    replace hx101_0 := pw_cell_below HB.out hx101_0
    replace p101 := eq_true p101
    replace q101 := eq_true q101
    go_enter Try.func133,Try.ntmps133
    go_wp2
    repeat (go_quiet (fail);try go_wp2)
    go_ret
    exact ⟨by first | rfl | (simp [*,kz,jx] <;> rfl),by repeat (first | (with_reducible first | exact HI0.out | apply ww.alloc | apply ww.drewN | apply ww.drew | apply ww.set_1 | apply ww.set_2) | exact HI0.out),by repeat (first | (with_reducible first | exact HB.out | apply qj | apply qz | apply qk | refine qx ?_ (ww.ge HI0.out)) | exact HB.out),by repeat (first | (with_reducible first | exact HK.out | apply zk.set_ | apply jj | apply jv | apply jk) | exact HK.out)⟩
   ·rw [if_neg c4] at H
    have c4b0 : decide ((wrap64 (s0_1 + 1)) ≤ (s0_0.length : Int)) = false := decide_eq_false c4
    clear c4
    simp only [Option.some.injEq,Prod.mk.injEq] at H
    obtain ⟨rfl,rfl,rfl⟩ := H
    obtain ⟨ASz6_0,cSz6_0,HGz6,hgz6,HSz6_0⟩ := HI0.out
    have hcz6_0 := cellS107_0 HGz6
    have hcz6_1 := cellS107_1 HGz6
    have hcz6_2 := cellS107_2 HGz6
    have hfz6_1 := qv HGz6 1
    have hfz6_2 := qv HGz6 2
    clear HGz6 hgz6
    have p101 : 0 ≤ (s0_1 : Int) := of_decide_eq_true (by assumption)
    have q101 : s0_1 < (s0_0.length : Int) := of_decide_eq_true (by assumption)
    obtain ⟨ad101,e101,hx101_0⟩ := Kd.at_int HSz6_0 s0_1 p101 q101
    cases e101
    replace hx101_0 := pw_cell_below HB.out hx101_0
    replace p101 := eq_true p101
    replace q101 := eq_true q101
    go_enter Try.func133,Try.ntmps133
    go_wp2
    repeat (go_quiet (fail);try go_wp2)
    go_ret
    exact ⟨by first | rfl | (simp [*,kz,jx] <;> rfl),by repeat (first | (with_reducible first | exact HI0.out | apply ww.alloc | apply ww.drewN | apply ww.drew | apply ww.set_1 | apply ww.set_2) | exact HI0.out),by repeat (first | (with_reducible first | exact HB.out | apply qj | apply qz | apply qk | refine qx ?_ (ww.ge HI0.out)) | exact HB.out),by repeat (first | (with_reducible first | exact HK.out | apply zk.set_ | apply jj | apply jv | apply jk) | exact HK.out)⟩
  ·rw [if_neg c3] at H
   exact absurd H (by simp)
 ·rw [if_neg c2] at H
  have c2b0 : decide (s0_1 < (s0_0.length : Int)) = false := decide_eq_false c2
  clear c2
  by_cases c7 : (wrap64 (s0_1 + 1)) ≤ (s0_0.length : Int)
  ·rw [if_pos c7] at H
   have c7b0 : decide ((wrap64 (s0_1 + 1)) ≤ (s0_0.length : Int)) = true := decide_eq_true c7
   clear c7
   simp only [Option.some.injEq,Prod.mk.injEq] at H
   obtain ⟨rfl,rfl,rfl⟩ := H
   obtain ⟨ASz8_0,cSz8_0,HGz8,hgz8,HSz8_0⟩ := HI0.out
   have hcz8_0 := cellS107_0 HGz8
   have hcz8_1 := cellS107_1 HGz8
   have hcz8_2 := cellS107_2 HGz8
   have hfz8_1 := qv HGz8 1
   have hfz8_2 := qv HGz8 2
   clear HGz8 hgz8
   go_enter Try.func133,Try.ntmps133
   go_wp2
   repeat (go_quiet (fail);try go_wp2)
   go_ret
   exact ⟨by first | rfl | (simp [*,kz,jx] <;> rfl),by repeat (first | (with_reducible first | exact HI0.out | apply ww.alloc | apply ww.drewN | apply ww.drew | apply ww.set_1 | apply ww.set_2) | exact HI0.out),by repeat (first | (with_reducible first | exact HB.out | apply qj | apply qz | apply qk | refine qx ?_ (ww.ge HI0.out)) | exact HB.out),by repeat (first | (with_reducible first | exact HK.out | apply zk.set_ | apply jj | apply jv | apply jk) | exact HK.out)⟩
  ·rw [if_neg c7] at H
   have c7b0 : decide ((wrap64 (s0_1 + 1)) ≤ (s0_0.length : Int)) = false := decide_eq_false c7
   clear c7
   simp only [Option.some.injEq,Prod.mk.injEq] at H
   obtain ⟨rfl,rfl,rfl⟩ := H
   obtain ⟨ASz9_0,cSz9_0,HGz9,hgz9,HSz9_0⟩ := HI0.out
   have hcz9_0 := cellS107_0 HGz9
   have hcz9_1 := cellS107_1 HGz9
   have hcz9_2 := cellS107_2 HGz9
   have hfz9_1 := qv HGz9 1
   have hfz9_2 := qv HGz9 2
   clear HGz9 hgz9
   go_enter Try.func133,Try.ntmps133
   go_wp2
   repeat (go_quiet (fail);try go_wp2)
   go_ret
   exact ⟨by first | rfl | (simp [*,kz,jx] <;> rfl),by repeat (first | (with_reducible first | exact HI0.out | apply ww.alloc | apply ww.drewN | apply ww.drew | apply ww.set_1 | apply ww.set_2) | exact HI0.out),by repeat (first | (with_reducible first | exact HB.out | apply qj | apply qz | apply qk | refine qx ?_ (ww.ge HI0.out)) | exact HB.out),by repeat (first | (with_reducible first | exact HK.out | apply zk.set_ | apply jj | apply jv | apply jk) | exact HK.out)⟩
def qvk.f (s0_0 : List Int) (s0_1 : Int) (s0_2 : Int) (a1 : Int) : Option (Int × Int × Int) := if a1 ≤ 1 then (some (0,s0_1,s0_2)) else ((qkx.f s0_0 s0_1 s0_2).bind fun bt101 => (if a1 > 200 then ((qkx.f s0_0 bt101.2.1 bt101.2.2).bind fun bt104 => (if a1 = 0 then (none) else (some (Int.tmod (wrap64 ((wrap64 (bt101.1 * 256)) + bt104.1)) a1,bt104.2.1,bt104.2.2)))) else (if a1 = 0 then (none) else (some (Int.tmod bt101.1 a1,bt101.2.1,bt101.2.2)))))
set_option maxHeartbeats 8000000 in
set_option maxRecDepth 100000 in
theorem qvk.calls (g : Nat) (s0_0 : List Int) (s0_1 : Int) (s0_2 : Int) (a1 : Int) (r1 : Int) (r2 : Int) (r3 : Int) (w0 w : World) (hI : ww w0 w g s0_0 s0_1 s0_2) (hB : Below w0.heap.size w0 w) (h : qvk.f s0_0 s0_1 s0_2 a1 = some (r1,r2,r3)) :
  Calls Try.prog 109 #[.pointer (some ⟨g,0,none⟩),.int .i64 a1] w fun e w' => e = .returned (.int .i64 r1) ∧ ww w0 w' g s0_0 r2 r3 ∧ Below w0.heap.size w0 w' ∧ zk w w' g none := by
 have HI0 := qq.mk hI
 have HK := qq.mk (zk.refl w g none)
 have HL := qq.mk hB.size
 clear hI
 have HW0 := qq.mk hB.size
 have HB := qq.mk hB
 clear hB
 have H : (if a1 ≤ 1 then (some (0,s0_1,s0_2)) else ((qkx.f s0_0 s0_1 s0_2).bind fun bt101 => (if a1 > 200 then ((qkx.f s0_0 bt101.2.1 bt101.2.2).bind fun bt104 => (if a1 = 0 then (none) else (some (Int.tmod (wrap64 ((wrap64 (bt101.1 * 256)) + bt104.1)) a1,bt104.2.1,bt104.2.2)))) else (if a1 = 0 then (none) else (some (Int.tmod bt101.1 a1,bt101.2.1,bt101.2.2)))))) = some (r1,r2,r3) := h
 clear h
 by_cases c3 : a1 ≤ 1
 ·rw [if_pos c3] at H
  have c3b0 : decide (a1 ≤ 1) = true := decide_eq_true c3
  clear c3
  simp only [Option.some.injEq,Prod.mk.injEq] at H
  obtain ⟨rfl,rfl,rfl⟩ := H
  go_enter Try.func109,Try.ntmps109
  go_wp2
  go_ret
  exact ⟨by first | rfl | (simp [*,kz,jx] <;> rfl),by repeat (first | (with_reducible first | exact HI0.out | apply ww.alloc | apply ww.drewN | apply ww.drew | apply ww.set_1 | apply ww.set_2) | exact HI0.out),by repeat (first | (with_reducible first | exact HB.out | apply qj | apply qz | apply qk | refine qx ?_ (ww.ge HI0.out)) | exact HB.out),by repeat (first | (with_reducible first | exact HK.out | apply zk.set_ | apply jj | apply jv | apply jk) | exact HK.out)⟩
 ·rw [if_neg c3] at H
  have c3b0 : decide (a1 ≤ 1) = false := decide_eq_false c3
  clear c3
  replace H := Option.bind_eq_some_iff.mp H
  obtain ⟨⟨t101,t102,t103⟩,A40,H⟩ := H
  replace H : (if a1 > 200 then ((qkx.f s0_0 t102 t103).bind fun bt104 => (if a1 = 0 then (none) else (some (Int.tmod (wrap64 ((wrap64 (t101 * 256)) + bt104.1)) a1,bt104.2.1,bt104.2.2)))) else (if a1 = 0 then (none) else (some (Int.tmod t101 a1,t102,t103)))) = some (r1,r2,r3) := H
  have A4 := qq.mk A40
  clear A40
  by_cases c5 : a1 > 200
  ·rw [if_pos c5] at H
   have c5b0 : decide (200 < a1) = true := decide_eq_true c5
   clear c5
   replace H := Option.bind_eq_some_iff.mp H
   obtain ⟨⟨t104,t105,t106⟩,A60,H⟩ := H
   replace H : (if a1 = 0 then (none) else (some (Int.tmod (wrap64 ((wrap64 (t101 * 256)) + t104)) a1,t105,t106))) = some (r1,r2,r3) := H
   have A6 := qq.mk A60
   clear A60
   by_cases c7 : a1 = 0
   ·rw [if_pos c7] at H
    exact absurd H (by simp)
   ·rw [if_neg c7] at H
    have c7b0 : (a1 == 0) = false := beq_eq_false_iff_ne.mpr c7
    have c7b1 : (a1 != 0) = true := bne_iff_ne.mpr c7
    simp only [Option.some.injEq,Prod.mk.injEq] at H
    obtain ⟨rfl,rfl,rfl⟩ := H
    go_enter Try.func109,Try.ntmps109
    go_wp2_with (first | ((with_reducible refine kj (f := 133) rfl ?_);refine goesL_ (some 9) rfl rfl Try.func133 (by kernel_rfl) rfl #[.pointer (some ⟨g,0,none⟩)] rfl (by (try simp only [List.map_toArray,List.map_cons,List.map_nil]);first | done | rfl | (simp only [List.length_drop,List.length_take];rfl)) ?_;(with_reducible refine (qkx.calls g s0_0 s0_1 s0_2 t101 t102 t103 w0 _ ?side1 ?side2 A4.out).mono ?_);(case side1 => repeat (first | (with_reducible first | exact HI0.out | apply ww.alloc | apply ww.drewN | apply ww.drew | apply ww.set_1 | apply ww.set_2) | exact HI0.out));(case side2 => repeat (first | (with_reducible first | exact HB.out | apply qj | apply qz | apply qk | refine qx ?_ (ww.ge HI0.out)) | exact HB.out));rintro e w8 ⟨rfl,hi,hb,hk⟩;refine ⟨_,rfl,?_⟩;have n0_ := qq.mk (zk.trans (by repeat (first | (with_reducible first | exact HK.out | apply zk.set_ | apply jj | apply jv | apply jk) | exact HK.out)) hk (.inl rfl));have n1_ := qq.mk (hb);have n2_ := qq.mk (hi);clear HK;clear HB;clear HI0;have HK := n0_;have HB := n1_;have HI0 := n2_;clear n0_ n1_ n2_;(try clear hb);(try clear hb2);(try clear hk);(try clear hi)) | ((with_reducible refine kj (f := 133) rfl ?_);refine goesL_ (some 15) rfl rfl Try.func133 (by kernel_rfl) rfl #[.pointer (some ⟨g,0,none⟩)] rfl (by (try simp only [List.map_toArray,List.map_cons,List.map_nil]);first | done | rfl | (simp only [List.length_drop,List.length_take];rfl)) ?_;(with_reducible refine (qkx.calls g s0_0 t102 t103 t104 t105 t106 w0 _ ?side1 ?side2 A6.out).mono ?_);(case side1 => repeat (first | (with_reducible first | exact HI0.out | apply ww.alloc | apply ww.drewN | apply ww.drew | apply ww.set_1 | apply ww.set_2) | exact HI0.out));(case side2 => repeat (first | (with_reducible first | exact HB.out | apply qj | apply qz | apply qk | refine qx ?_ (ww.ge HI0.out)) | exact HB.out));rintro e w9 ⟨rfl,hi,hb,hk⟩;refine ⟨_,rfl,?_⟩;have n0_ := qq.mk (zk.trans (by repeat (first | (with_reducible first | exact HK.out | apply zk.set_ | apply jj | apply jv | apply jk) | exact HK.out)) hk (.inl rfl));have n1_ := qq.mk (hb);have n2_ := qq.mk (hi);clear HK;clear HB;clear HI0;have HK := n0_;have HB := n1_;have HI0 := n2_;clear n0_ n1_ n2_;(try clear hb);(try clear hb2);(try clear hk);(try clear hi)))
    go_ret
    exact ⟨by first | rfl | (simp [*,kz,jx] <;> rfl),by repeat (first | (with_reducible first | exact HI0.out | apply ww.alloc | apply ww.drewN | apply ww.drew | apply ww.set_1 | apply ww.set_2) | exact HI0.out),by repeat (first | (with_reducible first | exact HB.out | apply qj | apply qz | apply qk | refine qx ?_ (ww.ge HI0.out)) | exact HB.out),by repeat (first | (with_reducible first | exact HK.out | apply zk.set_ | apply jj | apply jv | apply jk) | exact HK.out)⟩
  ·rw [if_neg c5] at H
   have c5b0 : decide (200 < a1) = false := decide_eq_false c5
   clear c5
   by_cases c10 : a1 = 0
   ·rw [if_pos c10] at H
    exact absurd H (by simp)
   ·rw [if_neg c10] at H
    have c10b0 : (a1 == 0) = false := beq_eq_false_iff_ne.mpr c10
    have c10b1 : (a1 != 0) = true := bne_iff_ne.mpr c10
    simp only [Option.some.injEq,Prod.mk.injEq] at H
    obtain ⟨rfl,rfl,rfl⟩ := H
    go_enter Try.func109,Try.ntmps109
    go_wp2_with (first | ((with_reducible refine kj (f := 133) rfl ?_);refine goesL_ (some 9) rfl rfl Try.func133 (by kernel_rfl) rfl #[.pointer (some ⟨g,0,none⟩)] rfl (by (try simp only [List.map_toArray,List.map_cons,List.map_nil]);first | done | rfl | (simp only [List.length_drop,List.length_take];rfl)) ?_;(with_reducible refine (qkx.calls g s0_0 s0_1 s0_2 t101 t102 t103 w0 _ ?side1 ?side2 A4.out).mono ?_);(case side1 => repeat (first | (with_reducible first | exact HI0.out | apply ww.alloc | apply ww.drewN | apply ww.drew | apply ww.set_1 | apply ww.set_2) | exact HI0.out));(case side2 => repeat (first | (with_reducible first | exact HB.out | apply qj | apply qz | apply qk | refine qx ?_ (ww.ge HI0.out)) | exact HB.out));rintro e w11 ⟨rfl,hi,hb,hk⟩;refine ⟨_,rfl,?_⟩;have n0_ := qq.mk (zk.trans (by repeat (first | (with_reducible first | exact HK.out | apply zk.set_ | apply jj | apply jv | apply jk) | exact HK.out)) hk (.inl rfl));have n1_ := qq.mk (hb);have n2_ := qq.mk (hi);clear HK;clear HB;clear HI0;have HK := n0_;have HB := n1_;have HI0 := n2_;clear n0_ n1_ n2_;(try clear hb);(try clear hb2);(try clear hk);(try clear hi)))
    go_ret
    exact ⟨by first | rfl | (simp [*,kz,jx] <;> rfl),by repeat (first | (with_reducible first | exact HI0.out | apply ww.alloc | apply ww.drewN | apply ww.drew | apply ww.set_1 | apply ww.set_2) | exact HI0.out),by repeat (first | (with_reducible first | exact HB.out | apply qj | apply qz | apply qk | refine qx ?_ (ww.ge HI0.out)) | exact HB.out),by repeat (first | (with_reducible first | exact HK.out | apply zk.set_ | apply jj | apply jv | apply jk) | exact HK.out)⟩
def qvj.f (s0_0 : List Int) (s0_1 : Int) (s0_2 : Int) (a1 : Int) : Option (Bool × Int × Int) := (qvk.f s0_0 s0_1 s0_2 a1).bind fun bt101 => (some ((bt101.1 == 0),bt101.2.1,bt101.2.2))
set_option maxHeartbeats 8000000 in
set_option maxRecDepth 100000 in
theorem qvj.calls (g : Nat) (s0_0 : List Int) (s0_1 : Int) (s0_2 : Int) (a1 : Int) (r1 : Bool) (r2 : Int) (r3 : Int) (w0 w : World) (hI : ww w0 w g s0_0 s0_1 s0_2) (hB : Below w0.heap.size w0 w) (h : qvj.f s0_0 s0_1 s0_2 a1 = some (r1,r2,r3)) :
  Calls Try.prog 131 #[.pointer (some ⟨g,0,none⟩),.int .i64 a1] w fun e w' => e = .returned (.bool r1) ∧ ww w0 w' g s0_0 r2 r3 ∧ Below w0.heap.size w0 w' ∧ zk w w' g none := by
 have HI0 := qq.mk hI
 have HK := qq.mk (zk.refl w g none)
 have HL := qq.mk hB.size
 clear hI
 have HW0 := qq.mk hB.size
 have HB := qq.mk hB
 clear hB
 have H : ((qvk.f s0_0 s0_1 s0_2 a1).bind fun bt101 => (some ((bt101.1 == 0),bt101.2.1,bt101.2.2))) = some (r1,r2,r3) := h
 clear h
 replace H := Option.bind_eq_some_iff.mp H
 obtain ⟨⟨t101,t102,t103⟩,A30,H⟩ := H
 replace H : (some ((t101 == 0),t102,t103)) = some (r1,r2,r3) := H
 have A3 := qq.mk A30
 clear A30
 simp only [Option.some.injEq,Prod.mk.injEq] at H
 obtain ⟨rfl,rfl,rfl⟩ := H
 go_enter Try.func131,Try.ntmps131
 go_wp2_with (first | ((with_reducible refine kj (f := 109) rfl ?_);refine goesL_ (some 7) rfl rfl Try.func109 (by kernel_rfl) rfl #[.pointer (some ⟨g,0,none⟩),.int .i64 a1] rfl (by (try simp only [List.map_toArray,List.map_cons,List.map_nil]);first | done | rfl | (simp only [List.length_drop,List.length_take];rfl)) ?_;(with_reducible refine (qvk.calls g s0_0 s0_1 s0_2 a1 t101 t102 t103 w0 _ ?side1 ?side2 A3.out).mono ?_);(case side1 => repeat (first | (with_reducible first | exact HI0.out | apply ww.alloc | apply ww.drewN | apply ww.drew | apply ww.set_1 | apply ww.set_2) | exact HI0.out));(case side2 => repeat (first | (with_reducible first | exact HB.out | apply qj | apply qz | apply qk | refine qx ?_ (ww.ge HI0.out)) | exact HB.out));rintro e w4 ⟨rfl,hi,hb,hk⟩;refine ⟨_,rfl,?_⟩;have n0_ := qq.mk (zk.trans (by repeat (first | (with_reducible first | exact HK.out | apply zk.set_ | apply jj | apply jv | apply jk) | exact HK.out)) hk (.inl rfl));have n1_ := qq.mk (hb);have n2_ := qq.mk (hi);clear HK;clear HB;clear HI0;have HK := n0_;have HB := n1_;have HI0 := n2_;clear n0_ n1_ n2_;(try clear hb);(try clear hb2);(try clear hk);(try clear hi)))
 go_ret
 exact ⟨by first | rfl | (simp [*,kz,jx] <;> rfl),by repeat (first | (with_reducible first | exact HI0.out | apply ww.alloc | apply ww.drewN | apply ww.drew | apply ww.set_1 | apply ww.set_2) | exact HI0.out),by repeat (first | (with_reducible first | exact HB.out | apply qj | apply qz | apply qk | refine qx ?_ (ww.ge HI0.out)) | exact HB.out),by repeat (first | (with_reducible first | exact HK.out | apply zk.set_ | apply jj | apply jv | apply jk) | exact HK.out)⟩
def qvz.f (s0_0 : List Int) (s0_1 : Int) (s0_2 : Int) (l1 : List ByteArray) : Option (ByteArray × Int × Int) := (qvk.f s0_0 s0_1 s0_2 (l1.length : Int)).bind fun bt101 => (if 0 ≤ bt101.1 then (if bt101.1 < (l1.length : Int) then (some (rdOf ByteArray.empty l1 bt101.1,bt101.2.1,bt101.2.2)) else (none)) else (none))
set_option maxHeartbeats 8000000 in
set_option maxRecDepth 100000 in
theorem qvz.calls (g : Nat) (s0_0 : List Int) (s0_1 : Int) (s0_2 : Int) (A1 : Option Addr) (c1 : Nat) (l1 : List ByteArray) (r1 : ByteArray) (r2 : Int) (r3 : Int) (w0 w : World) (hI : ww w0 w g s0_0 s0_1 s0_2) (hB : Below w0.heap.size w0 w) (hr1 : Kd.C Kd.string w A1 l1.length l1) (hc1 : l1.length ≤ c1) (hf1 : ∀ ad,A1 = some ad → 0 < l1.length → ad.block ≠ g) (h : qvz.f s0_0 s0_1 s0_2 l1 = some (r1,r2,r3)) :
  Calls Try.prog 134 #[.pointer (some ⟨g,0,none⟩),.slice A1 l1.length c1] w fun e w' => e = .returned (.string r1) ∧ ww w0 w' g s0_0 r2 r3 ∧ Below w0.heap.size w0 w' ∧ zk w w' g none := by
 have HR1 := qq.mk hr1
 have HC1 := qq.mk hc1
 clear hr1 hc1
 have HI0 := qq.mk hI
 have HK := qq.mk (zk.refl w g none)
 have HL := qq.mk hB.size
 clear hI
 have HW0 := qq.mk hB.size
 have HB := qq.mk hB
 clear hB
 have H : ((qvk.f s0_0 s0_1 s0_2 (l1.length : Int)).bind fun bt101 => (if 0 ≤ bt101.1 then (if bt101.1 < (l1.length : Int) then (some (rdOf ByteArray.empty l1 bt101.1,bt101.2.1,bt101.2.2)) else (none)) else (none))) = some (r1,r2,r3) := h
 clear h
 replace H := Option.bind_eq_some_iff.mp H
 obtain ⟨⟨t101,t102,t103⟩,A30,H⟩ := H
 replace H : (if 0 ≤ t101 then (if t101 < (l1.length : Int) then (some (rdOf ByteArray.empty l1 t101,t102,t103)) else (none)) else (none)) = some (r1,r2,r3) := H
 have A3 := qq.mk A30
 clear A30
 by_cases c4 : 0 ≤ t101
 ·rw [if_pos c4] at H
  have c4b0 : decide (0 ≤ t101) = true := decide_eq_true c4
  clear c4
  by_cases c5 : t101 < (l1.length : Int)
  ·rw [if_pos c5] at H
   have c5b0 : decide (t101 < (l1.length : Int)) = true := decide_eq_true c5
   clear c5
   simp only [Option.some.injEq,Prod.mk.injEq] at H
   obtain ⟨rfl,rfl,rfl⟩ := H
   go_enter Try.func134,Try.ntmps134
   go_wp2_with (first | ((with_reducible refine kj (f := 109) rfl ?_);refine goesL_ (some 9) rfl rfl Try.func109 (by kernel_rfl) rfl #[.pointer (some ⟨g,0,none⟩),.int .i64 (l1.length : Int)] rfl (by (try simp only [List.map_toArray,List.map_cons,List.map_nil]);first | done | rfl | (simp only [List.length_drop,List.length_take];rfl)) ?_;(with_reducible refine (qvk.calls g s0_0 s0_1 s0_2 (l1.length : Int) t101 t102 t103 w0 _ ?side1 ?side2 A3.out).mono ?_);(case side1 => repeat (first | (with_reducible first | exact HI0.out | apply ww.alloc | apply ww.drewN | apply ww.drew | apply ww.set_1 | apply ww.set_2) | exact HI0.out));(case side2 => repeat (first | (with_reducible first | exact HB.out | apply qj | apply qz | apply qk | refine qx ?_ (ww.ge HI0.out)) | exact HB.out));rintro e w6 ⟨rfl,hi,hb,hk⟩;refine ⟨_,rfl,?_⟩;have n0_ := qq.mk (zk.trans (by repeat (first | (with_reducible first | exact HK.out | apply zk.set_ | apply jj | apply jv | apply jk) | exact HK.out)) hk (.inl rfl));have n1_ := qq.mk (hb);have n2_ := qq.mk (hi);clear HK;clear HB;clear HI0;have HK := n0_;have HB := n1_;have HI0 := n2_;clear n0_ n1_ n2_;(try clear hb);(try clear hb2);(try clear hk);(try clear hi);have p104 : 0 ≤ (t101 : Int) := of_decide_eq_true (by assumption);have q104 : t101 < (l1.length : Int) := of_decide_eq_true (by assumption);obtain ⟨ad104,e104,hx104_0⟩ := Kd.at_string HR1.out t101 p104 q104;cases e104;replace hx104_0 := keep_cell HK.out hx104_0 (by first | (rw [add_block];exact hf1 _ rfl (by omega)) | exact hf1 _ rfl (by omega) | exact hf1 ad104 rfl (by omega));replace p104 := eq_true p104;replace q104 := eq_true q104))
   go_ret
   exact ⟨by first | rfl | (simp [*,kz,jx] <;> rfl),by repeat (first | (with_reducible first | exact HI0.out | apply ww.alloc | apply ww.drewN | apply ww.drew | apply ww.set_1 | apply ww.set_2) | exact HI0.out),by repeat (first | (with_reducible first | exact HB.out | apply qj | apply qz | apply qk | refine qx ?_ (ww.ge HI0.out)) | exact HB.out),by repeat (first | (with_reducible first | exact HK.out | apply zk.set_ | apply jj | apply jv | apply jk) | exact HK.out)⟩
  ·rw [if_neg c5] at H
   exact absurd H (by simp)
 ·rw [if_neg c4] at H
  exact absurd H (by simp)
def qkj.l0 : Nat → List Int → Int → List Int → Int → Int → Option (List Int × Int × Int)
 | 0,_,_,_,_,_ => none
 | k + 1,x5,x6,x1000,x1001,x1002 => if x6 > 0 then ((qkx.f x1000 x1001 x1002).bind fun bt104 => (if x5.length < 140737488355328 then (qkj.l0 k (x5 ++ [(bt104.1) % 256]) (wrap64 (x6 - 1)) x1000 bt104.2.1 bt104.2.2) else (none))) else (some (x5,x1001,x1002))
def qkj.f (k : Nat) (s0_0 : List Int) (s0_1 : Int) (s0_2 : Int) (a1 : Int) : Option (List Int × Int × Int) := (qvk.f s0_0 s0_1 s0_2 a1).bind fun bt101 => (qkj.l0 k ([] : List Int) bt101.1 s0_0 bt101.2.1 bt101.2.2)
set_option maxHeartbeats 8000000 in
set_option maxRecDepth 100000 in
theorem qkj.calls (k : Nat) (g : Nat) (s0_0 : List Int) (s0_1 : Int) (s0_2 : Int) (a1 : Int) (r1 : List Int) (r2 : Int) (r3 : Int) (w0 w : World) (hI : ww w0 w g s0_0 s0_1 s0_2) (hB : Below w0.heap.size w0 w) (h : qkj.f k s0_0 s0_1 s0_2 a1 = some (r1,r2,r3)) :
  Calls Try.prog 135 #[.pointer (some ⟨g,0,none⟩),.int .i64 a1] w fun e w' => ∃ v0_ : Value,e = .returned (v0_) ∧ Kd.R (Kd.int .u8) 5 w' w.heap.size (fun _ => True) v0_ r1 ∧ ww w0 w' g s0_0 r2 r3 ∧ Below w0.heap.size w0 w' ∧ zk w w' g none := by
 have HI0 := qq.mk hI
 have HK := qq.mk (zk.refl w g none)
 have HL := qq.mk hB.size
 clear hI
 have HW0 := qq.mk hB.size
 have HB := qq.mk hB
 clear hB
 have H : ((qvk.f s0_0 s0_1 s0_2 a1).bind fun bt101 => (qkj.l0 k ([] : List Int) bt101.1 s0_0 bt101.2.1 bt101.2.2)) = some (r1,r2,r3) := h
 clear h
 replace H := Option.bind_eq_some_iff.mp H
 obtain ⟨⟨t101,t102,t103⟩,A30,H⟩ := H
 replace H : (qkj.l0 k ([] : List Int) t101 s0_0 t102 t103) = some (r1,r2,r3) := H
 have A3 := qq.mk A30
 clear A30
 have H' := qq.mk H
 clear H
 go_enter Try.func135,Try.ntmps135
 go_wp2_with (first | ((with_reducible refine kj (f := 109) rfl ?_);refine goesL_ (some 9) rfl rfl Try.func109 (by kernel_rfl) rfl #[.pointer (some ⟨g,0,none⟩),.int .i64 a1] rfl (by (try simp only [List.map_toArray,List.map_cons,List.map_nil]);first | done | rfl | (simp only [List.length_drop,List.length_take];rfl)) ?_;(with_reducible refine (qvk.calls g s0_0 s0_1 s0_2 a1 t101 t102 t103 w0 _ ?side1 ?side2 A3.out).mono ?_);(case side1 => repeat (first | (with_reducible first | exact HI0.out | apply ww.alloc | apply ww.drewN | apply ww.drew | apply ww.set_1 | apply ww.set_2) | exact HI0.out));(case side2 => repeat (first | (with_reducible first | exact HB.out | apply qj | apply qz | apply qk | refine qx ?_ (ww.ge HI0.out)) | exact HB.out));rintro e w4 ⟨rfl,hi,hb,hk⟩;refine ⟨_,rfl,?_⟩;have n0_ := qq.mk (zk.trans (by repeat (first | (with_reducible first | exact HK.out | apply zk.set_ | apply jj | apply jv | apply jk) | exact HK.out)) hk (.inl rfl));have n1_ := qq.mk (hb);have n2_ := qq.mk (hi);clear HK;clear HB;clear HI0;have HK := n0_;have HB := n1_;have HI0 := n2_;clear n0_ n1_ n2_;(try clear hb);(try clear hb2);(try clear hk);(try clear hi)))
 go_loopg [5,6] k (fun kq v5 v6 w' => ∃ (x5_1 : List Int) (x6_1 : Int) (x1001_1 : Int) (x1002_1 : Int),v6 = .int .i64 x6_1 ∧ qq (qkj.l0 kq x5_1 x6_1 s0_0 x1001_1 x1002_1 = some (r1,r2,r3)) ∧ qq (kq ≤ k) ∧ qq (Kd.R (Kd.int .u8) 5 w' w.heap.size (fun _ => True) v5 x5_1) ∧ qq (ww w0 w' g s0_0 x1001_1 x1002_1) ∧ qq (zk w w' g none) ∧ qq (Below w0.heap.size w0 w'))
 case atStart => exact ⟨(([] : List Int)),(t101),(t102),(t103),(by first | rfl | (simp;done) | (simp [*];done)),H',⟨Nat.le_refl _⟩,⟨by first | exact Kd.R_nil _ _ _ _ _ | exact Kd.N_nil _ _ _ _ _ | exact Kd.V_nil _ _ _ _ _ | exact Kd.Q_nil _ _ _ _ _ | exact Kd.S_nil _ _ _ _ _⟩,⟨by repeat (first | (with_reducible first | exact HI0.out | apply ww.alloc | apply ww.drewN | apply ww.drew | apply ww.set_1 | apply ww.set_2) | exact HI0.out)⟩,⟨by repeat (first | (with_reducible first | exact HK.out | apply zk.set_ | apply jj | apply jv | apply jk) | exact HK.out)⟩,⟨by repeat (first | (with_reducible first | exact HB.out | apply qj | apply qz | apply qk | refine qx ?_ (ww.ge HI0.out)) | exact HB.out)⟩⟩
 case round =>
  clear H'
  try clear c1
  try clear p2
  obtain ⟨x5_1,x6_1,x1001_1,x1002_1,rfl,HA,HK1,HO_5,HI0,HK,HB⟩ := hrel
  cases gk with
  | zero => exact absurd HA.out (by simp [qkj.l0])
  | succ k1 =>
   have H := HA.out
   clear HA
   simp only [qkj.l0] at H
   by_cases c5 : x6_1 > 0
   ·rw [if_pos c5] at H
    have c5b0 : decide (0 < x6_1) = true := decide_eq_true c5
    clear c5
    replace H := Option.bind_eq_some_iff.mp H
    obtain ⟨⟨t104,t105,t106⟩,A60,H⟩ := H
    replace H : (if x5_1.length < 140737488355328 then (qkj.l0 k1 (x5_1 ++ [(t104) % 256]) (wrap64 (x6_1 - 1)) s0_0 t105 t106) else (none)) = some (r1,r2,r3) := H
    have A6 := qq.mk A60
    clear A60
    by_cases c7 : x5_1.length < 140737488355328
    ·rw [if_pos c7] at H
     have LMc7 := qq.mk c7
     clear c7
     obtain ⟨y107,hy107⟩ : ∃ y_ : List Int,y_ = (x5_1 ++ [(t104) % 256]) := ⟨_,rfl⟩
     replace H : (qkj.l0 k1 y107 (wrap64 (x6_1 - 1)) s0_0 t105 t106) = some (r1,r2,r3) := by first | (rw [hy107];with_reducible exact H) | (have H2_ := (Option.bind_some _ _).symm.trans H;rw [hy107];with_reducible exact H2_) | (have H2_ := (Option.bind_some _ _).symm.trans H;with_reducible exact H2_) | with_reducible exact H | (rw [hy107];exact H) | exact H
     have Ny107 := qq.mk hy107
     clear hy107
     have H' := qq.mk H
     clear H
     go_wp2_with (first | ((with_reducible refine kj (f := 133) rfl ?_);refine goesL_ (some 16) rfl rfl Try.func133 (by kernel_rfl) rfl #[.pointer (some ⟨g,0,none⟩)] rfl (by (try simp only [List.map_toArray,List.map_cons,List.map_nil]);first | done | rfl | (simp only [List.length_drop,List.length_take];rfl)) ?_;(with_reducible refine (qkx.calls g s0_0 x1001_1 x1002_1 t104 t105 t106 w0 _ ?side1 ?side2 A6.out).mono ?_);(case side1 => repeat (first | (with_reducible first | exact HI0.out | apply ww.alloc | apply ww.drewN | apply ww.drew | apply ww.set_1 | apply ww.set_2) | exact HI0.out));(case side2 => repeat (first | (with_reducible first | exact HB.out | apply qj | apply qz | apply qk | refine qx ?_ (ww.ge HI0.out)) | exact HB.out));rintro e w8 ⟨rfl,hi,hb,hk⟩;refine ⟨_,rfl,?_⟩;have n0_ := qq.mk (Kd.R_mono (Kd.R_keep (ww.apart (show ww w0 _ g s0_0 x1001_1 x1002_1 from by repeat (first | (with_reducible first | exact HI0.out | apply ww.alloc | apply ww.drewN | apply ww.drew | apply ww.set_1 | apply ww.set_2) | exact HI0.out)) (by (with_reducible repeat (first | apply Kd.jq | apply Kd.zx | apply Kd.jz));exact HO_5.out) (by decide)) hk (fun _ h => h.2)) (fun _ h => h.1));have n1_ := qq.mk (zk.trans (by repeat (first | (with_reducible first | exact HK.out | apply zk.set_ | apply jj | apply jv | apply jk) | exact HK.out)) hk (.inl rfl));have n2_ := qq.mk (hb);have n3_ := qq.mk (hi);clear HO_5;clear HK;clear HB;clear HI0;have HO_5 := n0_;have HK := n1_;have HB := n2_;have HI0 := n3_;clear n0_ n1_ n2_ n3_;(try clear hb);(try clear hb2);(try clear hk);(try clear hi)) | ((with_reducible refine gate_builtin (b := .append) (xs := #[.tmp 14,.tmp 18]) rfl ?_);at_builtin;refine Kd.R_append (Kd.int .u8) w.heap.size rfl (.tmp 14) (.tmp 18) 22 5 (.int .u8 0) 1 rfl Try.underlying22 info5 rfl (by decide) (by omega) u5 x5_1 ((t104) % 256) [.int .u8 ((t104) % 256)] (fun _ => True) (fun _ => False) rfl rfl ?aP (fun _ hk => hk.elim) ?aF ?aO (Below.refl _ _) ?aS ?aL ?_;(case aP => exact rfl);(case aF => exact (fun _ _ => trivial));(case aO => exact (by (with_reducible repeat (first | apply Kd.jq | apply Kd.zx | apply Kd.jz));exact HO_5.out));(case aS => exact (keep_size (w := w) (g := g) (row := none) (by repeat (first | (with_reducible first | exact HK.out | apply zk.set_ | apply jj | apply jv | apply jk) | exact HK.out))));(case aL => have := LMc7.out;omega);intro v108 w9 ho hb hg hat;rw [← Ny107.out] at ho;have n0_ := qq.mk (ww.grown (by repeat (first | (with_reducible first | exact HI0.out | apply ww.alloc | apply ww.drewN | apply ww.drew | apply ww.set_1 | apply ww.set_2) | exact HI0.out)) hg (ww.own_ne HI0.out HO_5.out (by decide)));have n1_ := qq.mk (below_weaken (by repeat (first | (with_reducible first | exact HB.out | apply qj | apply qz | apply qk | refine qx ?_ (ww.ge HI0.out)) | exact HB.out)) HL.out hb);have n2_ := qq.mk (zk.trans (by repeat (first | (with_reducible first | exact HK.out | apply zk.set_ | apply jj | apply jv | apply jk) | exact HK.out)) (zk.of_grown hg g) (Kd.R_base2 HO_5.out));have n3_ := qq.mk (ho);clear HI0;clear HB;clear HK;clear HO_5;have HI0 := n0_;have HB := n1_;have HK := n2_;have HO109 := n3_;clear n0_ n1_ n2_ n3_;clear ho hb hg hat))
     go_roundg k1
     case measure => have := HK1.out;omega
     case rel => exact ⟨(y107),(wrap64 (x6_1 - 1)),(t105),(t106),(by first | rfl | (simp;done) | (simp [*];done)),H',⟨by have := HK1.out;omega⟩,⟨by (with_reducible repeat (first | apply Kd.jq | apply Kd.zx | apply Kd.jz));exact HO109.out⟩,⟨by repeat (first | (with_reducible first | exact HI0.out | apply ww.alloc | apply ww.drewN | apply ww.drew | apply ww.set_1 | apply ww.set_2) | exact HI0.out)⟩,⟨by repeat (first | (with_reducible first | exact HK.out | apply zk.set_ | apply jj | apply jv | apply jk) | exact HK.out)⟩,⟨by repeat (first | (with_reducible first | exact HB.out | apply qj | apply qz | apply qk | refine qx ?_ (ww.ge HI0.out)) | exact HB.out)⟩⟩
    ·rw [if_neg c7] at H
     exact absurd H (by simp)
   ·rw [if_neg c5] at H
    have c5b0 : decide (0 < x6_1) = false := decide_eq_false c5
    clear c5
    simp only [Option.some.injEq,Prod.mk.injEq] at H
    obtain ⟨rfl,rfl,rfl⟩ := H
    go_wp2
    go_ret
    exact ⟨_,by first | rfl | (simp [*,kz,jx] <;> rfl),by (with_reducible repeat (first | apply Kd.jq | apply Kd.zx | apply Kd.jz));exact HO_5.out,by repeat (first | (with_reducible first | exact HI0.out | apply ww.alloc | apply ww.drewN | apply ww.drew | apply ww.set_1 | apply ww.set_2) | exact HI0.out),by repeat (first | (with_reducible first | exact HB.out | apply qj | apply qz | apply qk | refine qx ?_ (ww.ge HI0.out)) | exact HB.out),by repeat (first | (with_reducible first | exact HK.out | apply zk.set_ | apply jj | apply jv | apply jk) | exact HK.out)⟩
def qkq.f (k : Nat) (a0_0 : Int) (a0_1 : ByteArray) (a0_2 : ByteArray) (l0_3 : List Int) (l0_4 : List Int) : Option (Int × ByteArray × ByteArray × List Int × List Int) := (qjx.f k a0_0 a0_1 a0_2 l0_3 l0_4).bind fun t103 => (if t103 = true then ((qvw.f k a0_0 a0_1 a0_2 l0_3 l0_4).bind fun t104 => (some (a0_0,a0_1,(⟨#[]⟩ : ByteArray),([] : List Int),t104))) else (some (0,(⟨#[]⟩ : ByteArray),(⟨#[]⟩ : ByteArray),([] : List Int),([] : List Int))))
def qkq.T3 : Bool × List (List Nat × List Nat) := (true,[([],[]),([0],[0]),([],[]),([2],[2]),([],[]),([4],[4]),([1,3,5],[1,3,5]),([6,5,0,1,2,3,4,5,6],[6])])
def qkq.B3 : List Nat := [0,1,0,4,0,16,63,127]
theorem qkq.tab3 : rtab .any (opsOf Try.f30 3) = qkq.T3 := by kernel_rfl
theorem qkq.bits3 : waitsOk qkq.T3.2 qkq.B3 = true := by kernel_rfl
set_option maxHeartbeats 8000000 in
set_option maxRecDepth 100000 in
theorem qkq.calls (k : Nat) (a0_0 : Int) (a0_1 : ByteArray) (a0_2 : ByteArray) (A0_3 : Option Addr) (c0_3 : Nat) (l0_3 : List Int) (A0_4 : Option Addr) (c0_4 : Nat) (l0_4 : List Int) (r1 : Int) (r2 : ByteArray) (r3 : ByteArray) (r4 : List Int) (r5 : List Int) (w : World) (hr0_3 : Kd.C (Kd.int .u8) w A0_3 l0_3.length l0_3) (hc0_3 : l0_3.length ≤ c0_3) (hr0_4 : Kd.C (Kd.int .u8) w A0_4 l0_4.length l0_4) (hc0_4 : l0_4.length ≤ c0_4) (h : qkq.f k a0_0 a0_1 a0_2 l0_3 l0_4 = some (r1,r2,r3,r4,r5)) :
  Calls Try.prog 30 #[.agg #[.int .i64 a0_0,.string a0_1,.string a0_2,.slice A0_3 l0_3.length c0_3,.slice A0_4 l0_4.length c0_4]] w fun e w' => ∃ v3_ v4_ : Value,e = .returned (.agg #[.int .i64 r1,.string r2,.string r3,v3_,v4_]) ∧ Kd.R (Kd.int .u8) 5 w' w.heap.size (fun k_ => some k_ ≠ (v4_ : Value).ownBlock) v3_ r4 ∧ Kd.R (Kd.int .u8) 5 w' w.heap.size (fun k_ => some k_ ≠ (v3_ : Value).ownBlock) v4_ r5 ∧ Below w.heap.size w w' := by
 have hu27 := Try.underlying27
 have HR0_3 := qq.mk hr0_3
 have HC0_3 := qq.mk hc0_3
 clear hr0_3 hc0_3
 have HR0_4 := qq.mk hr0_4
 have HC0_4 := qq.mk hc0_4
 clear hr0_4 hc0_4
 have HB := qq.mk (Below.refl w.heap.size w)
 have H : ((qjx.f k a0_0 a0_1 a0_2 l0_3 l0_4).bind fun t103 => (if t103 = true then ((qvw.f k a0_0 a0_1 a0_2 l0_3 l0_4).bind fun t104 => (some (a0_0,a0_1,(⟨#[]⟩ : ByteArray),([] : List Int),t104))) else (some (0,(⟨#[]⟩ : ByteArray),(⟨#[]⟩ : ByteArray),([] : List Int),([] : List Int))))) = some (r1,r2,r3,r4,r5) := h
 clear h
 replace H := Option.bind_eq_some_iff.mp H
 obtain ⟨t103,A20,H⟩ := H
 replace H : (if t103 = true then ((qvw.f k a0_0 a0_1 a0_2 l0_3 l0_4).bind fun t104 => (some (a0_0,a0_1,(⟨#[]⟩ : ByteArray),([] : List Int),t104))) else (some (0,(⟨#[]⟩ : ByteArray),(⟨#[]⟩ : ByteArray),([] : List Int),([] : List Int)))) = some (r1,r2,r3,r4,r5) := H
 have A2 := qq.mk A20
 clear A20
 by_cases c3 : t103 = true
 ·subst c3
  have H1 : ((qvw.f k a0_0 a0_1 a0_2 l0_3 l0_4).bind fun t104 => (some (a0_0,a0_1,(⟨#[]⟩ : ByteArray),([] : List Int),t104))) = some (r1,r2,r3,r4,r5) := by rw [if_pos rfl] at H;exact H
  clear H
  have H := H1
  clear H1
  replace H := Option.bind_eq_some_iff.mp H
  obtain ⟨t104,A40,H⟩ := H
  replace H : (some (a0_0,a0_1,(⟨#[]⟩ : ByteArray),([] : List Int),t104)) = some (r1,r2,r3,r4,r5) := H
  have A4 := qq.mk A40
  clear A40
  simp only [Option.some.injEq,Prod.mk.injEq] at H
  obtain ⟨rfl,rfl,rfl,rfl,rfl⟩ := H
  go_enter Try.func30,Try.ntmps30
  try go_wp2_with (first | ((with_reducible refine gate_dst (N := 1) rfl ?_);refine box_event ?hg (N := 1) ?hd (cs := #[.int .i64 a0_0,.string a0_1,.string a0_2,.slice A0_3 l0_3.length c0_3,.slice A0_4 l0_4.length c0_4]) (t := 27) ?hr ?_;(case hd => rfl);(case hg => rfl);(case hr => first | (go_simp;done) | (go_simp;rfl));intro gb101 hg w5 hbox hb;have n0_ := qq.mk (zv (by repeat (first | (with_reducible first | exact HB.out | apply qj | apply qz | apply qk) | exact HB.out)) hb);have n1_ := qq.mk (hbox);have n2_ := qq.mk ((by rw [hg];exact (zw (by repeat (first | (with_reducible first | exact HB.out | apply qj | apply qz | apply qk) | exact HB.out))) : w.heap.size ≤ gb101));have n3_ := qq.mk ((by rw [hg];exact (zw (by repeat (first | (with_reducible first | exact HB.out | apply qj | apply qz | apply qk) | exact HB.out))) : w.heap.size ≤ gb101));clear HB;have HB := n0_;have BK101 := n1_;have GW101 := n2_;have GE101 := n3_;clear n0_ n1_ n2_ n3_;clear hb hbox hg) | ((with_reducible refine gate_dst (N := 2) rfl ?_);refine box_event ?hg (N := 2) ?hd (cs := #[.int .i64 0,.string (⟨#[]⟩ : ByteArray),.string (⟨#[]⟩ : ByteArray),.slice none 0 0,.slice none 0 0]) (t := 27) ?hr ?_;(case hd => rfl);(case hg => rfl);(case hr => first | (go_simp;done) | (go_simp;rfl));intro gb102 hg w6 hbox hb;have n0_ := qq.mk (wj (g := gb101) (o := .cells #[.int .i64 a0_0,.string a0_1,.string a0_2,.slice A0_3 l0_3.length c0_3,.slice A0_4 l0_4.length c0_4] 27 (0,0)) (by (with_reducible repeat (first | refine zz ?_ _ | refine zj ?_ | refine zq ?_ _));exact BK101.out) hb);have n1_ := qq.mk (zv (by repeat (first | (with_reducible first | exact HB.out | apply qj | apply qz | apply qk | refine qx ?_ GE101.out) | exact HB.out)) hb);have n2_ := qq.mk (hbox);have n3_ := qq.mk ((by rw [hg];exact (zw (by repeat (first | (with_reducible first | exact HB.out | apply qj | apply qz | apply qk | refine qx ?_ GE101.out) | exact HB.out))) : w.heap.size ≤ gb102));have n4_ := qq.mk ((by rw [hg];exact (zw (by repeat (first | (with_reducible first | exact HB.out | apply qj | apply qz | apply qk | refine qx ?_ GE101.out) | exact HB.out))) : w.heap.size ≤ gb102));have n5_ := qq.mk ((by rw [hg];exact Nat.ne_of_lt (blk_lt (g := gb101) (o := .cells #[.int .i64 a0_0,.string a0_1,.string a0_2,.slice A0_3 l0_3.length c0_3,.slice A0_4 l0_4.length c0_4] 27 (0,0)) (by (with_reducible repeat (first | refine zz ?_ _ | refine zj ?_ | refine zq ?_ _));exact BK101.out)) : gb101 ≠ gb102));have n6_ := qq.mk ((by rw [hg];exact Nat.ne_of_gt (blk_lt (g := gb101) (o := .cells #[.int .i64 a0_0,.string a0_1,.string a0_2,.slice A0_3 l0_3.length c0_3,.slice A0_4 l0_4.length c0_4] 27 (0,0)) (by (with_reducible repeat (first | refine zz ?_ _ | refine zj ?_ | refine zq ?_ _));exact BK101.out)) : gb102 ≠ gb101));clear BK101;clear HB;have BK101 := n0_;have HB := n1_;have BK102 := n2_;have GW102 := n3_;have GE102 := n4_;have NB101_102 := n5_;have NB102_101 := n6_;clear n0_ n1_ n2_ n3_ n4_ n5_ n6_;clear hb hbox hg;have hnb7 := NB101_102.out;have hnc7 := NB102_101.out;have hcz8_0 : w6.cell? ⟨gb101,0,none⟩ = some (.int .i64 a0_0) := (qw BK101.out 0).trans rfl;have hcz8_1 : w6.cell? ⟨gb101,1,none⟩ = some (.string a0_1) := (qw BK101.out 1).trans rfl;have hcz8_2 : w6.cell? ⟨gb101,2,none⟩ = some (.string a0_2) := (qw BK101.out 2).trans rfl;have hcz8_3 : w6.cell? ⟨gb101,3,none⟩ = some (.slice A0_3 l0_3.length c0_3) := (qw BK101.out 3).trans rfl;have hcz8_4 : w6.cell? ⟨gb101,4,none⟩ = some (.slice A0_4 l0_4.length c0_4) := (qw BK101.out 4).trans rfl;have hfz8_0 := qv BK101.out 0;have hfz8_1 := qv BK101.out 1;have hfz8_2 := qv BK101.out 2;have hfz8_3 := qv BK101.out 3;have hfz8_4 := qv BK101.out 4) | ((with_reducible refine kj (f := 18) rfl ?_);refine goesL_ (some 4) rfl rfl Try.func18 (by kernel_rfl) rfl #[.agg #[.int .i64 a0_0,.string a0_1,.string a0_2,.slice A0_3 l0_3.length c0_3,.slice A0_4 l0_4.length c0_4]] rfl (by (try simp only [List.map_toArray,List.map_cons,List.map_nil]);first | done | rfl | (simp only [List.length_drop,List.length_take];rfl)) ?_;(with_reducible refine (qjx.calls k a0_0 a0_1 a0_2 _ _ l0_3 _ _ l0_4 true _ ?side1 ?side2 ?side3 ?side4 A2.out).mono ?_);(case side1 => repeat (first | exact (Kd.C_below HR0_3.out HB.out) | (with_reducible refine Kd.C_alloc ?_ _) | (with_reducible refine Kd.C_drewN ?_ _) | (with_reducible refine Kd.C_drew ?_)));(case side2 => exact HC0_3.out);(case side3 => repeat (first | exact (Kd.C_below HR0_4.out HB.out) | (with_reducible refine Kd.C_alloc ?_ _) | (with_reducible refine Kd.C_drewN ?_ _) | (with_reducible refine Kd.C_drew ?_)));(case side4 => exact HC0_4.out);rintro e w9 ⟨rfl,hb⟩;refine ⟨_,rfl,?_⟩;have n0_ := qq.mk (wj (g := gb101) (o := .cells #[.int .i64 a0_0,.string a0_1,.string a0_2,.slice A0_3 l0_3.length c0_3,.slice A0_4 l0_4.length c0_4] 27 (0,0)) (by (with_reducible repeat (first | refine zz ?_ _ | refine zj ?_ | refine zq ?_ _));exact BK101.out) hb);have n1_ := qq.mk (wj (g := gb102) (o := .cells #[.int .i64 0,.string (⟨#[]⟩ : ByteArray),.string (⟨#[]⟩ : ByteArray),.slice none 0 0,.slice none 0 0] 27 (0,0)) (by (with_reducible repeat (first | refine zz ?_ _ | refine zj ?_ | refine zq ?_ _));exact BK102.out) hb);have n2_ := qq.mk (zv (by repeat (first | (with_reducible first | exact HB.out | apply qj | apply qz | apply qk | refine qx ?_ GE101.out | refine qx ?_ GE102.out) | exact HB.out)) hb);clear BK101;clear BK102;clear HB;have BK101 := n0_;have BK102 := n1_;have HB := n2_;clear n0_ n1_ n2_;(try clear hb);(try clear hb2);(try clear hk);(try clear hi)))
  have n0_ := qq.mk (zj BK101.out)
  have n1_ := qq.mk (zj BK102.out)
  have n2_ := qq.mk (qk HB.out)
  clear BK101
  clear BK102
  clear HB
  have BK101 := n0_
  have BK102 := n1_
  have HB := n2_
  clear n0_ n1_ n2_
  refine start_ (n := 8) (S := fun w' => w'.cell? ⟨gb101,0,none⟩ = some (.int .i64 a0_0) ∧ w'.cell? ⟨gb101,1,none⟩ = some (.string a0_1) ∧ w'.cell? ⟨gb101,2,none⟩ = some (.string a0_2) ∧ w'.cell? ⟨gb101,3,none⟩ = some (.slice A0_3 l0_3.length c0_3) ∧ w'.cell? ⟨gb101,4,none⟩ = some (.slice A0_4 l0_4.length c0_4)) (ds := []) #[false,false,false,false,false,false,false,false] (by kernel_rfl) rfl rfl ⟨(qw BK101.out 0).trans rfl,(qw BK101.out 1).trans rfl,(qw BK101.out 2).trans rfl,(qw BK101.out 3).trans rfl,(qw BK101.out 4).trans rfl⟩ (fun hHeld => ?_);refine with_tabW qkq.tab3 qkq.bits3 (fun HT_ HW_ => ?_)
  generalize w9.drew = w10 at BK101 BK102 HB hHeld ⊢
  refine pure_ (i := 0) (N := some 7) (v := ?_) (a' := ?_) #[true,false,false,false,false,false,false,false] rfl rfl (any_of HT_.out (by kernel_rfl)) (fun _ _ _ h => h) (Or.inl ⟨by rfl,?_⟩) ?_ ?_
  rotate_left
  ·intro w'
   go_simp
   with_reducible rfl
  rotate_left
  ·simp only [Act.put,List.setIfInBounds_toArray,List.set_cons_zero,List.set_cons_succ,i64_w,i32_w]
   rfl
  refine pure_ (i := 2) (N := some 9) (v := ?_) (a' := ?_) #[true,false,true,false,false,false,false,false] rfl rfl (any_of HT_.out (by kernel_rfl)) (fun _ _ _ h => h) (Or.inl ⟨by rfl,?_⟩) ?_ ?_
  rotate_left
  ·intro w'
   go_simp
   with_reducible rfl
  rotate_left
  ·simp only [Act.put,List.setIfInBounds_toArray,List.set_cons_zero,List.set_cons_succ,i64_w,i32_w]
   rfl
  refine take_ (i := 1) (N := some 8) (v := ?_) (a' := ?_) #[true,true,true,false,false,false,false,false] rfl rfl (take_ofW HT_.out HW_.out (by kernel_rfl)) (fun _ _ _ h => h) (Or.inl ⟨by rfl,?_⟩) hHeld ?_ ?_
  rotate_left
  ·rintro w' ⟨s0,s1,s2,s3,s4⟩
   go_simp
   with_reducible rfl
  rotate_left
  ·simp only [Act.put,List.setIfInBounds_toArray,List.set_cons_zero,List.set_cons_succ,i64_w,i32_w]
   rfl
  refine take_ (i := 3) (N := some 10) (v := ?_) (a' := ?_) #[true,true,true,true,false,false,false,false] rfl rfl (take_ofW HT_.out HW_.out (by kernel_rfl)) (fun _ _ _ h => h) (Or.inl ⟨by rfl,?_⟩) hHeld ?_ ?_
  rotate_left
  ·rintro w' ⟨s0,s1,s2,s3,s4⟩
   go_simp
   with_reducible rfl
  rotate_left
  ·simp only [Act.put,List.setIfInBounds_toArray,List.set_cons_zero,List.set_cons_succ,i64_w,i32_w]
   rfl
  refine take_ (i := 4) (N := some 11) (v := ?_) (a' := ?_) #[true,true,true,true,true,false,false,false] rfl rfl (take_ofW HT_.out HW_.out (by kernel_rfl)) (fun _ _ _ h => h) (Or.inl ⟨by rfl,?_⟩) hHeld ?_ ?_
  rotate_left
  ·rintro w' ⟨s0,s1,s2,s3,s4⟩
   go_simp
   with_reducible rfl
  rotate_left
  ·simp only [Act.put,List.setIfInBounds_toArray,List.set_cons_zero,List.set_cons_succ,i64_w,i32_w]
   rfl
  refine one_ (i := 5) (N := some 12) #[true,true,true,true,true,true,false,false] rfl rfl (one_of HT_.out (by kernel_rfl)) (by decide) (fun K hK => ?_)
  refine goes_ Try.func73 (by kernel_rfl) rfl #[.agg #[.int .i64 a0_0,.string a0_1,.string a0_2,.slice A0_3 l0_3.length c0_3,.slice A0_4 l0_4.length c0_4]] (by rfl) rfl rfl (by (try simp only [List.map_toArray,List.map_cons,List.map_nil]);first | done | rfl | (simp only [List.length_drop,List.length_take];rfl)) ?_
  with_reducible refine (qvw.calls k a0_0 a0_1 a0_2 _ _ l0_3 _ _ l0_4 t104 _ ?side1 ?side2 ?side3 ?side4 A4.out).mono ?_
  (case side1 => repeat (first | exact (Kd.C_below HR0_3.out HB.out) | (with_reducible refine Kd.C_alloc ?_ _) | (with_reducible refine Kd.C_drewN ?_ _) | (with_reducible refine Kd.C_drew ?_)))
  (case side2 => exact HC0_3.out)
  (case side3 => repeat (first | exact (Kd.C_below HR0_4.out HB.out) | (with_reducible refine Kd.C_alloc ?_ _) | (with_reducible refine Kd.C_drewN ?_ _) | (with_reducible refine Kd.C_drew ?_)))
  (case side4 => exact HC0_4.out)
  rintro e w11 ⟨v105,rfl,ho0,hb⟩
  refine ⟨_,rfl,?_⟩
  have n0_ := qq.mk (Kd.R_lower ho0 (zw (by repeat (first | (with_reducible first | exact HB.out | apply qj | apply qz | apply qk | refine qx ?_ GE101.out | refine qx ?_ GE102.out) | exact HB.out))))
  have n1_ := qq.mk (wj (g := gb101) (o := .cells #[.int .i64 a0_0,.string a0_1,.string a0_2,.slice A0_3 l0_3.length c0_3,.slice A0_4 l0_4.length c0_4] 27 (0,0)) (by (with_reducible repeat (first | refine zz ?_ _ | refine zj ?_ | refine zq ?_ _));exact BK101.out) hb)
  have n2_ := qq.mk (wj (g := gb102) (o := .cells #[.int .i64 0,.string (⟨#[]⟩ : ByteArray),.string (⟨#[]⟩ : ByteArray),.slice none 0 0,.slice none 0 0] 27 (0,0)) (by (with_reducible repeat (first | refine zz ?_ _ | refine zj ?_ | refine zq ?_ _));exact BK102.out) hb)
  have n3_ := qq.mk (zv (by repeat (first | (with_reducible first | exact HB.out | apply qj | apply qz | apply qk | refine qx ?_ GE101.out | refine qx ?_ GE102.out) | exact HB.out)) hb)
  clear BK101
  clear BK102
  clear HB
  have HO106 := n0_
  have BK101 := n1_
  have BK102 := n2_
  have HB := n3_
  clear n0_ n1_ n2_ n3_
  (try clear hb)
  (try clear hb2)
  (try clear hk)
  (try clear hi)
  (try clear ho0)
  obtain ⟨Ao12,co12,eo12⟩ := Kd.R_slice HO106.out
  (first | subst eo12 | (injection eo12 with f1_ f2_ f3_;have f4_ := f1_.symm;have f5_ := f3_.symm;clear f1_ f2_ f3_;subst f4_;subst f5_))
  refine hK.out _ _ ⟨(qw BK101.out 0).trans rfl,(qw BK101.out 1).trans rfl,(qw BK101.out 2).trans rfl,(qw BK101.out 3).trans rfl,(qw BK101.out 4).trans rfl⟩ (fun hHeld => ?_)
  clear hK K
  refine norm_ (a' := ?_) ?_ ?_
  rotate_left
  ·show Act.put _ (some 12) _ = _
   simp only [Act.put,List.setIfInBounds_toArray,List.set_cons_zero,List.set_cons_succ,i64_w,i32_w]
   rfl
  refine pure_ (i := 6) (N := some 13) (v := ?_) (a' := ?_) #[true,true,true,true,true,true,true,false] rfl rfl (any_of HT_.out (by kernel_rfl)) (fun _ _ _ h => h) (Or.inl ⟨by rfl,?_⟩) ?_ ?_
  rotate_left
  ·intro w'
   go_simp
   with_reducible rfl
  rotate_left
  ·simp only [Act.put,List.setIfInBounds_toArray,List.set_cons_zero,List.set_cons_succ,i64_w,i32_w]
   rfl
  refine one_ (i := 7) (N := none) #[true,true,true,true,true,true,true,true] rfl rfl (one_of HT_.out (by kernel_rfl)) (by decide) (fun K hK => ?_)
  have hs13 : w11.cell? ⟨gb102,0,none⟩ = some (.int .i64 0) := (qw BK102.out 0).trans rfl
  have hfs13 := qv BK102.out 0
  have hns13_0 := NB101_102.out
  have hms13_0 := NB102_101.out
  have hs14 : w11.cell? ⟨gb102,1,none⟩ = some (.string (⟨#[]⟩ : ByteArray)) := (qw BK102.out 1).trans rfl
  have hfs14 := qv BK102.out 1
  have hns14_0 := NB101_102.out
  have hms14_0 := NB102_101.out
  have hs15 : w11.cell? ⟨gb102,2,none⟩ = some (.string (⟨#[]⟩ : ByteArray)) := (qw BK102.out 2).trans rfl
  have hfs15 := qv BK102.out 2
  have hns15_0 := NB101_102.out
  have hms15_0 := NB102_101.out
  have hs16 : w11.cell? ⟨gb102,3,none⟩ = some (.slice none 0 0) := (qw BK102.out 3).trans rfl
  have hfs16 := qv BK102.out 3
  have hns16_0 := NB101_102.out
  have hms16_0 := NB102_101.out
  have hs17 : w11.cell? ⟨gb102,4,none⟩ = some (.slice none 0 0) := (qw BK102.out 4).trans rfl
  have hfs17 := qv BK102.out 4
  have hns17_0 := NB101_102.out
  have hms17_0 := NB102_101.out
  refine skip_ (w1 := ?_) (by rfl) rfl ?_ ?_
  rotate_left
  ·go_simp
   rfl
  refine hK.out _ _ ⟨((cell_far (p := ⟨gb102,_,none⟩) NB101_102.out _).trans (((cell_far (p := ⟨gb102,_,none⟩) NB101_102.out _).trans (((cell_far (p := ⟨gb102,_,none⟩) NB101_102.out _).trans (((cell_far (p := ⟨gb102,_,none⟩) NB101_102.out _).trans (((cell_far (p := ⟨gb102,_,none⟩) NB101_102.out _).trans (hHeld.1)))))))))),((cell_far (p := ⟨gb102,_,none⟩) NB101_102.out _).trans (((cell_far (p := ⟨gb102,_,none⟩) NB101_102.out _).trans (((cell_far (p := ⟨gb102,_,none⟩) NB101_102.out _).trans (((cell_far (p := ⟨gb102,_,none⟩) NB101_102.out _).trans (((cell_far (p := ⟨gb102,_,none⟩) NB101_102.out _).trans (hHeld.2.1)))))))))),((cell_far (p := ⟨gb102,_,none⟩) NB101_102.out _).trans (((cell_far (p := ⟨gb102,_,none⟩) NB101_102.out _).trans (((cell_far (p := ⟨gb102,_,none⟩) NB101_102.out _).trans (((cell_far (p := ⟨gb102,_,none⟩) NB101_102.out _).trans (((cell_far (p := ⟨gb102,_,none⟩) NB101_102.out _).trans (hHeld.2.2.1)))))))))),((cell_far (p := ⟨gb102,_,none⟩) NB101_102.out _).trans (((cell_far (p := ⟨gb102,_,none⟩) NB101_102.out _).trans (((cell_far (p := ⟨gb102,_,none⟩) NB101_102.out _).trans (((cell_far (p := ⟨gb102,_,none⟩) NB101_102.out _).trans (((cell_far (p := ⟨gb102,_,none⟩) NB101_102.out _).trans (hHeld.2.2.2.1)))))))))),((cell_far (p := ⟨gb102,_,none⟩) NB101_102.out _).trans (((cell_far (p := ⟨gb102,_,none⟩) NB101_102.out _).trans (((cell_far (p := ⟨gb102,_,none⟩) NB101_102.out _).trans (((cell_far (p := ⟨gb102,_,none⟩) NB101_102.out _).trans (((cell_far (p := ⟨gb102,_,none⟩) NB101_102.out _).trans (hHeld.2.2.2.2))))))))))⟩ (fun hHeld => ?_)
  clear hK K
  refine done_ (done_of HT_.out (by kernel_rfl)) ?_
  try go_wp2
  refine bodyPost_ret (results_cell_row rfl _ _ gb102 27 #[.int .i64 a0_0,.string a0_1,.string (⟨#[]⟩ : ByteArray),.slice none 0 0,.slice Ao12 t104.length co12] (0,0) _ rfl (by (with_reducible repeat (first | refine zz ?_ _ | refine zj ?_ | refine zq ?_ _));refine blk_put (cs := #[.int .i64 a0_0,.string a0_1,.string (⟨#[]⟩ : ByteArray),.slice none 0 0,.slice none 0 0]) ?_ 4 _ rfl;(with_reducible repeat (first | refine zz ?_ _ | refine zj ?_ | refine zq ?_ _));refine blk_put (cs := #[.int .i64 a0_0,.string a0_1,.string (⟨#[]⟩ : ByteArray),.slice none 0 0,.slice none 0 0]) ?_ 3 _ rfl;(with_reducible repeat (first | refine zz ?_ _ | refine zj ?_ | refine zq ?_ _));refine blk_put (cs := #[.int .i64 a0_0,.string a0_1,.string (⟨#[]⟩ : ByteArray),.slice none 0 0,.slice none 0 0]) ?_ 2 _ rfl;(with_reducible repeat (first | refine zz ?_ _ | refine zj ?_ | refine zq ?_ _));refine blk_put (cs := #[.int .i64 a0_0,.string (⟨#[]⟩ : ByteArray),.string (⟨#[]⟩ : ByteArray),.slice none 0 0,.slice none 0 0]) ?_ 1 _ rfl;(with_reducible repeat (first | refine zz ?_ _ | refine zj ?_ | refine zq ?_ _));refine blk_put (cs := #[.int .i64 0,.string (⟨#[]⟩ : ByteArray),.string (⟨#[]⟩ : ByteArray),.slice none 0 0,.slice none 0 0]) ?_ 0 _ rfl;(with_reducible repeat (first | refine zz ?_ _ | refine zj ?_ | refine zq ?_ _));exact BK102.out) Try.underlying27 rfl (by kernel_rfl)) rfl ?_
  exact ⟨_,_,by first | rfl | (simp [*,kz,jx] <;> rfl),by first | exact Kd.R_nil _ _ _ _ _ | exact Kd.N_nil _ _ _ _ _ | exact Kd.V_nil _ _ _ _ _ | exact Kd.Q_nil _ _ _ _ _ | exact Kd.S_nil _ _ _ _ _,by (with_reducible repeat (first | apply Kd.jq | apply Kd.zx | apply Kd.jz));exact Kd.R_mono (Kd.R_far (p := ⟨gb102,4,none⟩) (Kd.R_far (p := ⟨gb102,3,none⟩) (Kd.R_far (p := ⟨gb102,2,none⟩) (Kd.R_far (p := ⟨gb102,1,none⟩) (Kd.R_far (p := ⟨gb102,0,none⟩) (Kd.R_types HO106.out BK102.out (by decide)) (fun _ hk => hk.2) (.int .i64 a0_0)) (fun _ hk => hk.2) (.string a0_1)) (fun _ hk => hk.2) (.string (⟨#[]⟩ : ByteArray))) (fun _ hk => hk.2) (.slice none 0 0)) (fun _ hk => hk.2) (.slice Ao12 t104.length co12)) (fun _ hk => (by simp [Value.ownBlock])),by repeat (first | (with_reducible first | exact HB.out | apply qj | apply qz | apply qk | refine qx ?_ GE101.out | refine qx ?_ GE102.out) | exact HB.out)⟩
 ·replace c3 := Bool.eq_false_iff.mpr c3
  subst c3
  have H1 : (some (0,(⟨#[]⟩ : ByteArray),(⟨#[]⟩ : ByteArray),([] : List Int),([] : List Int))) = some (r1,r2,r3,r4,r5) := by rw [if_neg (show ¬ (false = true) by decide)] at H;exact H
  clear H
  have H := H1
  clear H1
  simp only [Option.some.injEq,Prod.mk.injEq] at H
  obtain ⟨rfl,rfl,rfl,rfl,rfl⟩ := H
  go_enter Try.func30,Try.ntmps30
  go_wp2_with (first | ((with_reducible refine gate_dst (N := 1) rfl ?_);refine box_event ?hg (N := 1) ?hd (cs := #[.int .i64 a0_0,.string a0_1,.string a0_2,.slice A0_3 l0_3.length c0_3,.slice A0_4 l0_4.length c0_4]) (t := 27) ?hr ?_;(case hd => rfl);(case hg => rfl);(case hr => first | (go_simp;done) | (go_simp;rfl));intro gb101 hg w18 hbox hb;have n0_ := qq.mk (zv (by repeat (first | (with_reducible first | exact HB.out | apply qj | apply qz | apply qk) | exact HB.out)) hb);have n1_ := qq.mk (hbox);have n2_ := qq.mk ((by rw [hg];exact (zw (by repeat (first | (with_reducible first | exact HB.out | apply qj | apply qz | apply qk) | exact HB.out))) : w.heap.size ≤ gb101));have n3_ := qq.mk ((by rw [hg];exact (zw (by repeat (first | (with_reducible first | exact HB.out | apply qj | apply qz | apply qk) | exact HB.out))) : w.heap.size ≤ gb101));clear HB;have HB := n0_;have BK101 := n1_;have GW101 := n2_;have GE101 := n3_;clear n0_ n1_ n2_ n3_;clear hb hbox hg) | ((with_reducible refine gate_dst (N := 2) rfl ?_);refine box_event ?hg (N := 2) ?hd (cs := #[.int .i64 0,.string (⟨#[]⟩ : ByteArray),.string (⟨#[]⟩ : ByteArray),.slice none 0 0,.slice none 0 0]) (t := 27) ?hr ?_;(case hd => rfl);(case hg => rfl);(case hr => first | (go_simp;done) | (go_simp;rfl));intro gb102 hg w19 hbox hb;have n0_ := qq.mk (wj (g := gb101) (o := .cells #[.int .i64 a0_0,.string a0_1,.string a0_2,.slice A0_3 l0_3.length c0_3,.slice A0_4 l0_4.length c0_4] 27 (0,0)) (by (with_reducible repeat (first | refine zz ?_ _ | refine zj ?_ | refine zq ?_ _));exact BK101.out) hb);have n1_ := qq.mk (zv (by repeat (first | (with_reducible first | exact HB.out | apply qj | apply qz | apply qk | refine qx ?_ GE101.out) | exact HB.out)) hb);have n2_ := qq.mk (hbox);have n3_ := qq.mk ((by rw [hg];exact (zw (by repeat (first | (with_reducible first | exact HB.out | apply qj | apply qz | apply qk | refine qx ?_ GE101.out) | exact HB.out))) : w.heap.size ≤ gb102));have n4_ := qq.mk ((by rw [hg];exact (zw (by repeat (first | (with_reducible first | exact HB.out | apply qj | apply qz | apply qk | refine qx ?_ GE101.out) | exact HB.out))) : w.heap.size ≤ gb102));have n5_ := qq.mk ((by rw [hg];exact Nat.ne_of_lt (blk_lt (g := gb101) (o := .cells #[.int .i64 a0_0,.string a0_1,.string a0_2,.slice A0_3 l0_3.length c0_3,.slice A0_4 l0_4.length c0_4] 27 (0,0)) (by (with_reducible repeat (first | refine zz ?_ _ | refine zj ?_ | refine zq ?_ _));exact BK101.out)) : gb101 ≠ gb102));have n6_ := qq.mk ((by rw [hg];exact Nat.ne_of_gt (blk_lt (g := gb101) (o := .cells #[.int .i64 a0_0,.string a0_1,.string a0_2,.slice A0_3 l0_3.length c0_3,.slice A0_4 l0_4.length c0_4] 27 (0,0)) (by (with_reducible repeat (first | refine zz ?_ _ | refine zj ?_ | refine zq ?_ _));exact BK101.out)) : gb102 ≠ gb101));clear BK101;clear HB;have BK101 := n0_;have HB := n1_;have BK102 := n2_;have GW102 := n3_;have GE102 := n4_;have NB101_102 := n5_;have NB102_101 := n6_;clear n0_ n1_ n2_ n3_ n4_ n5_ n6_;clear hb hbox hg;have hnb20 := NB101_102.out;have hnc20 := NB102_101.out;have hcz21_0 : w19.cell? ⟨gb101,0,none⟩ = some (.int .i64 a0_0) := (qw BK101.out 0).trans rfl;have hcz21_1 : w19.cell? ⟨gb101,1,none⟩ = some (.string a0_1) := (qw BK101.out 1).trans rfl;have hcz21_2 : w19.cell? ⟨gb101,2,none⟩ = some (.string a0_2) := (qw BK101.out 2).trans rfl;have hcz21_3 : w19.cell? ⟨gb101,3,none⟩ = some (.slice A0_3 l0_3.length c0_3) := (qw BK101.out 3).trans rfl;have hcz21_4 : w19.cell? ⟨gb101,4,none⟩ = some (.slice A0_4 l0_4.length c0_4) := (qw BK101.out 4).trans rfl;have hfz21_0 := qv BK101.out 0;have hfz21_1 := qv BK101.out 1;have hfz21_2 := qv BK101.out 2;have hfz21_3 := qv BK101.out 3;have hfz21_4 := qv BK101.out 4) | ((with_reducible refine kj (f := 18) rfl ?_);refine goesL_ (some 4) rfl rfl Try.func18 (by kernel_rfl) rfl #[.agg #[.int .i64 a0_0,.string a0_1,.string a0_2,.slice A0_3 l0_3.length c0_3,.slice A0_4 l0_4.length c0_4]] rfl (by (try simp only [List.map_toArray,List.map_cons,List.map_nil]);first | done | rfl | (simp only [List.length_drop,List.length_take];rfl)) ?_;(with_reducible refine (qjx.calls k a0_0 a0_1 a0_2 _ _ l0_3 _ _ l0_4 false _ ?side1 ?side2 ?side3 ?side4 A2.out).mono ?_);(case side1 => repeat (first | exact (Kd.C_below HR0_3.out HB.out) | (with_reducible refine Kd.C_alloc ?_ _) | (with_reducible refine Kd.C_drewN ?_ _) | (with_reducible refine Kd.C_drew ?_)));(case side2 => exact HC0_3.out);(case side3 => repeat (first | exact (Kd.C_below HR0_4.out HB.out) | (with_reducible refine Kd.C_alloc ?_ _) | (with_reducible refine Kd.C_drewN ?_ _) | (with_reducible refine Kd.C_drew ?_)));(case side4 => exact HC0_4.out);rintro e w22 ⟨rfl,hb⟩;refine ⟨_,rfl,?_⟩;have n0_ := qq.mk (wj (g := gb101) (o := .cells #[.int .i64 a0_0,.string a0_1,.string a0_2,.slice A0_3 l0_3.length c0_3,.slice A0_4 l0_4.length c0_4] 27 (0,0)) (by (with_reducible repeat (first | refine zz ?_ _ | refine zj ?_ | refine zq ?_ _));exact BK101.out) hb);have n1_ := qq.mk (wj (g := gb102) (o := .cells #[.int .i64 0,.string (⟨#[]⟩ : ByteArray),.string (⟨#[]⟩ : ByteArray),.slice none 0 0,.slice none 0 0] 27 (0,0)) (by (with_reducible repeat (first | refine zz ?_ _ | refine zj ?_ | refine zq ?_ _));exact BK102.out) hb);have n2_ := qq.mk (zv (by repeat (first | (with_reducible first | exact HB.out | apply qj | apply qz | apply qk | refine qx ?_ GE101.out | refine qx ?_ GE102.out) | exact HB.out)) hb);clear BK101;clear BK102;clear HB;have BK101 := n0_;have BK102 := n1_;have HB := n2_;clear n0_ n1_ n2_;(try clear hb);(try clear hb2);(try clear hk);(try clear hi);have hcz23_0 : w22.cell? ⟨gb102,0,none⟩ = some (.int .i64 0) := (qw BK102.out 0).trans rfl;have hcz23_1 : w22.cell? ⟨gb102,1,none⟩ = some (.string (⟨#[]⟩ : ByteArray)) := (qw BK102.out 1).trans rfl;have hcz23_2 : w22.cell? ⟨gb102,2,none⟩ = some (.string (⟨#[]⟩ : ByteArray)) := (qw BK102.out 2).trans rfl;have hcz23_3 : w22.cell? ⟨gb102,3,none⟩ = some (.slice none 0 0) := (qw BK102.out 3).trans rfl;have hcz23_4 : w22.cell? ⟨gb102,4,none⟩ = some (.slice none 0 0) := (qw BK102.out 4).trans rfl;have hfz23_0 := qv BK102.out 0;have hfz23_1 := qv BK102.out 1;have hfz23_2 := qv BK102.out 2;have hfz23_3 := qv BK102.out 3;have hfz23_4 := qv BK102.out 4))
  refine bodyPost_ret (results_cell_row rfl _ _ gb102 27 #[.int .i64 0,.string (⟨#[]⟩ : ByteArray),.string (⟨#[]⟩ : ByteArray),.slice none 0 0,.slice none 0 0] (0,0) _ rfl (by (with_reducible repeat (first | refine zz ?_ _ | refine zj ?_ | refine zq ?_ _));refine blk_put (cs := #[.int .i64 0,.string (⟨#[]⟩ : ByteArray),.string (⟨#[]⟩ : ByteArray),.slice none 0 0,.slice none 0 0]) ?_ 4 _ rfl;(with_reducible repeat (first | refine zz ?_ _ | refine zj ?_ | refine zq ?_ _));refine blk_put (cs := #[.int .i64 0,.string (⟨#[]⟩ : ByteArray),.string (⟨#[]⟩ : ByteArray),.slice none 0 0,.slice none 0 0]) ?_ 3 _ rfl;(with_reducible repeat (first | refine zz ?_ _ | refine zj ?_ | refine zq ?_ _));refine blk_put (cs := #[.int .i64 0,.string (⟨#[]⟩ : ByteArray),.string (⟨#[]⟩ : ByteArray),.slice none 0 0,.slice none 0 0]) ?_ 2 _ rfl;(with_reducible repeat (first | refine zz ?_ _ | refine zj ?_ | refine zq ?_ _));refine blk_put (cs := #[.int .i64 0,.string (⟨#[]⟩ : ByteArray),.string (⟨#[]⟩ : ByteArray),.slice none 0 0,.slice none 0 0]) ?_ 1 _ rfl;(with_reducible repeat (first | refine zz ?_ _ | refine zj ?_ | refine zq ?_ _));refine blk_put (cs := #[.int .i64 0,.string (⟨#[]⟩ : ByteArray),.string (⟨#[]⟩ : ByteArray),.slice none 0 0,.slice none 0 0]) ?_ 0 _ rfl;(with_reducible repeat (first | refine zz ?_ _ | refine zj ?_ | refine zq ?_ _));exact BK102.out) Try.underlying27 rfl (by kernel_rfl)) rfl ?_
  exact ⟨_,_,by first | rfl | (simp [*,kz,jx] <;> rfl),by first | exact Kd.R_nil _ _ _ _ _ | exact Kd.N_nil _ _ _ _ _ | exact Kd.V_nil _ _ _ _ _ | exact Kd.Q_nil _ _ _ _ _ | exact Kd.S_nil _ _ _ _ _,by first | exact Kd.R_nil _ _ _ _ _ | exact Kd.N_nil _ _ _ _ _ | exact Kd.V_nil _ _ _ _ _ | exact Kd.Q_nil _ _ _ _ _ | exact Kd.S_nil _ _ _ _ _,by repeat (first | (with_reducible first | exact HB.out | apply qj | apply qz | apply qk | refine qx ?_ GE101.out | refine qx ?_ GE102.out) | exact HB.out)⟩
def qkv.j0 : Nat → List Int → Int → Int → Int → ByteArray → ByteArray → List Int → Option (Int × ByteArray × ByteArray × List Int × List Int × Int × Int)
 | 0,_,_,_,_,_,_,_ => none
 | k + 1,x1000,x1001,x1002,x123000,x123001,x123002,x123003 => (qvj.f x1000 x1001 x1002 5).bind fun bt126 => (if bt126.1 = true then ((qkq.f k x123000 x123001 x123002 x123003 ([] : List Int)).bind fun bt129 => (some (bt129.1,bt129.2.1,bt129.2.2.1,bt129.2.2.2.1,bt129.2.2.2.2,bt126.2.1,bt126.2.2))) else (some (x123000,x123001,x123002,x123003,([] : List Int),bt126.2.1,bt126.2.2)))
def qkv.f (k : Nat) (s0_0 : List Int) (s0_1 : Int) (s0_2 : Int) : Option (Int × ByteArray × ByteArray × List Int × List Int × Int × Int) := (qvk.f s0_0 s0_1 s0_2 300).bind fun bt102 => ((qvz.f s0_0 bt102.2.1 bt102.2.2 (([(⟨#[97,110,110]⟩ : ByteArray),(⟨#[98,111,98]⟩ : ByteArray),(⟨#[]⟩ : ByteArray)] : List ByteArray))).bind fun bt108 => ((qvz.f s0_0 bt108.2.1 bt108.2.2 (([(⟨#[118,105,101,119,32,100,111,99,49]⟩ : ByteArray),(⟨#[101,100,105,116]⟩ : ByteArray),(⟨#[]⟩ : ByteArray)] : List ByteArray))).bind fun bt114 => ((qkj.f k s0_0 bt114.2.1 bt114.2.2 4).bind fun bt117 => ((qvj.f s0_0 bt117.2.1 bt117.2.2 20).bind fun bt123 => (if bt123.1 = true then (qkv.j0 k s0_0 bt123.2.1 bt123.2.2 100000000000 bt108.1 bt114.1 bt117.1) else (qkv.j0 k s0_0 bt123.2.1 bt123.2.2 bt102.1 bt108.1 bt114.1 bt117.1))))))
set_option maxHeartbeats 8000000 in
set_option maxRecDepth 100000 in
theorem qkv.calls (k : Nat) (g : Nat) (s0_0 : List Int) (s0_1 : Int) (s0_2 : Int) (r1 : Int) (r2 : ByteArray) (r3 : ByteArray) (r4 : List Int) (r5 : List Int) (r6 : Int) (r7 : Int) (w0 w : World) (hI : ww w0 w g s0_0 s0_1 s0_2) (hB : Below w0.heap.size w0 w) (h : qkv.f k s0_0 s0_1 s0_2 = some (r1,r2,r3,r4,r5,r6,r7)) :
  Calls Try.prog 111 #[.pointer (some ⟨g,0,none⟩)] w fun e w' => ∃ v3_ v4_ : Value,e = .returned (.agg #[.int .i64 r1,.string r2,.string r3,v3_,v4_]) ∧ Kd.R (Kd.int .u8) 5 w' w.heap.size (fun k_ => some k_ ≠ (v4_ : Value).ownBlock) v3_ r4 ∧ Kd.R (Kd.int .u8) 5 w' w.heap.size (fun k_ => some k_ ≠ (v3_ : Value).ownBlock) v4_ r5 ∧ ww w0 w' g s0_0 r6 r7 ∧ Below w0.heap.size w0 w' ∧ zk w w' g none := by
 have hu27 := Try.underlying27
 have HI0 := qq.mk hI
 have HK := qq.mk (zk.refl w g none)
 have HL := qq.mk hB.size
 clear hI
 have HW0 := qq.mk hB.size
 have HB := qq.mk hB
 clear hB
 have H : ((qvk.f s0_0 s0_1 s0_2 300).bind fun bt102 => ((qvz.f s0_0 bt102.2.1 bt102.2.2 (([(⟨#[97,110,110]⟩ : ByteArray),(⟨#[98,111,98]⟩ : ByteArray),(⟨#[]⟩ : ByteArray)] : List ByteArray))).bind fun bt108 => ((qvz.f s0_0 bt108.2.1 bt108.2.2 (([(⟨#[118,105,101,119,32,100,111,99,49]⟩ : ByteArray),(⟨#[101,100,105,116]⟩ : ByteArray),(⟨#[]⟩ : ByteArray)] : List ByteArray))).bind fun bt114 => ((qkj.f k s0_0 bt114.2.1 bt114.2.2 4).bind fun bt117 => ((qvj.f s0_0 bt117.2.1 bt117.2.2 20).bind fun bt123 => (if bt123.1 = true then (qkv.j0 k s0_0 bt123.2.1 bt123.2.2 100000000000 bt108.1 bt114.1 bt117.1) else (qkv.j0 k s0_0 bt123.2.1 bt123.2.2 bt102.1 bt108.1 bt114.1 bt117.1))))))) = some (r1,r2,r3,r4,r5,r6,r7) := h
 clear h
 replace H := Option.bind_eq_some_iff.mp H
 obtain ⟨⟨t102,t103,t104⟩,A20,H⟩ := H
 replace H : ((qvz.f s0_0 t103 t104 (([(⟨#[97,110,110]⟩ : ByteArray),(⟨#[98,111,98]⟩ : ByteArray),(⟨#[]⟩ : ByteArray)] : List ByteArray))).bind fun bt108 => ((qvz.f s0_0 bt108.2.1 bt108.2.2 (([(⟨#[118,105,101,119,32,100,111,99,49]⟩ : ByteArray),(⟨#[101,100,105,116]⟩ : ByteArray),(⟨#[]⟩ : ByteArray)] : List ByteArray))).bind fun bt114 => ((qkj.f k s0_0 bt114.2.1 bt114.2.2 4).bind fun bt117 => ((qvj.f s0_0 bt117.2.1 bt117.2.2 20).bind fun bt123 => (if bt123.1 = true then (qkv.j0 k s0_0 bt123.2.1 bt123.2.2 100000000000 bt108.1 bt114.1 bt117.1) else (qkv.j0 k s0_0 bt123.2.1 bt123.2.2 t102 bt108.1 bt114.1 bt117.1)))))) = some (r1,r2,r3,r4,r5,r6,r7) := H
 have A2 := qq.mk A20
 clear A20
 obtain ⟨y105,hy105⟩ : ∃ y_ : List ByteArray,y_ = (([(⟨#[97,110,110]⟩ : ByteArray),(⟨#[98,111,98]⟩ : ByteArray),(⟨#[]⟩ : ByteArray)] : List ByteArray)) := ⟨_,rfl⟩
 replace H : ((qvz.f s0_0 t103 t104 y105).bind fun bt108 => ((qvz.f s0_0 bt108.2.1 bt108.2.2 (([(⟨#[118,105,101,119,32,100,111,99,49]⟩ : ByteArray),(⟨#[101,100,105,116]⟩ : ByteArray),(⟨#[]⟩ : ByteArray)] : List ByteArray))).bind fun bt114 => ((qkj.f k s0_0 bt114.2.1 bt114.2.2 4).bind fun bt117 => ((qvj.f s0_0 bt117.2.1 bt117.2.2 20).bind fun bt123 => (if bt123.1 = true then (qkv.j0 k s0_0 bt123.2.1 bt123.2.2 100000000000 bt108.1 bt114.1 bt117.1) else (qkv.j0 k s0_0 bt123.2.1 bt123.2.2 t102 bt108.1 bt114.1 bt117.1)))))) = some (r1,r2,r3,r4,r5,r6,r7) := by first | (rw [hy105];with_reducible exact H) | (have H2_ := (Option.bind_some _ _).symm.trans H;rw [hy105];with_reducible exact H2_) | (have H2_ := (Option.bind_some _ _).symm.trans H;with_reducible exact H2_) | with_reducible exact H | (rw [hy105];exact H) | exact H
 have Ny105 := qq.mk hy105
 clear hy105
 replace H := Option.bind_eq_some_iff.mp H
 obtain ⟨⟨t108,t109,t110⟩,A30,H⟩ := H
 replace H : ((qvz.f s0_0 t109 t110 (([(⟨#[118,105,101,119,32,100,111,99,49]⟩ : ByteArray),(⟨#[101,100,105,116]⟩ : ByteArray),(⟨#[]⟩ : ByteArray)] : List ByteArray))).bind fun bt114 => ((qkj.f k s0_0 bt114.2.1 bt114.2.2 4).bind fun bt117 => ((qvj.f s0_0 bt117.2.1 bt117.2.2 20).bind fun bt123 => (if bt123.1 = true then (qkv.j0 k s0_0 bt123.2.1 bt123.2.2 100000000000 t108 bt114.1 bt117.1) else (qkv.j0 k s0_0 bt123.2.1 bt123.2.2 t102 t108 bt114.1 bt117.1))))) = some (r1,r2,r3,r4,r5,r6,r7) := H
 have A3 := qq.mk A30
 clear A30
 obtain ⟨y111,hy111⟩ : ∃ y_ : List ByteArray,y_ = (([(⟨#[118,105,101,119,32,100,111,99,49]⟩ : ByteArray),(⟨#[101,100,105,116]⟩ : ByteArray),(⟨#[]⟩ : ByteArray)] : List ByteArray)) := ⟨_,rfl⟩
 replace H : ((qvz.f s0_0 t109 t110 y111).bind fun bt114 => ((qkj.f k s0_0 bt114.2.1 bt114.2.2 4).bind fun bt117 => ((qvj.f s0_0 bt117.2.1 bt117.2.2 20).bind fun bt123 => (if bt123.1 = true then (qkv.j0 k s0_0 bt123.2.1 bt123.2.2 100000000000 t108 bt114.1 bt117.1) else (qkv.j0 k s0_0 bt123.2.1 bt123.2.2 t102 t108 bt114.1 bt117.1))))) = some (r1,r2,r3,r4,r5,r6,r7) := by first | (rw [hy111];with_reducible exact H) | (have H2_ := (Option.bind_some _ _).symm.trans H;rw [hy111];with_reducible exact H2_) | (have H2_ := (Option.bind_some _ _).symm.trans H;with_reducible exact H2_) | with_reducible exact H | (rw [hy111];exact H) | exact H
 have Ny111 := qq.mk hy111
 clear hy111
 replace H := Option.bind_eq_some_iff.mp H
 obtain ⟨⟨t114,t115,t116⟩,A40,H⟩ := H
 replace H : ((qkj.f k s0_0 t115 t116 4).bind fun bt117 => ((qvj.f s0_0 bt117.2.1 bt117.2.2 20).bind fun bt123 => (if bt123.1 = true then (qkv.j0 k s0_0 bt123.2.1 bt123.2.2 100000000000 t108 t114 bt117.1) else (qkv.j0 k s0_0 bt123.2.1 bt123.2.2 t102 t108 t114 bt117.1)))) = some (r1,r2,r3,r4,r5,r6,r7) := H
 have A4 := qq.mk A40
 clear A40
 replace H := Option.bind_eq_some_iff.mp H
 obtain ⟨⟨t117,t120,t121⟩,A50,H⟩ := H
 replace H : ((qvj.f s0_0 t120 t121 20).bind fun bt123 => (if bt123.1 = true then (qkv.j0 k s0_0 bt123.2.1 bt123.2.2 100000000000 t108 t114 t117) else (qkv.j0 k s0_0 bt123.2.1 bt123.2.2 t102 t108 t114 t117))) = some (r1,r2,r3,r4,r5,r6,r7) := H
 have A5 := qq.mk A50
 clear A50
 replace H := Option.bind_eq_some_iff.mp H
 obtain ⟨⟨t123,t124,t125⟩,A60,H⟩ := H
 replace H : (if t123 = true then (qkv.j0 k s0_0 t124 t125 100000000000 t108 t114 t117) else (qkv.j0 k s0_0 t124 t125 t102 t108 t114 t117)) = some (r1,r2,r3,r4,r5,r6,r7) := H
 have A6 := qq.mk A60
 clear A60
 have HC7 := qq.mk H
 clear H
 go_enter Try.func111,Try.ntmps111
 go_upto_if 16 with (first | ((with_reducible refine gate_dst (N := 2) rfl ?_);refine box_event ?hg (N := 2) ?hd (cs := #[.int .i64 0,.string (⟨#[]⟩ : ByteArray),.string (⟨#[]⟩ : ByteArray),.slice none 0 0,.slice none 0 0]) (t := 27) ?hr ?_;(case hd => rfl);(case hg => rfl);(case hr => first | (go_simp;done) | (go_simp;rfl));intro gb101 hg w8 hbox hb;have n0_ := qq.mk (ww.below (by repeat (first | (with_reducible first | exact HI0.out | apply ww.alloc | apply ww.drewN | apply ww.drew | apply ww.set_1 | apply ww.set_2) | exact HI0.out)) hb);have n1_ := qq.mk (zk.trans (by repeat (first | (with_reducible first | exact HK.out | apply zk.set_ | apply jj | apply jv | apply jk) | exact HK.out)) (zk.of_below hb g none) (.inl rfl));have n2_ := qq.mk (zv (by repeat (first | (with_reducible first | exact HB.out | apply qj | apply qz | apply qk | refine qx ?_ (ww.ge HI0.out)) | exact HB.out)) hb);have n3_ := qq.mk (hbox);have n4_ := qq.mk ((by rw [hg];exact (keep_size (w := w) (g := g) (row := none) (by repeat (first | (with_reducible first | exact HK.out | apply zk.set_ | apply jj | apply jv | apply jk) | exact HK.out))) : w.heap.size ≤ gb101));have n5_ := qq.mk ((Nat.le_trans HW0.out (by rw [hg];exact (keep_size (w := w) (g := g) (row := none) (by repeat (first | (with_reducible first | exact HK.out | apply zk.set_ | apply jj | apply jv | apply jk) | exact HK.out))) : w.heap.size ≤ gb101) : w0.heap.size ≤ gb101));have n6_ := qq.mk ((by rw [hg];exact Nat.ne_of_lt (ww.lt (show ww w0 _ g s0_0 s0_1 s0_2 from by repeat (first | (with_reducible first | exact HI0.out | apply ww.alloc | apply ww.drewN | apply ww.drew | apply ww.set_1 | apply ww.set_2) | exact HI0.out))) : g ≠ gb101));have n7_ := qq.mk ((by rw [hg];exact Nat.ne_of_gt (ww.lt (show ww w0 _ g s0_0 s0_1 s0_2 from by repeat (first | (with_reducible first | exact HI0.out | apply ww.alloc | apply ww.drewN | apply ww.drew | apply ww.set_1 | apply ww.set_2) | exact HI0.out))) : gb101 ≠ g));clear HI0;clear HK;clear HB;have HI0 := n0_;have HK := n1_;have HB := n2_;have BK101 := n3_;have GW101 := n4_;have GE101 := n5_;have NB0_101 := n6_;have NB101_0 := n7_;clear n0_ n1_ n2_ n3_ n4_ n5_ n6_ n7_;clear hb hbox hg) | ((with_reducible refine kj (f := 109) rfl ?_);refine goesL_ (some 5) rfl rfl Try.func109 (by kernel_rfl) rfl #[.pointer (some ⟨g,0,none⟩),.int .i64 300] rfl (by (try simp only [List.map_toArray,List.map_cons,List.map_nil]);first | done | rfl | (simp only [List.length_drop,List.length_take];rfl)) ?_;(with_reducible refine (qvk.calls g s0_0 s0_1 s0_2 300 t102 t103 t104 w0 _ ?side1 ?side2 A2.out).mono ?_);(case side1 => repeat (first | (with_reducible first | exact HI0.out | apply ww.alloc | apply ww.drewN | apply ww.drew | apply ww.set_1 | apply ww.set_2 | refine ww.far ?_ NB0_101.out _) | exact HI0.out));(case side2 => repeat (first | (with_reducible first | exact HB.out | apply qj | apply qz | apply qk | refine qx ?_ (ww.ge HI0.out) | refine qx ?_ GE101.out) | exact HB.out));rintro e w9 ⟨rfl,hi,hb,hk⟩;refine ⟨_,rfl,?_⟩;have n0_ := qq.mk (zk.blk hk (g' := gb101) (o := .cells #[.int .i64 0,.string (⟨#[]⟩ : ByteArray),.string (⟨#[]⟩ : ByteArray),.slice none 0 0,.slice none 0 0] 27 (0,0)) (by (with_reducible repeat (first | refine zz ?_ _ | refine zj ?_ | refine zq ?_ _));exact BK101.out) NB101_0.out (by simp));have n1_ := qq.mk (zk.trans (by repeat (first | (with_reducible first | exact HK.out | apply zk.set_ | apply jj | apply jv | apply jk | refine jw ?_ GW101.out _) | exact HK.out)) hk (.inl rfl));have n2_ := qq.mk (hb);have n3_ := qq.mk (hi);clear BK101;clear HK;clear HB;clear HI0;have BK101 := n0_;have HK := n1_;have HB := n2_;have HI0 := n3_;clear n0_ n1_ n2_ n3_;(try clear hb);(try clear hb2);(try clear hk);(try clear hi)) | ((with_reducible refine gate_dst (N := 7) rfl ?_);refine Kd.R_lit Kd.string _ 9 ?hg (N := 7) ?hd (xs := ([(⟨#[97,110,110]⟩ : ByteArray),(⟨#[98,111,98]⟩ : ByteArray),(⟨#[]⟩ : ByteArray)] : List ByteArray)) (inner := [.string (⟨#[97,110,110]⟩ : ByteArray),.string (⟨#[98,111,98]⟩ : ByteArray),.string (⟨#[]⟩ : ByteArray)]) (ok := fun _ => True) (okp := fun _ => True) ?hr ?hp (fun _ hk => hk) trivial (Below.refl _ _) (Nat.le_refl _) (by simp) ?_;(case hd => rfl);(case hg => rfl);(case hr => first | (go_simp;done) | (go_simp;rfl));(case hp => exact (Reps.one (show Kd.M Kd.string _ _ _ (⟨#[97,110,110]⟩ : ByteArray) [.string (⟨#[97,110,110]⟩ : ByteArray)] from rfl) (Reps.one (show Kd.M Kd.string _ _ _ (⟨#[98,111,98]⟩ : ByteArray) [.string (⟨#[98,111,98]⟩ : ByteArray)] from rfl) (Reps.one (show Kd.M Kd.string _ _ _ (⟨#[]⟩ : ByteArray) [.string (⟨#[]⟩ : ByteArray)] from rfl) (Reps.none _ _)))));intro v106 w10 ho11 hb hg_ hnew_;clear hg_ hnew_;(first | rw [← Ny105.out] at ho11 | (simp only [Int.reduceToNat] at ho11;rw [← Ny105.out] at ho11));have n0_ := qq.mk (Kd.R_lower ho11 (keep_size (w := w) (g := g) (row := none) (by repeat (first | (with_reducible first | exact HK.out | apply zk.set_ | apply jj | apply jv | apply jk | refine jw ?_ GW101.out _) | exact HK.out))));have n1_ := qq.mk (ww.below (by repeat (first | (with_reducible first | exact HI0.out | apply ww.alloc | apply ww.drewN | apply ww.drew | apply ww.set_1 | apply ww.set_2 | refine ww.far ?_ NB0_101.out _) | exact HI0.out)) hb);have n2_ := qq.mk (wj (g := gb101) (o := .cells #[.int .i64 0,.string (⟨#[]⟩ : ByteArray),.string (⟨#[]⟩ : ByteArray),.slice none 0 0,.slice none 0 0] 27 (0,0)) (by (with_reducible repeat (first | refine zz ?_ _ | refine zj ?_ | refine zq ?_ _));exact BK101.out) hb);have n3_ := qq.mk (zk.trans (by repeat (first | (with_reducible first | exact HK.out | apply zk.set_ | apply jj | apply jv | apply jk | refine jw ?_ GW101.out _) | exact HK.out)) (zk.of_below hb g none) (.inl rfl));have n4_ := qq.mk (zv (by repeat (first | (with_reducible first | exact HB.out | apply qj | apply qz | apply qk | refine qx ?_ (ww.ge HI0.out) | refine qx ?_ GE101.out) | exact HB.out)) hb);clear HI0;clear BK101;clear HK;clear HB;have HO107 := n0_;have HI0 := n1_;have BK101 := n2_;have HK := n3_;have HB := n4_;clear n0_ n1_ n2_ n3_ n4_;clear hb ho11;obtain ⟨Ao12,co12,eo12⟩ := Kd.R_slice HO107.out;subst eo12) | ((with_reducible refine kj (f := 134) rfl ?_);refine goesL_ (some 8) rfl rfl Try.func134 (by kernel_rfl) rfl #[.pointer (some ⟨g,0,none⟩),.slice Ao12 y105.length co12] rfl (by (try simp only [List.map_toArray,List.map_cons,List.map_nil]);first | done | rfl | (simp only [List.length_drop,List.length_take];rfl)) ?_;(with_reducible refine (qvz.calls g s0_0 t103 t104 _ _ y105 t108 t109 t110 w0 _ ?side1 ?side2 ?side3 ?side4 ?side5 A3.out).mono ?_);(case side1 => repeat (first | (with_reducible first | exact HI0.out | apply ww.alloc | apply ww.drewN | apply ww.drew | apply ww.set_1 | apply ww.set_2 | refine ww.far ?_ NB0_101.out _) | exact HI0.out));(case side2 => repeat (first | (with_reducible first | exact HB.out | apply qj | apply qz | apply qk | refine qx ?_ (ww.ge HI0.out) | refine qx ?_ GE101.out) | exact HB.out));(case side3 => repeat (first | exact (Kd.R_reads' HO107.out).2.2 | (with_reducible refine Kd.C_alloc ?_ _) | (with_reducible refine Kd.C_drewN ?_ _) | (with_reducible refine Kd.C_drew ?_)));(case side4 => exact (Kd.R_reads' HO107.out).2.1);(case side5 => exact far_slice (ww.own_ne HI0.out HO107.out (by decide)));rintro e w13 ⟨rfl,hi,hb,hk⟩;refine ⟨_,rfl,?_⟩;have n0_ := qq.mk (zk.blk hk (g' := gb101) (o := .cells #[.int .i64 0,.string (⟨#[]⟩ : ByteArray),.string (⟨#[]⟩ : ByteArray),.slice none 0 0,.slice none 0 0] 27 (0,0)) (by (with_reducible repeat (first | refine zz ?_ _ | refine zj ?_ | refine zq ?_ _));exact BK101.out) NB101_0.out (by simp));have n1_ := qq.mk (Kd.R_mono (Kd.R_keep (ww.apart (show ww w0 _ g s0_0 t103 t104 from by repeat (first | (with_reducible first | exact HI0.out | apply ww.alloc | apply ww.drewN | apply ww.drew | apply ww.set_1 | apply ww.set_2 | refine ww.far ?_ NB0_101.out _) | exact HI0.out)) (by (with_reducible repeat (first | apply Kd.jq | apply Kd.zx | apply Kd.jz));exact HO107.out) (by decide)) hk (fun _ h => h.2)) (fun _ h => h.1));have n2_ := qq.mk (zk.trans (by repeat (first | (with_reducible first | exact HK.out | apply zk.set_ | apply jj | apply jv | apply jk | refine jw ?_ GW101.out _) | exact HK.out)) hk (.inl rfl));have n3_ := qq.mk (hb);have n4_ := qq.mk (hi);clear BK101;clear HO107;clear HK;clear HB;clear HI0;have BK101 := n0_;have HO107 := n1_;have HK := n2_;have HB := n3_;have HI0 := n4_;clear n0_ n1_ n2_ n3_ n4_;(try clear hb);(try clear hb2);(try clear hk);(try clear hi)) | ((with_reducible refine gate_dst (N := 10) rfl ?_);refine Kd.R_lit Kd.string _ 9 ?hg (N := 10) ?hd (xs := ([(⟨#[118,105,101,119,32,100,111,99,49]⟩ : ByteArray),(⟨#[101,100,105,116]⟩ : ByteArray),(⟨#[]⟩ : ByteArray)] : List ByteArray)) (inner := [.string (⟨#[118,105,101,119,32,100,111,99,49]⟩ : ByteArray),.string (⟨#[101,100,105,116]⟩ : ByteArray),.string (⟨#[]⟩ : ByteArray)]) (ok := fun _ => True) (okp := fun _ => True) ?hr ?hp (fun _ hk => hk) trivial (Below.refl _ _) (Nat.le_refl _) (by simp) ?_;(case hd => rfl);(case hg => rfl);(case hr => first | (go_simp;done) | (go_simp;rfl));(case hp => exact (Reps.one (show Kd.M Kd.string _ _ _ (⟨#[118,105,101,119,32,100,111,99,49]⟩ : ByteArray) [.string (⟨#[118,105,101,119,32,100,111,99,49]⟩ : ByteArray)] from rfl) (Reps.one (show Kd.M Kd.string _ _ _ (⟨#[101,100,105,116]⟩ : ByteArray) [.string (⟨#[101,100,105,116]⟩ : ByteArray)] from rfl) (Reps.one (show Kd.M Kd.string _ _ _ (⟨#[]⟩ : ByteArray) [.string (⟨#[]⟩ : ByteArray)] from rfl) (Reps.none _ _)))));intro v112 w14 ho15 hb hg_ hnew_;clear hg_ hnew_;(first | rw [← Ny111.out] at ho15 | (simp only [Int.reduceToNat] at ho15;rw [← Ny111.out] at ho15));have n0_ := qq.mk (Kd.R_elder' (by (with_reducible repeat (first | apply Kd.jq | apply Kd.zx | apply Kd.jz));exact HO107.out) (Kd.R_base ho15) hb);have n1_ := qq.mk (Kd.R_lower (Kd.R_new' ho15 (Kd.R_lt (by (with_reducible repeat (first | apply Kd.jq | apply Kd.zx | apply Kd.jz));exact HO107.out))) (keep_size (w := w) (g := g) (row := none) (by repeat (first | (with_reducible first | exact HK.out | apply zk.set_ | apply jj | apply jv | apply jk | refine jw ?_ GW101.out _) | exact HK.out))));have n2_ := qq.mk (ww.below (by repeat (first | (with_reducible first | exact HI0.out | apply ww.alloc | apply ww.drewN | apply ww.drew | apply ww.set_1 | apply ww.set_2 | refine ww.far ?_ NB0_101.out _) | exact HI0.out)) hb);have n3_ := qq.mk (wj (g := gb101) (o := .cells #[.int .i64 0,.string (⟨#[]⟩ : ByteArray),.string (⟨#[]⟩ : ByteArray),.slice none 0 0,.slice none 0 0] 27 (0,0)) (by (with_reducible repeat (first | refine zz ?_ _ | refine zj ?_ | refine zq ?_ _));exact BK101.out) hb);have n4_ := qq.mk (zk.trans (by repeat (first | (with_reducible first | exact HK.out | apply zk.set_ | apply jj | apply jv | apply jk | refine jw ?_ GW101.out _) | exact HK.out)) (zk.of_below hb g none) (.inl rfl));have n5_ := qq.mk (zv (by repeat (first | (with_reducible first | exact HB.out | apply qj | apply qz | apply qk | refine qx ?_ (ww.ge HI0.out) | refine qx ?_ GE101.out) | exact HB.out)) hb);clear HO107;clear HI0;clear BK101;clear HK;clear HB;have HO107 := n0_;have HO113 := n1_;have HI0 := n2_;have BK101 := n3_;have HK := n4_;have HB := n5_;clear n0_ n1_ n2_ n3_ n4_ n5_;clear hb ho15;obtain ⟨Ao16,co16,eo16⟩ := Kd.R_slice HO113.out;subst eo16) | ((with_reducible refine kj (f := 134) rfl ?_);refine goesL_ (some 11) rfl rfl Try.func134 (by kernel_rfl) rfl #[.pointer (some ⟨g,0,none⟩),.slice Ao16 y111.length co16] rfl (by (try simp only [List.map_toArray,List.map_cons,List.map_nil]);first | done | rfl | (simp only [List.length_drop,List.length_take];rfl)) ?_;(with_reducible refine (qvz.calls g s0_0 t109 t110 _ _ y111 t114 t115 t116 w0 _ ?side1 ?side2 ?side3 ?side4 ?side5 A4.out).mono ?_);(case side1 => repeat (first | (with_reducible first | exact HI0.out | apply ww.alloc | apply ww.drewN | apply ww.drew | apply ww.set_1 | apply ww.set_2 | refine ww.far ?_ NB0_101.out _) | exact HI0.out));(case side2 => repeat (first | (with_reducible first | exact HB.out | apply qj | apply qz | apply qk | refine qx ?_ (ww.ge HI0.out) | refine qx ?_ GE101.out) | exact HB.out));(case side3 => repeat (first | exact (Kd.R_reads' HO113.out).2.2 | (with_reducible refine Kd.C_alloc ?_ _) | (with_reducible refine Kd.C_drewN ?_ _) | (with_reducible refine Kd.C_drew ?_)));(case side4 => exact (Kd.R_reads' HO113.out).2.1);(case side5 => exact far_slice (ww.own_ne HI0.out HO113.out (by decide)));rintro e w17 ⟨rfl,hi,hb,hk⟩;refine ⟨_,rfl,?_⟩;have n0_ := qq.mk (zk.blk hk (g' := gb101) (o := .cells #[.int .i64 0,.string (⟨#[]⟩ : ByteArray),.string (⟨#[]⟩ : ByteArray),.slice none 0 0,.slice none 0 0] 27 (0,0)) (by (with_reducible repeat (first | refine zz ?_ _ | refine zj ?_ | refine zq ?_ _));exact BK101.out) NB101_0.out (by simp));have n1_ := qq.mk (Kd.R_mono (Kd.R_keep (ww.apart (show ww w0 _ g s0_0 t109 t110 from by repeat (first | (with_reducible first | exact HI0.out | apply ww.alloc | apply ww.drewN | apply ww.drew | apply ww.set_1 | apply ww.set_2 | refine ww.far ?_ NB0_101.out _) | exact HI0.out)) (by (with_reducible repeat (first | apply Kd.jq | apply Kd.zx | apply Kd.jz));exact HO107.out) (by decide)) hk (fun _ h => h.2)) (fun _ h => h.1));have n2_ := qq.mk (Kd.R_mono (Kd.R_keep (ww.apart (show ww w0 _ g s0_0 t109 t110 from by repeat (first | (with_reducible first | exact HI0.out | apply ww.alloc | apply ww.drewN | apply ww.drew | apply ww.set_1 | apply ww.set_2 | refine ww.far ?_ NB0_101.out _) | exact HI0.out)) (by (with_reducible repeat (first | apply Kd.jq | apply Kd.zx | apply Kd.jz));exact HO113.out) (by decide)) hk (fun _ h => h.2)) (fun _ h => h.1));have n3_ := qq.mk (zk.trans (by repeat (first | (with_reducible first | exact HK.out | apply zk.set_ | apply jj | apply jv | apply jk | refine jw ?_ GW101.out _) | exact HK.out)) hk (.inl rfl));have n4_ := qq.mk (hb);have n5_ := qq.mk (hi);clear BK101;clear HO107;clear HO113;clear HK;clear HB;clear HI0;have BK101 := n0_;have HO107 := n1_;have HO113 := n2_;have HK := n3_;have HB := n4_;have HI0 := n5_;clear n0_ n1_ n2_ n3_ n4_ n5_;(try clear hb);(try clear hb2);(try clear hk);(try clear hi)) | ((with_reducible refine kj (f := 135) rfl ?_);refine goesL_ (some 13) rfl rfl Try.func135 (by kernel_rfl) rfl #[.pointer (some ⟨g,0,none⟩),.int .i64 4] rfl (by (try simp only [List.map_toArray,List.map_cons,List.map_nil]);first | done | rfl | (simp only [List.length_drop,List.length_take];rfl)) ?_;(with_reducible refine (qkj.calls k g s0_0 t115 t116 4 t117 t120 t121 w0 _ ?side1 ?side2 A5.out).mono ?_);(case side1 => repeat (first | (with_reducible first | exact HI0.out | apply ww.alloc | apply ww.drewN | apply ww.drew | apply ww.set_1 | apply ww.set_2 | refine ww.far ?_ NB0_101.out _) | exact HI0.out));(case side2 => repeat (first | (with_reducible first | exact HB.out | apply qj | apply qz | apply qk | refine qx ?_ (ww.ge HI0.out) | refine qx ?_ GE101.out) | exact HB.out));rintro e w18 ⟨v118,rfl,ho0,hi,hb,hk⟩;refine ⟨_,rfl,?_⟩;have n0_ := qq.mk (zk.blk hk (g' := gb101) (o := .cells #[.int .i64 0,.string (⟨#[]⟩ : ByteArray),.string (⟨#[]⟩ : ByteArray),.slice none 0 0,.slice none 0 0] 27 (0,0)) (by (with_reducible repeat (first | refine zz ?_ _ | refine zj ?_ | refine zq ?_ _));exact BK101.out) NB101_0.out (by simp));have n1_ := qq.mk (Kd.R_mono (Kd.R_keep (ww.apart (show ww w0 _ g s0_0 t115 t116 from by repeat (first | (with_reducible first | exact HI0.out | apply ww.alloc | apply ww.drewN | apply ww.drew | apply ww.set_1 | apply ww.set_2 | refine ww.far ?_ NB0_101.out _) | exact HI0.out)) (by (with_reducible repeat (first | apply Kd.jq | apply Kd.zx | apply Kd.jz));exact HO107.out) (by decide)) hk (fun _ h => h.2)) (fun _ h => h.1));have n2_ := qq.mk (Kd.R_mono (Kd.R_keep (ww.apart (show ww w0 _ g s0_0 t115 t116 from by repeat (first | (with_reducible first | exact HI0.out | apply ww.alloc | apply ww.drewN | apply ww.drew | apply ww.set_1 | apply ww.set_2 | refine ww.far ?_ NB0_101.out _) | exact HI0.out)) (by (with_reducible repeat (first | apply Kd.jq | apply Kd.zx | apply Kd.jz));exact HO113.out) (by decide)) hk (fun _ h => h.2)) (fun _ h => h.1));have n3_ := qq.mk (Kd.R_lower ho0 (keep_size (w := w) (g := g) (row := none) (by repeat (first | (with_reducible first | exact HK.out | apply zk.set_ | apply jj | apply jv | apply jk | refine jw ?_ GW101.out _) | exact HK.out))));have n4_ := qq.mk (zk.trans (by repeat (first | (with_reducible first | exact HK.out | apply zk.set_ | apply jj | apply jv | apply jk | refine jw ?_ GW101.out _) | exact HK.out)) hk (.inl rfl));have n5_ := qq.mk (hb);have n6_ := qq.mk (hi);clear BK101;clear HO107;clear HO113;clear HK;clear HB;clear HI0;have BK101 := n0_;have HO107 := n1_;have HO113 := n2_;have HO119 := n3_;have HK := n4_;have HB := n5_;have HI0 := n6_;clear n0_ n1_ n2_ n3_ n4_ n5_ n6_;(try clear hb);(try clear hb2);(try clear hk);(try clear hi);(try clear ho0);obtain ⟨Ao19,co19,eo19⟩ := Kd.R_slice HO119.out;subst eo19) | ((with_reducible refine gate_dst (N := 3) rfl ?_);refine box_event ?hg (N := 3) ?hd (cs := #[.int .i64 0,.string (⟨#[]⟩ : ByteArray),.string (⟨#[]⟩ : ByteArray),.slice none 0 0,.slice none 0 0]) (t := 27) ?hr ?_;(case hd => rfl);(case hg => rfl);(case hr => first | (go_simp;done) | (go_simp;rfl));intro gb122 hg w20 hbox hb;have n0_ := qq.mk (Kd.R_below (by (with_reducible repeat (first | apply Kd.jq | apply Kd.zx | apply Kd.jz));exact HO107.out) hb);have n1_ := qq.mk (Kd.R_below (by (with_reducible repeat (first | apply Kd.jq | apply Kd.zx | apply Kd.jz));exact HO113.out) hb);have n2_ := qq.mk (Kd.R_below (by (with_reducible repeat (first | apply Kd.jq | apply Kd.zx | apply Kd.jz));exact HO119.out) hb);have n3_ := qq.mk (ww.below (by repeat (first | (with_reducible first | exact HI0.out | apply ww.alloc | apply ww.drewN | apply ww.drew | apply ww.set_1 | apply ww.set_2 | refine ww.far ?_ NB0_101.out _) | exact HI0.out)) hb);have n4_ := qq.mk (wj (g := gb101) (o := .cells #[.int .i64 0,.string (⟨#[]⟩ : ByteArray),.string (⟨#[]⟩ : ByteArray),.slice none 0 0,.slice none 0 0] 27 (0,0)) (by (with_reducible repeat (first | refine zz ?_ _ | refine zj ?_ | refine zq ?_ _));exact BK101.out) hb);have n5_ := qq.mk (zk.trans (by repeat (first | (with_reducible first | exact HK.out | apply zk.set_ | apply jj | apply jv | apply jk | refine jw ?_ GW101.out _) | exact HK.out)) (zk.of_below hb g none) (.inl rfl));have n6_ := qq.mk (zv (by repeat (first | (with_reducible first | exact HB.out | apply qj | apply qz | apply qk | refine qx ?_ (ww.ge HI0.out) | refine qx ?_ GE101.out) | exact HB.out)) hb);have n7_ := qq.mk (hbox);have n8_ := qq.mk ((by rw [hg];exact (keep_size (w := w) (g := g) (row := none) (by repeat (first | (with_reducible first | exact HK.out | apply zk.set_ | apply jj | apply jv | apply jk | refine jw ?_ GW101.out _) | exact HK.out))) : w.heap.size ≤ gb122));have n9_ := qq.mk ((Nat.le_trans HW0.out (by rw [hg];exact (keep_size (w := w) (g := g) (row := none) (by repeat (first | (with_reducible first | exact HK.out | apply zk.set_ | apply jj | apply jv | apply jk | refine jw ?_ GW101.out _) | exact HK.out))) : w.heap.size ≤ gb122) : w0.heap.size ≤ gb122));have n10_ := qq.mk ((by rw [hg];exact Nat.ne_of_lt (blk_lt (g := gb101) (o := .cells #[.int .i64 0,.string (⟨#[]⟩ : ByteArray),.string (⟨#[]⟩ : ByteArray),.slice none 0 0,.slice none 0 0] 27 (0,0)) (by (with_reducible repeat (first | refine zz ?_ _ | refine zj ?_ | refine zq ?_ _));exact BK101.out)) : gb101 ≠ gb122));have n11_ := qq.mk ((by rw [hg];exact Nat.ne_of_gt (blk_lt (g := gb101) (o := .cells #[.int .i64 0,.string (⟨#[]⟩ : ByteArray),.string (⟨#[]⟩ : ByteArray),.slice none 0 0,.slice none 0 0] 27 (0,0)) (by (with_reducible repeat (first | refine zz ?_ _ | refine zj ?_ | refine zq ?_ _));exact BK101.out)) : gb122 ≠ gb101));have n12_ := qq.mk ((by rw [hg];exact Nat.ne_of_lt (ww.lt (show ww w0 _ g s0_0 t120 t121 from by repeat (first | (with_reducible first | exact HI0.out | apply ww.alloc | apply ww.drewN | apply ww.drew | apply ww.set_1 | apply ww.set_2 | refine ww.far ?_ NB0_101.out _) | exact HI0.out))) : g ≠ gb122));have n13_ := qq.mk ((by rw [hg];exact Nat.ne_of_gt (ww.lt (show ww w0 _ g s0_0 t120 t121 from by repeat (first | (with_reducible first | exact HI0.out | apply ww.alloc | apply ww.drewN | apply ww.drew | apply ww.set_1 | apply ww.set_2 | refine ww.far ?_ NB0_101.out _) | exact HI0.out))) : gb122 ≠ g));clear HO107;clear HO113;clear HO119;clear HI0;clear BK101;clear HK;clear HB;have HO107 := n0_;have HO113 := n1_;have HO119 := n2_;have HI0 := n3_;have BK101 := n4_;have HK := n5_;have HB := n6_;have BK122 := n7_;have GW122 := n8_;have GE122 := n9_;have NB101_122 := n10_;have NB122_101 := n11_;have NB0_122 := n12_;have NB122_0 := n13_;clear n0_ n1_ n2_ n3_ n4_ n5_ n6_ n7_ n8_ n9_ n10_ n11_ n12_ n13_;clear hb hbox hg;have hnb21 := NB122_101.out;have hnc21 := NB101_122.out;have hnb22 := NB122_0.out;have hnc22 := NB0_122.out;have hcz23_0 : w20.cell? ⟨gb122,0,none⟩ = some (.int .i64 0) := (qw BK122.out 0).trans rfl;have hcz23_1 : w20.cell? ⟨gb122,1,none⟩ = some (.string (⟨#[]⟩ : ByteArray)) := (qw BK122.out 1).trans rfl;have hcz23_2 : w20.cell? ⟨gb122,2,none⟩ = some (.string (⟨#[]⟩ : ByteArray)) := (qw BK122.out 2).trans rfl;have hcz23_3 : w20.cell? ⟨gb122,3,none⟩ = some (.slice none 0 0) := (qw BK122.out 3).trans rfl;have hcz23_4 : w20.cell? ⟨gb122,4,none⟩ = some (.slice none 0 0) := (qw BK122.out 4).trans rfl;have hfz23_0 := qv BK122.out 0;have hfz23_1 := qv BK122.out 1;have hfz23_2 := qv BK122.out 2;have hfz23_3 := qv BK122.out 3;have hfz23_4 := qv BK122.out 4) | ((with_reducible refine kj (f := 131) rfl ?_);refine goesL_ (some 16) rfl rfl Try.func131 (by kernel_rfl) rfl #[.pointer (some ⟨g,0,none⟩),.int .i64 20] rfl (by (try simp only [List.map_toArray,List.map_cons,List.map_nil]);first | done | rfl | (simp only [List.length_drop,List.length_take];rfl)) ?_;(with_reducible refine (qvj.calls g s0_0 t120 t121 20 t123 t124 t125 w0 _ ?side1 ?side2 A6.out).mono ?_);(case side1 => repeat (first | (with_reducible first | exact HI0.out | apply ww.alloc | apply ww.drewN | apply ww.drew | apply ww.set_1 | apply ww.set_2 | refine ww.far ?_ NB0_101.out _ | refine ww.far ?_ NB0_122.out _) | exact HI0.out));(case side2 => repeat (first | (with_reducible first | exact HB.out | apply qj | apply qz | apply qk | refine qx ?_ (ww.ge HI0.out) | refine qx ?_ GE101.out | refine qx ?_ GE122.out) | exact HB.out));rintro e w24 ⟨rfl,hi,hb,hk⟩;refine ⟨_,rfl,?_⟩;have n0_ := qq.mk (zk.blk hk (g' := gb101) (o := .cells #[.int .i64 0,.string (⟨#[]⟩ : ByteArray),.string (⟨#[]⟩ : ByteArray),.slice none 0 0,.slice none 0 0] 27 (0,0)) (by (with_reducible repeat (first | refine zz ?_ _ | refine zj ?_ | refine zq ?_ _));refine blk_far ?_ NB101_122.out _;(with_reducible repeat (first | refine zz ?_ _ | refine zj ?_ | refine zq ?_ _));refine blk_far ?_ NB101_122.out _;(with_reducible repeat (first | refine zz ?_ _ | refine zj ?_ | refine zq ?_ _));refine blk_far ?_ NB101_122.out _;(with_reducible repeat (first | refine zz ?_ _ | refine zj ?_ | refine zq ?_ _));refine blk_far ?_ NB101_122.out _;(with_reducible repeat (first | refine zz ?_ _ | refine zj ?_ | refine zq ?_ _));refine blk_far ?_ NB101_122.out _;(with_reducible repeat (first | refine zz ?_ _ | refine zj ?_ | refine zq ?_ _));exact BK101.out) NB101_0.out (by simp));have n1_ := qq.mk (Kd.R_mono (Kd.R_keep (ww.apart (show ww w0 _ g s0_0 t120 t121 from by repeat (first | (with_reducible first | exact HI0.out | apply ww.alloc | apply ww.drewN | apply ww.drew | apply ww.set_1 | apply ww.set_2 | refine ww.far ?_ NB0_101.out _ | refine ww.far ?_ NB0_122.out _) | exact HI0.out)) (by (with_reducible repeat (first | apply Kd.jq | apply Kd.zx | apply Kd.jz));exact (Kd.R_mono (Kd.R_far (p := ⟨gb122,4,none⟩) (Kd.R_far (p := ⟨gb122,3,none⟩) (Kd.R_far (p := ⟨gb122,2,none⟩) (Kd.R_far (p := ⟨gb122,1,none⟩) (Kd.R_far (p := ⟨gb122,0,none⟩) (Kd.R_types HO107.out BK122.out (by decide)) (fun _ hk => hk.2) (.int .i64 t102)) (fun _ hk => hk.2) (.string t108)) (fun _ hk => hk.2) (.string t114)) (fun _ hk => hk.2) (.slice Ao19 t117.length co19)) (fun _ hk => hk.2) (.slice none 0 0)) (fun _ h_ => h_.1))) (by decide)) hk (fun _ h => h.2)) (fun _ h => h.1));have n2_ := qq.mk (Kd.R_mono (Kd.R_keep (ww.apart (show ww w0 _ g s0_0 t120 t121 from by repeat (first | (with_reducible first | exact HI0.out | apply ww.alloc | apply ww.drewN | apply ww.drew | apply ww.set_1 | apply ww.set_2 | refine ww.far ?_ NB0_101.out _ | refine ww.far ?_ NB0_122.out _) | exact HI0.out)) (by (with_reducible repeat (first | apply Kd.jq | apply Kd.zx | apply Kd.jz));exact (Kd.R_mono (Kd.R_far (p := ⟨gb122,4,none⟩) (Kd.R_far (p := ⟨gb122,3,none⟩) (Kd.R_far (p := ⟨gb122,2,none⟩) (Kd.R_far (p := ⟨gb122,1,none⟩) (Kd.R_far (p := ⟨gb122,0,none⟩) (Kd.R_types HO113.out BK122.out (by decide)) (fun _ hk => hk.2) (.int .i64 t102)) (fun _ hk => hk.2) (.string t108)) (fun _ hk => hk.2) (.string t114)) (fun _ hk => hk.2) (.slice Ao19 t117.length co19)) (fun _ hk => hk.2) (.slice none 0 0)) (fun _ h_ => h_.1))) (by decide)) hk (fun _ h => h.2)) (fun _ h => h.1));have n3_ := qq.mk (Kd.R_mono (Kd.R_keep (ww.apart (show ww w0 _ g s0_0 t120 t121 from by repeat (first | (with_reducible first | exact HI0.out | apply ww.alloc | apply ww.drewN | apply ww.drew | apply ww.set_1 | apply ww.set_2 | refine ww.far ?_ NB0_101.out _ | refine ww.far ?_ NB0_122.out _) | exact HI0.out)) (by (with_reducible repeat (first | apply Kd.jq | apply Kd.zx | apply Kd.jz));exact (Kd.R_mono (Kd.R_far (p := ⟨gb122,4,none⟩) (Kd.R_far (p := ⟨gb122,3,none⟩) (Kd.R_far (p := ⟨gb122,2,none⟩) (Kd.R_far (p := ⟨gb122,1,none⟩) (Kd.R_far (p := ⟨gb122,0,none⟩) (Kd.R_types HO119.out BK122.out (by decide)) (fun _ hk => hk.2) (.int .i64 t102)) (fun _ hk => hk.2) (.string t108)) (fun _ hk => hk.2) (.string t114)) (fun _ hk => hk.2) (.slice Ao19 t117.length co19)) (fun _ hk => hk.2) (.slice none 0 0)) (fun _ h_ => h_.1))) (by decide)) hk (fun _ h => h.2)) (fun _ h => h.1));have n4_ := qq.mk (zk.blk hk (g' := gb122) (o := .cells #[.int .i64 t102,.string t108,.string t114,.slice Ao19 t117.length co19,.slice none 0 0] 27 (0,0)) (by (with_reducible repeat (first | refine zz ?_ _ | refine zj ?_ | refine zq ?_ _));refine blk_put (cs := #[.int .i64 t102,.string t108,.string t114,.slice Ao19 t117.length co19,.slice none 0 0]) ?_ 4 _ rfl;(with_reducible repeat (first | refine zz ?_ _ | refine zj ?_ | refine zq ?_ _));refine blk_put (cs := #[.int .i64 t102,.string t108,.string t114,.slice none 0 0,.slice none 0 0]) ?_ 3 _ rfl;(with_reducible repeat (first | refine zz ?_ _ | refine zj ?_ | refine zq ?_ _));refine blk_put (cs := #[.int .i64 t102,.string t108,.string (⟨#[]⟩ : ByteArray),.slice none 0 0,.slice none 0 0]) ?_ 2 _ rfl;(with_reducible repeat (first | refine zz ?_ _ | refine zj ?_ | refine zq ?_ _));refine blk_put (cs := #[.int .i64 t102,.string (⟨#[]⟩ : ByteArray),.string (⟨#[]⟩ : ByteArray),.slice none 0 0,.slice none 0 0]) ?_ 1 _ rfl;(with_reducible repeat (first | refine zz ?_ _ | refine zj ?_ | refine zq ?_ _));refine blk_put (cs := #[.int .i64 0,.string (⟨#[]⟩ : ByteArray),.string (⟨#[]⟩ : ByteArray),.slice none 0 0,.slice none 0 0]) ?_ 0 _ rfl;(with_reducible repeat (first | refine zz ?_ _ | refine zj ?_ | refine zq ?_ _));exact BK122.out) NB122_0.out (by simp));have n5_ := qq.mk (zk.trans (by repeat (first | (with_reducible first | exact HK.out | apply zk.set_ | apply jj | apply jv | apply jk | refine jw ?_ GW101.out _ | refine jw ?_ GW122.out _) | exact HK.out)) hk (.inl rfl));have n6_ := qq.mk (hb);have n7_ := qq.mk (hi);clear BK101;clear HO107;clear HO113;clear HO119;clear BK122;clear HK;clear HB;clear HI0;have BK101 := n0_;have HO107 := n1_;have HO113 := n2_;have HO119 := n3_;have BK122 := n4_;have HK := n5_;have HB := n6_;have HI0 := n7_;clear n0_ n1_ n2_ n3_ n4_ n5_ n6_ n7_;(try clear hb);(try clear hb2);(try clear hk);(try clear hi)))
 (try simp only [Act.put,List.setIfInBounds_toArray,List.set_cons_zero,List.set_cons_succ])
 go_cut [] (fun wc => ∃ (kq : Nat) (x123000_6 : Int),qq (qkv.j0 kq s0_0 t124 t125 x123000_6 t108 t114 t117 = some (r1,r2,r3,r4,r5,r6,r7)) ∧ qq (kq ≤ k) ∧ qq (Kd.R (Kd.int .u8) 5 wc w.heap.size (fun _ => True) (.slice Ao19 t117.length co19) t117) ∧ qq (wc.heap[gb101]? = some (.cells #[.int .i64 0,.string (⟨#[]⟩ : ByteArray),.string (⟨#[]⟩ : ByteArray),(.slice none 0 0),(.slice none 0 0)] 27 (0,0))) ∧ qq (wc.heap[gb122]? = some (.cells #[.int .i64 x123000_6,.string t108,.string t114,(.slice Ao19 t117.length co19),(.slice none 0 0)] 27 (0,0))) ∧ qq (ww w0 wc g s0_0 t124 t125) ∧ qq (zk w wc g none) ∧ qq (Below w0.heap.size w0 wc))
 case first =>
  have H := HC7.out
  clear HC7
  by_cases c25 : t123 = true
  ·subst c25
   have H1 : (qkv.j0 k s0_0 t124 t125 100000000000 t108 t114 t117) = some (r1,r2,r3,r4,r5,r6,r7) := by rw [if_pos rfl] at H;exact H
   clear H
   have H := H1
   clear H1
   have H' := qq.mk H
   clear H
   have hnb26 := NB122_101.out
   have hnc26 := NB101_122.out
   have hnb27 := NB122_0.out
   have hnc27 := NB0_122.out
   have hcz28_0 : w24.cell? ⟨gb122,0,none⟩ = some (.int .i64 t102) := (qw BK122.out 0).trans rfl
   have hcz28_1 : w24.cell? ⟨gb122,1,none⟩ = some (.string t108) := (qw BK122.out 1).trans rfl
   have hcz28_2 : w24.cell? ⟨gb122,2,none⟩ = some (.string t114) := (qw BK122.out 2).trans rfl
   have hcz28_3 : w24.cell? ⟨gb122,3,none⟩ = some (.slice Ao19 t117.length co19) := (qw BK122.out 3).trans rfl
   have hcz28_4 : w24.cell? ⟨gb122,4,none⟩ = some (.slice none 0 0) := (qw BK122.out 4).trans rfl
   have hfz28_0 := qv BK122.out 0
   have hfz28_1 := qv BK122.out 1
   have hfz28_2 := qv BK122.out 2
   have hfz28_3 := qv BK122.out 3
   have hfz28_4 := qv BK122.out 4
   go_wp2
   go_meet
   case rel => exact ⟨_,(100000000000),H',⟨by first | omega | exact Nat.le_refl _⟩,⟨by (with_reducible repeat (first | apply Kd.jq | apply Kd.zx | apply Kd.jz));exact Kd.R_mono (Kd.R_far (p := ⟨gb122,0,none⟩) (Kd.R_types HO119.out BK122.out (by decide)) (fun _ hk => hk.2) (.int .i64 100000000000)) (fun _ hk => trivial)⟩,⟨by (with_reducible repeat (first | refine zz ?_ _ | refine zj ?_ | refine zq ?_ _));refine blk_far ?_ NB101_122.out _;(with_reducible repeat (first | refine zz ?_ _ | refine zj ?_ | refine zq ?_ _));exact BK101.out⟩,⟨by (with_reducible repeat (first | refine zz ?_ _ | refine zj ?_ | refine zq ?_ _));refine blk_put (cs := #[.int .i64 t102,.string t108,.string t114,.slice Ao19 t117.length co19,.slice none 0 0]) ?_ 0 _ rfl;(with_reducible repeat (first | refine zz ?_ _ | refine zj ?_ | refine zq ?_ _));exact BK122.out⟩,⟨by repeat (first | (with_reducible first | exact HI0.out | apply ww.alloc | apply ww.drewN | apply ww.drew | apply ww.set_1 | apply ww.set_2 | refine ww.far ?_ NB0_101.out _ | refine ww.far ?_ NB0_122.out _) | exact HI0.out)⟩,⟨by repeat (first | (with_reducible first | exact HK.out | apply zk.set_ | apply jj | apply jv | apply jk | refine jw ?_ GW101.out _ | refine jw ?_ GW122.out _) | exact HK.out)⟩,⟨by repeat (first | (with_reducible first | exact HB.out | apply qj | apply qz | apply qk | refine qx ?_ (ww.ge HI0.out) | refine qx ?_ GE101.out | refine qx ?_ GE122.out) | exact HB.out)⟩⟩
  ·replace c25 := Bool.eq_false_iff.mpr c25
   subst c25
   have H1 : (qkv.j0 k s0_0 t124 t125 t102 t108 t114 t117) = some (r1,r2,r3,r4,r5,r6,r7) := by rw [if_neg (show ¬ (false = true) by decide)] at H;exact H
   clear H
   have H := H1
   clear H1
   have H' := qq.mk H
   clear H
   go_wp2
   go_meet
   case rel => exact ⟨_,(t102),H',⟨by first | omega | exact Nat.le_refl _⟩,⟨by (with_reducible repeat (first | apply Kd.jq | apply Kd.zx | apply Kd.jz));exact HO119.out⟩,⟨by (with_reducible repeat (first | refine zz ?_ _ | refine zj ?_ | refine zq ?_ _));exact BK101.out⟩,⟨by (with_reducible repeat (first | refine zz ?_ _ | refine zj ?_ | refine zq ?_ _));exact BK122.out⟩,⟨by repeat (first | (with_reducible first | exact HI0.out | apply ww.alloc | apply ww.drewN | apply ww.drew | apply ww.set_1 | apply ww.set_2 | refine ww.far ?_ NB0_101.out _ | refine ww.far ?_ NB0_122.out _) | exact HI0.out)⟩,⟨by repeat (first | (with_reducible first | exact HK.out | apply zk.set_ | apply jj | apply jv | apply jk | refine jw ?_ GW101.out _ | refine jw ?_ GW122.out _) | exact HK.out)⟩,⟨by repeat (first | (with_reducible first | exact HB.out | apply qj | apply qz | apply qk | refine qx ?_ (ww.ge HI0.out) | refine qx ?_ GE101.out | refine qx ?_ GE122.out) | exact HB.out)⟩⟩
 case rest =>
  clear HC7
  try clear c1
  try clear c2
  try clear p2
  try clear c10
  try clear c11
  try clear c13
  try clear c21
  try clear c22
  try clear c25
  try clear c26
  try clear c27
  try clear hcz23_0
  try clear hcz23_1
  try clear hcz23_2
  try clear hcz23_3
  try clear hcz23_4
  try clear hcz28_0
  try clear hcz28_1
  try clear hcz28_2
  try clear hcz28_3
  try clear hcz28_4
  try clear hfz23_0
  try clear hfz23_1
  try clear hfz23_2
  try clear hfz23_3
  try clear hfz23_4
  try clear hfz28_0
  try clear hfz28_1
  try clear hfz28_2
  try clear hfz28_3
  try clear hfz28_4
  obtain ⟨kq,x123000_6,HA,HJ6,HO_123003,BK101,BK122,HI0,HK,HB⟩ := hcut
  cases kq with
  | zero => exact absurd HA.out (by simp [qkv.j0])
  | succ kj6 =>
   have H := HA.out
   clear HA
   simp only [qkv.j0] at H
   replace H := Option.bind_eq_some_iff.mp H
   obtain ⟨⟨t126,t127,t128⟩,A290,H⟩ := H
   replace H : (if t126 = true then ((qkq.f kj6 x123000_6 t108 t114 t117 ([] : List Int)).bind fun bt129 => (some (bt129.1,bt129.2.1,bt129.2.2.1,bt129.2.2.2.1,bt129.2.2.2.2,t127,t128))) else (some (x123000_6,t108,t114,t117,([] : List Int),t127,t128))) = some (r1,r2,r3,r4,r5,r6,r7) := H
   have A29 := qq.mk A290
   clear A290
   by_cases c30 : t126 = true
   ·subst c30
    have H1 : ((qkq.f kj6 x123000_6 t108 t114 t117 ([] : List Int)).bind fun bt129 => (some (bt129.1,bt129.2.1,bt129.2.2.1,bt129.2.2.2.1,bt129.2.2.2.2,t127,t128))) = some (r1,r2,r3,r4,r5,r6,r7) := by rw [if_pos rfl] at H;exact H
    clear H
    have H := H1
    clear H1
    replace H := Option.bind_eq_some_iff.mp H
    obtain ⟨⟨t129,t130,t131,t132,t135⟩,A310,H⟩ := H
    replace H : (some (t129,t130,t131,t132,t135,t127,t128)) = some (r1,r2,r3,r4,r5,r6,r7) := H
    have A31 := qq.mk A310
    clear A310
    simp only [Option.some.injEq,Prod.mk.injEq] at H
    obtain ⟨rfl,rfl,rfl,rfl,rfl,rfl,rfl⟩ := H
    go_wp2_with (first | ((with_reducible refine kj (f := 131) rfl ?_);refine goesL_ (some 19) rfl rfl Try.func131 (by kernel_rfl) rfl #[.pointer (some ⟨g,0,none⟩),.int .i64 5] rfl (by (try simp only [List.map_toArray,List.map_cons,List.map_nil]);first | done | rfl | (simp only [List.length_drop,List.length_take];rfl)) ?_;(with_reducible refine (qvj.calls g s0_0 t124 t125 5 true t127 t128 w0 _ ?side1 ?side2 A29.out).mono ?_);(case side1 => repeat (first | (with_reducible first | exact HI0.out | apply ww.alloc | apply ww.drewN | apply ww.drew | apply ww.set_1 | apply ww.set_2 | refine ww.far ?_ NB0_101.out _ | refine ww.far ?_ NB0_122.out _) | exact HI0.out));(case side2 => repeat (first | (with_reducible first | exact HB.out | apply qj | apply qz | apply qk | refine qx ?_ (ww.ge HI0.out) | refine qx ?_ GE101.out | refine qx ?_ GE122.out) | exact HB.out));rintro e w32 ⟨rfl,hi,hb,hk⟩;refine ⟨_,rfl,?_⟩;have n0_ := qq.mk (Kd.R_mono (Kd.R_keep (ww.apart (show ww w0 _ g s0_0 t124 t125 from by repeat (first | (with_reducible first | exact HI0.out | apply ww.alloc | apply ww.drewN | apply ww.drew | apply ww.set_1 | apply ww.set_2 | refine ww.far ?_ NB0_101.out _ | refine ww.far ?_ NB0_122.out _) | exact HI0.out)) (by (with_reducible repeat (first | apply Kd.jq | apply Kd.zx | apply Kd.jz));exact HO_123003.out) (by decide)) hk (fun _ h => h.2)) (fun _ h => h.1));have n1_ := qq.mk (zk.blk hk (g' := gb101) (o := .cells #[.int .i64 0,.string (⟨#[]⟩ : ByteArray),.string (⟨#[]⟩ : ByteArray),.slice none 0 0,.slice none 0 0] 27 (0,0)) (by (with_reducible repeat (first | refine zz ?_ _ | refine zj ?_ | refine zq ?_ _));exact BK101.out) NB101_0.out (by simp));have n2_ := qq.mk (zk.blk hk (g' := gb122) (o := .cells #[.int .i64 x123000_6,.string t108,.string t114,.slice Ao19 t117.length co19,.slice none 0 0] 27 (0,0)) (by (with_reducible repeat (first | refine zz ?_ _ | refine zj ?_ | refine zq ?_ _));exact BK122.out) NB122_0.out (by simp));have n3_ := qq.mk (zk.trans (by repeat (first | (with_reducible first | exact HK.out | apply zk.set_ | apply jj | apply jv | apply jk | refine jw ?_ GW101.out _ | refine jw ?_ GW122.out _) | exact HK.out)) hk (.inl rfl));have n4_ := qq.mk (hb);have n5_ := qq.mk (hi);clear HO_123003;clear BK101;clear BK122;clear HK;clear HB;clear HI0;have HO_123003 := n0_;have BK101 := n1_;have BK122 := n2_;have HK := n3_;have HB := n4_;have HI0 := n5_;clear n0_ n1_ n2_ n3_ n4_ n5_;(try clear hb);(try clear hb2);(try clear hk);(try clear hi);have hnb33 := NB122_101.out;have hnc33 := NB101_122.out;have hnb34 := NB122_0.out;have hnc34 := NB0_122.out;have hcz35_0 : w32.cell? ⟨gb122,0,none⟩ = some (.int .i64 x123000_6) := (qw BK122.out 0).trans rfl;have hcz35_1 : w32.cell? ⟨gb122,1,none⟩ = some (.string t108) := (qw BK122.out 1).trans rfl;have hcz35_2 : w32.cell? ⟨gb122,2,none⟩ = some (.string t114) := (qw BK122.out 2).trans rfl;have hcz35_3 : w32.cell? ⟨gb122,3,none⟩ = some (.slice Ao19 t117.length co19) := (qw BK122.out 3).trans rfl;have hcz35_4 : w32.cell? ⟨gb122,4,none⟩ = some (.slice none 0 0) := (qw BK122.out 4).trans rfl;have hfz35_0 := qv BK122.out 0;have hfz35_1 := qv BK122.out 1;have hfz35_2 := qv BK122.out 2;have hfz35_3 := qv BK122.out 3;have hfz35_4 := qv BK122.out 4) | ((with_reducible refine kj (f := 30) rfl ?_);refine goesL_ (some 21) rfl rfl Try.func30 (by kernel_rfl) rfl #[.agg #[.int .i64 x123000_6,.string t108,.string t114,.slice Ao19 t117.length co19,.slice none 0 0]] rfl (by (try simp only [List.map_toArray,List.map_cons,List.map_nil]);first | done | rfl | (simp only [List.length_drop,List.length_take];rfl)) ?_;(refine (qkq.calls kj6 x123000_6 t108 t114 _ _ t117 _ _ ([] : List Int) t129 t130 t131 t132 t135 _ ?side1 ?side2 ?side3 ?side4 A31.out).mono ?_);(case side1 => repeat (first | exact (Kd.R_reads' HO_123003.out).2.2 | (with_reducible refine Kd.C_alloc ?_ _) | (with_reducible refine Kd.C_drewN ?_ _) | (with_reducible refine Kd.C_drew ?_)));(case side2 => exact (Kd.R_reads' HO_123003.out).2.1);(case side3 => exact Kd.C_nil _ _);(case side4 => exact Nat.le_refl _);rintro e w36 ⟨v133,v136,rfl,ho0,ho1,hb⟩;refine ⟨_,rfl,?_⟩;have n0_ := qq.mk (Kd.R_mono (Kd.R_told (Kd.R_told (Kd.R_old (by (with_reducible repeat (first | apply Kd.jq | apply Kd.zx | apply Kd.jz));exact HO_123003.out) hb) (Kd.R_base ho0)) (Kd.R_base ho1)) (fun _ h_ => h_.1));have n1_ := qq.mk (Kd.R_lower (Kd.R_new' ho0 (Kd.R_lt (by (with_reducible repeat (first | apply Kd.jq | apply Kd.zx | apply Kd.jz));exact HO_123003.out))) (keep_size (w := w) (g := g) (row := none) (by repeat (first | (with_reducible first | exact HK.out | apply zk.set_ | apply jj | apply jv | apply jk | refine jw ?_ GW101.out _ | refine jw ?_ GW122.out _) | exact HK.out))));have n2_ := qq.mk (Kd.R_lower (Kd.R_new' ho1 (Kd.R_lt (by (with_reducible repeat (first | apply Kd.jq | apply Kd.zx | apply Kd.jz));exact HO_123003.out))) (keep_size (w := w) (g := g) (row := none) (by repeat (first | (with_reducible first | exact HK.out | apply zk.set_ | apply jj | apply jv | apply jk | refine jw ?_ GW101.out _ | refine jw ?_ GW122.out _) | exact HK.out))));have n3_ := qq.mk (wj (g := gb101) (o := .cells #[.int .i64 0,.string (⟨#[]⟩ : ByteArray),.string (⟨#[]⟩ : ByteArray),.slice none 0 0,.slice none 0 0] 27 (0,0)) (by (with_reducible repeat (first | refine zz ?_ _ | refine zj ?_ | refine zq ?_ _));exact BK101.out) hb);have n4_ := qq.mk (wj (g := gb122) (o := .cells #[.int .i64 x123000_6,.string t108,.string t114,.slice Ao19 t117.length co19,.slice none 0 0] 27 (0,0)) (by (with_reducible repeat (first | refine zz ?_ _ | refine zj ?_ | refine zq ?_ _));exact BK122.out) hb);have n5_ := qq.mk (ww.below (by repeat (first | (with_reducible first | exact HI0.out | apply ww.alloc | apply ww.drewN | apply ww.drew | apply ww.set_1 | apply ww.set_2 | refine ww.far ?_ NB0_101.out _ | refine ww.far ?_ NB0_122.out _) | exact HI0.out)) hb);have n6_ := qq.mk (zk.trans (by repeat (first | (with_reducible first | exact HK.out | apply zk.set_ | apply jj | apply jv | apply jk | refine jw ?_ GW101.out _ | refine jw ?_ GW122.out _) | exact HK.out)) (zk.of_below hb g none) (.inl rfl));have n7_ := qq.mk (zv (by repeat (first | (with_reducible first | exact HB.out | apply qj | apply qz | apply qk | refine qx ?_ (ww.ge HI0.out) | refine qx ?_ GE101.out | refine qx ?_ GE122.out) | exact HB.out)) hb);clear HO_123003;clear BK101;clear BK122;clear HI0;clear HK;clear HB;have HO_123003 := n0_;have HO134 := n1_;have HO137 := n2_;have BK101 := n3_;have BK122 := n4_;have HI0 := n5_;have HK := n6_;have HB := n7_;clear n0_ n1_ n2_ n3_ n4_ n5_ n6_ n7_;(try clear hb);(try clear hb2);(try clear hk);(try clear hi);(try clear ho0);(try clear ho1);have hnb37 := NB101_0.out;have hnc37 := NB0_101.out;have hcz38_0 : w36.cell? ⟨gb101,0,none⟩ = some (.int .i64 0) := (qw BK101.out 0).trans rfl;have hcz38_1 : w36.cell? ⟨gb101,1,none⟩ = some (.string (⟨#[]⟩ : ByteArray)) := (qw BK101.out 1).trans rfl;have hcz38_2 : w36.cell? ⟨gb101,2,none⟩ = some (.string (⟨#[]⟩ : ByteArray)) := (qw BK101.out 2).trans rfl;have hcz38_3 : w36.cell? ⟨gb101,3,none⟩ = some (.slice none 0 0) := (qw BK101.out 3).trans rfl;have hcz38_4 : w36.cell? ⟨gb101,4,none⟩ = some (.slice none 0 0) := (qw BK101.out 4).trans rfl;have hfz38_0 := qv BK101.out 0;have hfz38_1 := qv BK101.out 1;have hfz38_2 := qv BK101.out 2;have hfz38_3 := qv BK101.out 3;have hfz38_4 := qv BK101.out 4;obtain ⟨Ao39,co39,eo39⟩ := Kd.R_slice HO134.out;subst eo39;obtain ⟨Ao40,co40,eo40⟩ := Kd.R_slice HO137.out;subst eo40))
    refine bodyPost_ret (results_cell_row rfl _ _ gb101 27 #[.int .i64 t129,.string t130,.string t131,.slice Ao39 t132.length co39,.slice Ao40 t135.length co40] (0,0) _ rfl (by (with_reducible repeat (first | refine zz ?_ _ | refine zj ?_ | refine zq ?_ _));refine blk_put (cs := #[.int .i64 t129,.string t130,.string t131,.slice Ao39 t132.length co39,.slice none 0 0]) ?_ 4 _ rfl;(with_reducible repeat (first | refine zz ?_ _ | refine zj ?_ | refine zq ?_ _));refine blk_put (cs := #[.int .i64 t129,.string t130,.string t131,.slice none 0 0,.slice none 0 0]) ?_ 3 _ rfl;(with_reducible repeat (first | refine zz ?_ _ | refine zj ?_ | refine zq ?_ _));refine blk_put (cs := #[.int .i64 t129,.string t130,.string (⟨#[]⟩ : ByteArray),.slice none 0 0,.slice none 0 0]) ?_ 2 _ rfl;(with_reducible repeat (first | refine zz ?_ _ | refine zj ?_ | refine zq ?_ _));refine blk_put (cs := #[.int .i64 t129,.string (⟨#[]⟩ : ByteArray),.string (⟨#[]⟩ : ByteArray),.slice none 0 0,.slice none 0 0]) ?_ 1 _ rfl;(with_reducible repeat (first | refine zz ?_ _ | refine zj ?_ | refine zq ?_ _));refine blk_put (cs := #[.int .i64 0,.string (⟨#[]⟩ : ByteArray),.string (⟨#[]⟩ : ByteArray),.slice none 0 0,.slice none 0 0]) ?_ 0 _ rfl;(with_reducible repeat (first | refine zz ?_ _ | refine zj ?_ | refine zq ?_ _));exact BK101.out) Try.underlying27 rfl (by kernel_rfl)) rfl ?_
    exact ⟨_,_,by first | rfl | (simp [*,kz,jx] <;> rfl),by (with_reducible repeat (first | apply Kd.jq | apply Kd.zx | apply Kd.jz));exact Kd.R_mono (Kd.R_far (p := ⟨gb101,4,none⟩) (Kd.R_far (p := ⟨gb101,3,none⟩) (Kd.R_far (p := ⟨gb101,2,none⟩) (Kd.R_far (p := ⟨gb101,1,none⟩) (Kd.R_far (p := ⟨gb101,0,none⟩) (Kd.R_types HO134.out BK101.out (by decide)) (fun _ hk => hk.2) (.int .i64 t129)) (fun _ hk => hk.2) (.string t130)) (fun _ hk => hk.2) (.string t131)) (fun _ hk => hk.2) (.slice Ao39 t132.length co39)) (fun _ hk => hk.2) (.slice Ao40 t135.length co40)) (fun _ hk => hk.1.1),by (with_reducible repeat (first | apply Kd.jq | apply Kd.zx | apply Kd.jz));exact Kd.R_mono (Kd.R_far (p := ⟨gb101,4,none⟩) (Kd.R_far (p := ⟨gb101,3,none⟩) (Kd.R_far (p := ⟨gb101,2,none⟩) (Kd.R_far (p := ⟨gb101,1,none⟩) (Kd.R_far (p := ⟨gb101,0,none⟩) (Kd.R_types HO137.out BK101.out (by decide)) (fun _ hk => hk.2) (.int .i64 t129)) (fun _ hk => hk.2) (.string t130)) (fun _ hk => hk.2) (.string t131)) (fun _ hk => hk.2) (.slice Ao39 t132.length co39)) (fun _ hk => hk.2) (.slice Ao40 t135.length co40)) (fun _ hk => hk.1.1),by repeat (first | (with_reducible first | exact HI0.out | apply ww.alloc | apply ww.drewN | apply ww.drew | apply ww.set_1 | apply ww.set_2 | refine ww.far ?_ NB0_101.out _ | refine ww.far ?_ NB0_122.out _) | exact HI0.out),by repeat (first | (with_reducible first | exact HB.out | apply qj | apply qz | apply qk | refine qx ?_ (ww.ge HI0.out) | refine qx ?_ GE101.out | refine qx ?_ GE122.out) | exact HB.out),by repeat (first | (with_reducible first | exact HK.out | apply zk.set_ | apply jj | apply jv | apply jk | refine jw ?_ GW101.out _ | refine jw ?_ GW122.out _) | exact HK.out)⟩
   ·replace c30 := Bool.eq_false_iff.mpr c30
    subst c30
    have H1 : (some (x123000_6,t108,t114,t117,([] : List Int),t127,t128)) = some (r1,r2,r3,r4,r5,r6,r7) := by rw [if_neg (show ¬ (false = true) by decide)] at H;exact H
    clear H
    have H := H1
    clear H1
    simp only [Option.some.injEq,Prod.mk.injEq] at H
    obtain ⟨rfl,rfl,rfl,rfl,rfl,rfl,rfl⟩ := H
    go_wp2_with (first | ((with_reducible refine kj (f := 131) rfl ?_);refine goesL_ (some 19) rfl rfl Try.func131 (by kernel_rfl) rfl #[.pointer (some ⟨g,0,none⟩),.int .i64 5] rfl (by (try simp only [List.map_toArray,List.map_cons,List.map_nil]);first | done | rfl | (simp only [List.length_drop,List.length_take];rfl)) ?_;(with_reducible refine (qvj.calls g s0_0 t124 t125 5 false t127 t128 w0 _ ?side1 ?side2 A29.out).mono ?_);(case side1 => repeat (first | (with_reducible first | exact HI0.out | apply ww.alloc | apply ww.drewN | apply ww.drew | apply ww.set_1 | apply ww.set_2 | refine ww.far ?_ NB0_101.out _ | refine ww.far ?_ NB0_122.out _) | exact HI0.out));(case side2 => repeat (first | (with_reducible first | exact HB.out | apply qj | apply qz | apply qk | refine qx ?_ (ww.ge HI0.out) | refine qx ?_ GE101.out | refine qx ?_ GE122.out) | exact HB.out));rintro e w41 ⟨rfl,hi,hb,hk⟩;refine ⟨_,rfl,?_⟩;have n0_ := qq.mk (Kd.R_mono (Kd.R_keep (ww.apart (show ww w0 _ g s0_0 t124 t125 from by repeat (first | (with_reducible first | exact HI0.out | apply ww.alloc | apply ww.drewN | apply ww.drew | apply ww.set_1 | apply ww.set_2 | refine ww.far ?_ NB0_101.out _ | refine ww.far ?_ NB0_122.out _) | exact HI0.out)) (by (with_reducible repeat (first | apply Kd.jq | apply Kd.zx | apply Kd.jz));exact HO_123003.out) (by decide)) hk (fun _ h => h.2)) (fun _ h => h.1));have n1_ := qq.mk (zk.blk hk (g' := gb101) (o := .cells #[.int .i64 0,.string (⟨#[]⟩ : ByteArray),.string (⟨#[]⟩ : ByteArray),.slice none 0 0,.slice none 0 0] 27 (0,0)) (by (with_reducible repeat (first | refine zz ?_ _ | refine zj ?_ | refine zq ?_ _));exact BK101.out) NB101_0.out (by simp));have n2_ := qq.mk (zk.blk hk (g' := gb122) (o := .cells #[.int .i64 x123000_6,.string t108,.string t114,.slice Ao19 t117.length co19,.slice none 0 0] 27 (0,0)) (by (with_reducible repeat (first | refine zz ?_ _ | refine zj ?_ | refine zq ?_ _));exact BK122.out) NB122_0.out (by simp));have n3_ := qq.mk (zk.trans (by repeat (first | (with_reducible first | exact HK.out | apply zk.set_ | apply jj | apply jv | apply jk | refine jw ?_ GW101.out _ | refine jw ?_ GW122.out _) | exact HK.out)) hk (.inl rfl));have n4_ := qq.mk (hb);have n5_ := qq.mk (hi);clear HO_123003;clear BK101;clear BK122;clear HK;clear HB;clear HI0;have HO_123003 := n0_;have BK101 := n1_;have BK122 := n2_;have HK := n3_;have HB := n4_;have HI0 := n5_;clear n0_ n1_ n2_ n3_ n4_ n5_;(try clear hb);(try clear hb2);(try clear hk);(try clear hi);have hnb42 := NB122_101.out;have hnc42 := NB101_122.out;have hnb43 := NB122_0.out;have hnc43 := NB0_122.out;have hcz44_0 : w41.cell? ⟨gb122,0,none⟩ = some (.int .i64 x123000_6) := (qw BK122.out 0).trans rfl;have hcz44_1 : w41.cell? ⟨gb122,1,none⟩ = some (.string t108) := (qw BK122.out 1).trans rfl;have hcz44_2 : w41.cell? ⟨gb122,2,none⟩ = some (.string t114) := (qw BK122.out 2).trans rfl;have hcz44_3 : w41.cell? ⟨gb122,3,none⟩ = some (.slice Ao19 t117.length co19) := (qw BK122.out 3).trans rfl;have hcz44_4 : w41.cell? ⟨gb122,4,none⟩ = some (.slice none 0 0) := (qw BK122.out 4).trans rfl;have hfz44_0 := qv BK122.out 0;have hfz44_1 := qv BK122.out 1;have hfz44_2 := qv BK122.out 2;have hfz44_3 := qv BK122.out 3;have hfz44_4 := qv BK122.out 4;have hnb45 := NB101_0.out;have hnc45 := NB0_101.out;have hcz46_0 : w41.cell? ⟨gb101,0,none⟩ = some (.int .i64 0) := (qw BK101.out 0).trans rfl;have hcz46_1 : w41.cell? ⟨gb101,1,none⟩ = some (.string (⟨#[]⟩ : ByteArray)) := (qw BK101.out 1).trans rfl;have hcz46_2 : w41.cell? ⟨gb101,2,none⟩ = some (.string (⟨#[]⟩ : ByteArray)) := (qw BK101.out 2).trans rfl;have hcz46_3 : w41.cell? ⟨gb101,3,none⟩ = some (.slice none 0 0) := (qw BK101.out 3).trans rfl;have hcz46_4 : w41.cell? ⟨gb101,4,none⟩ = some (.slice none 0 0) := (qw BK101.out 4).trans rfl;have hfz46_0 := qv BK101.out 0;have hfz46_1 := qv BK101.out 1;have hfz46_2 := qv BK101.out 2;have hfz46_3 := qv BK101.out 3;have hfz46_4 := qv BK101.out 4))
    refine bodyPost_ret (results_cell_row rfl _ _ gb101 27 #[.int .i64 x123000_6,.string t108,.string t114,.slice Ao19 t117.length co19,.slice none 0 0] (0,0) _ rfl (by (with_reducible repeat (first | refine zz ?_ _ | refine zj ?_ | refine zq ?_ _));refine blk_put (cs := #[.int .i64 x123000_6,.string t108,.string t114,.slice Ao19 t117.length co19,.slice none 0 0]) ?_ 4 _ rfl;(with_reducible repeat (first | refine zz ?_ _ | refine zj ?_ | refine zq ?_ _));refine blk_put (cs := #[.int .i64 x123000_6,.string t108,.string t114,.slice none 0 0,.slice none 0 0]) ?_ 3 _ rfl;(with_reducible repeat (first | refine zz ?_ _ | refine zj ?_ | refine zq ?_ _));refine blk_put (cs := #[.int .i64 x123000_6,.string t108,.string (⟨#[]⟩ : ByteArray),.slice none 0 0,.slice none 0 0]) ?_ 2 _ rfl;(with_reducible repeat (first | refine zz ?_ _ | refine zj ?_ | refine zq ?_ _));refine blk_put (cs := #[.int .i64 x123000_6,.string (⟨#[]⟩ : ByteArray),.string (⟨#[]⟩ : ByteArray),.slice none 0 0,.slice none 0 0]) ?_ 1 _ rfl;(with_reducible repeat (first | refine zz ?_ _ | refine zj ?_ | refine zq ?_ _));refine blk_put (cs := #[.int .i64 0,.string (⟨#[]⟩ : ByteArray),.string (⟨#[]⟩ : ByteArray),.slice none 0 0,.slice none 0 0]) ?_ 0 _ rfl;(with_reducible repeat (first | refine zz ?_ _ | refine zj ?_ | refine zq ?_ _));exact BK101.out) Try.underlying27 rfl (by kernel_rfl)) rfl ?_
    exact ⟨_,_,by first | rfl | (simp [*,kz,jx] <;> rfl),by (with_reducible repeat (first | apply Kd.jq | apply Kd.zx | apply Kd.jz));exact Kd.R_mono (Kd.R_far (p := ⟨gb101,4,none⟩) (Kd.R_far (p := ⟨gb101,3,none⟩) (Kd.R_far (p := ⟨gb101,2,none⟩) (Kd.R_far (p := ⟨gb101,1,none⟩) (Kd.R_far (p := ⟨gb101,0,none⟩) (Kd.R_types HO_123003.out BK101.out (by decide)) (fun _ hk => hk.2) (.int .i64 x123000_6)) (fun _ hk => hk.2) (.string t108)) (fun _ hk => hk.2) (.string t114)) (fun _ hk => hk.2) (.slice Ao19 t117.length co19)) (fun _ hk => hk.2) (.slice none 0 0)) (fun _ hk => (by simp [Value.ownBlock])),by first | exact Kd.R_nil _ _ _ _ _ | exact Kd.N_nil _ _ _ _ _ | exact Kd.V_nil _ _ _ _ _ | exact Kd.Q_nil _ _ _ _ _ | exact Kd.S_nil _ _ _ _ _,by repeat (first | (with_reducible first | exact HI0.out | apply ww.alloc | apply ww.drewN | apply ww.drew | apply ww.set_1 | apply ww.set_2 | refine ww.far ?_ NB0_101.out _ | refine ww.far ?_ NB0_122.out _) | exact HI0.out),by repeat (first | (with_reducible first | exact HB.out | apply qj | apply qz | apply qk | refine qx ?_ (ww.ge HI0.out) | refine qx ?_ GE101.out | refine qx ?_ GE122.out) | exact HB.out),by repeat (first | (with_reducible first | exact HK.out | apply zk.set_ | apply jj | apply jv | apply jk | refine jw ?_ GW101.out _ | refine jw ?_ GW122.out _) | exact HK.out)⟩
end Go.Proofs.Ytipdkendfcopiaa.Pr
