/- Printed texts, walks and plain facts that the law FnPasswords leans on, joined. -/
import Derived.Test.YtgolcojhnklfdaaFullFnPasswordsB
import Derived.Deep.QuietTactic
import Derived.BigQuiet
import Derived.Laws.Cover1
namespace Go.Proofs.Ytgolcojhnklfdaa.Pr
open Go.RowKit Go.Proofs.YtgolcojhnklfdaaW.PrintWords Go.Proofs.YtgolcojhnklfdaaW.PrintLast Go.Proofs.YtgolcojhnklfdaaW.PrintMore
attribute [local go_sem] max2_int min2_int max_two min_two max_three min_three max_four min_four
set_option linter.unusedVariables false
set_option linter.unusedSimpArgs false
def qwq.l0 : Nat → List Int → Int → List Int → Int → Option (List Int)
 | 0,_,_,_,_ => none
 | k + 1,x0,x1,x4,x5 => if x5 < 4 then (if 0 ≤ x5 then (if x5 < (x0.length : Int) then (if x5 < (x4.length : Int) then (if 0 ≤ (Int.tmod (wrap64 (x5 + 1)) 4) then (if (Int.tmod (wrap64 (x5 + 1)) 4) < (x0.length : Int) then (qwq.l0 k (x0.set (x5 : Int).toNat (Int.tmod (wrap64 ((wrap64 ((wrap64 ((wrap64 ((rd x0 x5) * (rd x4 x5))) + x1)) + 1)) + (rd x0 (Int.tmod (wrap64 (x5 + 1)) 4)))) 2147483579)) x1 x4 (wrap64 (x5 + 1))) else (none)) else (none)) else (none)) else (none)) else (none)) else (some x0)
def qwq.f (k : Nat) (l0 : List Int) (a1 : Int) : Option (List Int) := qwq.l0 k l0 a1 (([1103515245,69069,1664525,22695477] : List Int)) 0
def qwq.T4 : Bool × List (List Nat × List Nat) := (true,[([],[]),([],[]),([],[]),([],[]),([2,3],[2,3]),([4],[4]),([],[]),([],[]),([6,7],[6,7]),([8],[8]),([5,9],[5,9]),([],[]),([10,11],[10,11]),([12],[12]),([],[]),([],[]),([15],[15]),([16],[16]),([14,17],[14,17]),([18],[18]),([13,19],[13,19]),([20],[20]),([0,1,0,1,2,3,4,5,6,7,8,9,10,11,12,13,14,15,16,17,18,19,20,21],[0,1]),([22,21,0,1,2,3,4,5,6,7,8,9,10,11,12,13,14,15,16,17,18,19,20,21],[21,22])])
def qwq.B4 : List Nat := [0,0,0,0,12,28,0,0,192,448,1020,0,4092,8188,0,0,32768,98304,245760,507904,1048572,2097148,4194303,8388607]
theorem qwq.tab4 : rtab .any (opsOf Try.f115 4) = qwq.T4 := by kernel_rfl
theorem qwq.bits4 : waitsOk qwq.T4.2 qwq.B4 = true := by kernel_rfl
set_option maxHeartbeats 8000000 in
set_option maxRecDepth 100000 in
theorem qwq.calls (k : Nat) (P0_ : Nat → Prop) (u9000_ : Value) (l0 : List Int) (a1 : Int) (r : List Int) (w0 w : World) (hB : Below w0.heap.size w0 w) (ho0 : Kd.R (Kd.int .i64) 3 w w0.heap.size P0_ u9000_ l0) (h : qwq.f k l0 a1 = some r) :
  Calls Try.prog 115 #[u9000_,.int .i64 a1] w fun e w' => e = .returned (.tuple #[]) ∧ Kd.R (Kd.int .i64) 3 w' w0.heap.size (fun k_ => (P0_ k_ ∨ w.heap.size ≤ k_)) u9000_ r ∧ Below w0.heap.size w0 w' ∧ kw w w' (fun k_ => P0_ k_) := by
 have HO0 := qq.mk (show Kd.R (Kd.int .i64) 3 w w0.heap.size (fun k_ => (P0_ k_ ∨ w.heap.size ≤ k_)) u9000_ l0 from Kd.R_mono ho0 (fun k_ hk => (.inl hk)))
 have HK := qq.mk (kw.refl w (fun k_ => P0_ k_))
 have HW0 := qq.mk hB.size
 have HB := qq.mk hB
 clear hB
 have H : (qwq.l0 k l0 a1 (([1103515245,69069,1664525,22695477] : List Int)) 0) = some r := h
 clear h
 obtain ⟨y101,hy101⟩ : ∃ y_ : List Int,y_ = (([1103515245,69069,1664525,22695477] : List Int)) := ⟨_,rfl⟩
 replace H : (qwq.l0 k l0 a1 y101 0) = some r := by first | (rw [hy101];with_reducible exact H) | (have H2_ := (Option.bind_some _ _).symm.trans H;rw [hy101];with_reducible exact H2_) | (have H2_ := (Option.bind_some _ _).symm.trans H;with_reducible exact H2_) | with_reducible exact H | (rw [hy101];exact H) | exact H
 have Ny101 := qq.mk hy101
 clear hy101
 have H' := qq.mk H
 clear H
 go_enter Try.func115,Try.ntmps115
 go_wp2_with (first | ((with_reducible refine gate_dst (N := 6) rfl ?_);refine Kd.R_lit (Kd.int .i64) _ 3 ?hg (N := 6) ?hd (xs := ([1103515245,69069,1664525,22695477] : List Int)) (inner := [.int .i64 1103515245,.int .i64 69069,.int .i64 1664525,.int .i64 22695477]) (ok := fun _ => True) (okp := fun _ => True) ?hr ?hp (fun _ hk => hk) trivial (Below.refl _ _) (Nat.le_refl _) (by simp) ?_;(case hd => rfl);(case hg => rfl);(case hr => first | (go_simp;done) | (go_simp;rfl));(case hp => exact (Reps.one (show Kd.M (Kd.int .i64) _ _ _ 1103515245 [.int .i64 1103515245] from rfl) (Reps.one (show Kd.M (Kd.int .i64) _ _ _ 69069 [.int .i64 69069] from rfl) (Reps.one (show Kd.M (Kd.int .i64) _ _ _ 1664525 [.int .i64 1664525] from rfl) (Reps.one (show Kd.M (Kd.int .i64) _ _ _ 22695477 [.int .i64 22695477] from rfl) (Reps.none _ _))))));intro v102 w3 ho4 hb hg_ hnew_;clear hg_ hnew_;(first | rw [← Ny101.out] at ho4 | (simp only [Int.reduceToNat] at ho4;rw [← Ny101.out] at ho4));have n0_ := qq.mk (Kd.R_elder' (by (with_reducible repeat (first | apply Kd.jq | apply Kd.zx | apply Kd.jz));exact HO0.out) (Kd.R_base ho4) hb);have n1_ := qq.mk (Kd.R_lower (Kd.R_new' (Kd.R_newM (M := fun k_ => (P0_ k_ ∨ w.heap.size ≤ k_)) ho4 (by first | exact HK.out.1 | exact (show kw w _ (fun k_ => P0_ k_) from by repeat (first | (with_reducible first | exact HK.out | apply kw.alloc | apply kw.drewN | apply kw.drew) | exact HK.out)).1) (fun k_ h_ => .inr h_)) (Kd.R_lt (by (with_reducible repeat (first | apply Kd.jq | apply Kd.zx | apply Kd.jz));exact HO0.out))) (zw (by repeat (first | (with_reducible first | exact HB.out | apply qj | apply qz | apply qk) | exact HB.out))));have n2_ := qq.mk (kw.below (S := (fun k_ => P0_ k_)) (by repeat (first | (with_reducible first | exact HK.out | apply kw.alloc | apply kw.drewN | apply kw.drew) | exact HK.out)) hb);have n3_ := qq.mk (zv (by repeat (first | (with_reducible first | exact HB.out | apply qj | apply qz | apply qk) | exact HB.out)) hb);clear HO0;clear HK;clear HB;have HO0 := n0_;have HO103 := n1_;have HK := n2_;have HB := n3_;clear n0_ n1_ n2_ n3_;clear hb ho4))
 go_loopg [5] k (fun kq v5 w' => ∃ (x0_1 : List Int) (x5_1 : Int),v5 = .int .i64 x5_1 ∧ qq (qwq.l0 kq x0_1 a1 y101 x5_1 = some r) ∧ qq (kq ≤ k) ∧ qq (Kd.R (Kd.int .i64) 3 w' w0.heap.size (fun k_ => (P0_ k_ ∨ w.heap.size ≤ k_) ∧ some k_ ≠ (v102 : Value).ownBlock) u9000_ x0_1) ∧ qq (Kd.R (Kd.int .i64) 3 w' w0.heap.size (fun k_ => (P0_ k_ ∨ w.heap.size ≤ k_) ∧ some k_ ≠ (u9000_ : Value).ownBlock) v102 y101) ∧ qq (kw w w' (fun k_ => P0_ k_)) ∧ qq (Below w0.heap.size w0 w'))
 case atStart => exact ⟨(l0),(0),(by first | rfl | (simp;done) | (simp [*];done)),H',⟨Nat.le_refl _⟩,⟨by (with_reducible repeat (first | apply Kd.jq | apply Kd.zx | apply Kd.jz));exact HO0.out⟩,⟨by (with_reducible repeat (first | apply Kd.jq | apply Kd.zx | apply Kd.jz));exact Kd.R_mono HO103.out (fun _ hk => ⟨hk.1.1,hk.2⟩)⟩,⟨by repeat (first | (with_reducible first | exact HK.out | apply kw.alloc | apply kw.drewN | apply kw.drew) | exact HK.out)⟩,⟨by repeat (first | (with_reducible first | exact HB.out | apply qj | apply qz | apply qk) | exact HB.out)⟩⟩
 case round =>
  clear H'
  try clear c1
  try clear p2
  obtain ⟨x0_1,x5_1,rfl,HA,HK1,HO_0,HO_4,HK,HB⟩ := hrel
  cases gk with
  | zero => exact absurd HA.out (by simp [qwq.l0])
  | succ k1 =>
   have H := HA.out
   clear HA
   simp only [qwq.l0] at H
   by_cases c5 : x5_1 < 4
   ·rw [if_pos c5] at H
    have c5b0 : decide (x5_1 < 4) = true := decide_eq_true c5
    clear c5
    by_cases c6 : 0 ≤ x5_1
    ·rw [if_pos c6] at H
     have c6b0 : decide (0 ≤ x5_1) = true := decide_eq_true c6
     clear c6
     by_cases c7 : x5_1 < (x0_1.length : Int)
     ·rw [if_pos c7] at H
      have c7b0 : decide (x5_1 < (x0_1.length : Int)) = true := decide_eq_true c7
      clear c7
      by_cases c8 : x5_1 < (y101.length : Int)
      ·rw [if_pos c8] at H
       have c8b0 : decide (x5_1 < (y101.length : Int)) = true := decide_eq_true c8
       clear c8
       obtain ⟨ji9,hji9⟩ : ∃ j_ : Int,(Int.tmod (wrap64 (x5_1 + 1)) 4) = j_ := ⟨_,rfl⟩
       replace H : (if 0 ≤ (ji9) then (if (ji9) < (x0_1.length : Int) then (qwq.l0 k1 (x0_1.set (x5_1 : Int).toNat (Int.tmod (wrap64 ((wrap64 ((wrap64 ((wrap64 ((rd x0_1 x5_1) * (rd y101 x5_1))) + a1)) + 1)) + (rd x0_1 (ji9)))) 2147483579)) a1 y101 (wrap64 (x5_1 + 1))) else (none)) else (none)) = some r := by first | (rw [hji9] at H;exact H) | (simp only [hji9] at H ⊢;exact H)
       by_cases c10 : 0 ≤ (ji9)
       ·rw [if_pos c10] at H
        have c10b0 : decide (0 ≤ (ji9)) = true := decide_eq_true c10
        clear c10
        by_cases c11 : (ji9) < (x0_1.length : Int)
        ·rw [if_pos c11] at H
         have c11b0 : decide ((ji9) < (x0_1.length : Int)) = true := decide_eq_true c11
         clear c11
         obtain ⟨y107,hy107⟩ : ∃ y_ : List Int,y_ = (x0_1.set (x5_1 : Int).toNat (Int.tmod (wrap64 ((wrap64 ((wrap64 ((wrap64 ((rd x0_1 x5_1) * (rd y101 x5_1))) + a1)) + 1)) + (rd x0_1 (ji9)))) 2147483579)) := ⟨_,rfl⟩
         replace H : (qwq.l0 k1 y107 a1 y101 (wrap64 (x5_1 + 1))) = some r := by first | (rw [hy107];with_reducible exact H) | (have H2_ := (Option.bind_some _ _).symm.trans H;rw [hy107];with_reducible exact H2_) | (have H2_ := (Option.bind_some _ _).symm.trans H;with_reducible exact H2_) | with_reducible exact H | (rw [hy107];exact H) | exact H
         have Ny107 := qq.mk hy107
         clear hy107
         have H' := qq.mk H
         clear H
         try go_wp2
         have n0_ := qq.mk (Kd.jz HO_0.out)
         have n1_ := qq.mk (Kd.jz HO_4.out)
         have n2_ := qq.mk (kw.drew HK.out)
         have n3_ := qq.mk (qk HB.out)
         clear HO_0
         clear HO_4
         clear HK
         clear HB
         have HO_0 := n0_
         have HO_4 := n1_
         have HK := n2_
         have HB := n3_
         clear n0_ n1_ n2_ n3_
         obtain ⟨Ao14,co14,eo14⟩ := Kd.R_slice HO_0.out
         (first | subst eo14 | (injection eo14 with f1_ f2_ f3_;have f4_ := f1_.symm;have f5_ := f3_.symm;clear f1_ f2_ f3_;subst f4_;subst f5_))
         have p104 : 0 ≤ (x5_1 : Int) := of_decide_eq_true (by assumption)
         have q104 : x5_1 < (x0_1.length : Int) := of_decide_eq_true (by assumption)
         obtain ⟨ad104,e104,hx104_0⟩ := Kd.at_int (Kd.R_reads' HO_0.out).2.2 x5_1 p104 q104
         cases e104
         replace p104 := eq_true p104
         replace q104 := eq_true q104
         obtain ⟨Ao15,co15,eo15⟩ := Kd.R_slice HO_4.out
         (first | subst eo15 | (injection eo15 with f1_ f2_ f3_;have f4_ := f1_.symm;have f5_ := f3_.symm;clear f1_ f2_ f3_;subst f4_;subst f5_))
         have p105 : 0 ≤ (x5_1 : Int) := of_decide_eq_true (by assumption)
         have q105 : x5_1 < (y101.length : Int) := of_decide_eq_true (by assumption)
         obtain ⟨ad105,e105,hx105_0⟩ := Kd.at_int (Kd.R_reads' HO_4.out).2.2 x5_1 p105 q105
         cases e105
         replace p105 := eq_true p105
         replace q105 := eq_true q105
         have p106 : 0 ≤ ((ji9) : Int) := of_decide_eq_true (by assumption)
         have q106 : (ji9) < (x0_1.length : Int) := of_decide_eq_true (by assumption)
         obtain ⟨ad106,e106,hx106_0⟩ := Kd.at_int (Kd.R_reads' HO_0.out).2.2 (ji9) p106 q106
         obtain rfl : ad104 = ad106 := (by injection e106)
         replace p106 := eq_true p106
         replace q106 := eq_true q106
         have p12 : 0 ≤ (x5_1 : Int) := of_decide_eq_true (by assumption)
         have q12 : (x5_1 : Int) < ((x0_1.length : Int) : Int) := of_decide_eq_true (by assumption)
         obtain ⟨go12,co12,eo12,gb12,gl12,cl12,HG12⟩ := Kd.R_form HO_0.out (by omega)
         (first | cases eo12 | (injection eo12 with ea_ en_ ec_;(first | subst ea_ | (injection ea_ with ea_;subst ea_));subst ec_;clear en_))
         have GB12 := qq.mk gb12
         have GG12 := qq.mk HG12
         clear gb12 gl12 HG12
         have HMgo12 := qq.mk (show (P0_ go12 ∨ w.heap.size ≤ go12) from (HO_0.out.1 _ rfl).1)
         (first | simp only [add_plain] at hx104_0 | skip)
         (first | simp only [add_plain] at hx106_0 | skip)
         obtain ⟨hx12_0,hf12_0⟩ := Kd.R_celln 0 HO_0.out (x5_1 : Int) p12 q12
         replace p12 := eq_true p12
         replace q12 := eq_true q12
         have HP16 := Kd.R_putn HO_0.out (x5_1 : Int) (Int.tmod (wrap64 ((wrap64 ((wrap64 ((wrap64 ((rd x0_1 x5_1) * (rd y101 x5_1))) + a1)) + 1)) + (rd x0_1 (ji9)))) 2147483579)
         rw [← Ny107.out] at HP16
         have HQ16 := qq.mk HP16
         clear HP16
         refine start_ (n := 24) (S := fun w' => w'.cell? ⟨go12,(x5_1).toNat,none⟩ = some (.int .i64 (rd x0_1 x5_1)) ∧ w'.cell? (ad105.add (x5_1).toNat) = some (.int .i64 (rd y101 x5_1)) ∧ w'.cell? ⟨go12,((ji9)).toNat,none⟩ = some (.int .i64 (rd x0_1 (ji9)))) (ds := [23]) #[false,false,false,false,false,false,false,false,false,false,false,false,false,false,false,false,false,false,false,false,false,false,false,false] (by kernel_rfl) rfl rfl ⟨hx104_0,hx105_0,hx106_0⟩ (fun hHeld => ?_);refine with_tabW qwq.tab4 qwq.bits4 (fun HT_ HW_ => ?_)
         generalize wr.drew = w13 at HO_0 HO_4 HK HB GG12 HQ16 hf12_0 hx104_0 hx105_0 hx106_0 hx12_0 hHeld ⊢
         refine pure_ (i := 0) (N := some 11) (v := ?_) (a' := ?_) #[true,false,false,false,false,false,false,false,false,false,false,false,false,false,false,false,false,false,false,false,false,false,false,false] rfl rfl (any_of HT_.out (by kernel_rfl)) (fun _ _ _ h => h) (Or.inl ⟨by rfl,?_⟩) ?_ ?_
         rotate_left
         ·intro w'
          go_simp
          with_reducible rfl
         rotate_left
         ·simp only [Act.put,List.setIfInBounds_toArray,List.set_cons_zero,List.set_cons_succ,i64_w,i32_w]
          rfl
         refine pure_ (i := 1) (N := some 12) (v := ?_) (a' := ?_) #[true,true,false,false,false,false,false,false,false,false,false,false,false,false,false,false,false,false,false,false,false,false,false,false] rfl rfl (any_of HT_.out (by kernel_rfl)) (fun _ _ _ h => h) (Or.inl ⟨by rfl,?_⟩) ?_ ?_
         rotate_left
         ·intro w'
          go_simp
          with_reducible rfl
         rotate_left
         ·simp only [Act.put,List.setIfInBounds_toArray,List.set_cons_zero,List.set_cons_succ,i64_w,i32_w]
          rfl
         refine pure_ (i := 2) (N := some 13) (v := ?_) (a' := ?_) #[true,true,true,false,false,false,false,false,false,false,false,false,false,false,false,false,false,false,false,false,false,false,false,false] rfl rfl (any_of HT_.out (by kernel_rfl)) (fun _ _ _ h => h) (Or.inl ⟨by rfl,?_⟩) ?_ ?_
         rotate_left
         ·intro w'
          go_simp
          with_reducible rfl
         rotate_left
         ·simp only [Act.put,List.setIfInBounds_toArray,List.set_cons_zero,List.set_cons_succ,i64_w,i32_w]
          rfl
         refine pure_ (i := 3) (N := some 14) (v := ?_) (a' := ?_) #[true,true,true,true,false,false,false,false,false,false,false,false,false,false,false,false,false,false,false,false,false,false,false,false] rfl rfl (any_of HT_.out (by kernel_rfl)) (fun _ _ _ h => h) (Or.inl ⟨by rfl,?_⟩) ?_ ?_
         rotate_left
         ·intro w'
          go_simp
          with_reducible rfl
         rotate_left
         ·simp only [Act.put,List.setIfInBounds_toArray,List.set_cons_zero,List.set_cons_succ,i64_w,i32_w]
          rfl
         refine pure_ (i := 4) (N := some 15) (v := ?_) (a' := ?_) #[true,true,true,true,true,false,false,false,false,false,false,false,false,false,false,false,false,false,false,false,false,false,false,false] rfl rfl (any_of HT_.out (by kernel_rfl)) (fun _ _ _ h => h) (Or.inl ⟨by rfl,?_⟩) ?_ ?_
         rotate_left
         ·intro w'
          go_simp
          with_reducible rfl
         rotate_left
         ·simp only [Act.put,List.setIfInBounds_toArray,List.set_cons_zero,List.set_cons_succ,i64_w,i32_w]
          rfl
         refine pure_ (i := 6) (N := some 17) (v := ?_) (a' := ?_) #[true,true,true,true,true,false,true,false,false,false,false,false,false,false,false,false,false,false,false,false,false,false,false,false] rfl rfl (any_of HT_.out (by kernel_rfl)) (fun _ _ _ h => h) (Or.inl ⟨by rfl,?_⟩) ?_ ?_
         rotate_left
         ·intro w'
          go_simp
          with_reducible rfl
         rotate_left
         ·simp only [Act.put,List.setIfInBounds_toArray,List.set_cons_zero,List.set_cons_succ,i64_w,i32_w]
          rfl
         refine pure_ (i := 7) (N := some 18) (v := ?_) (a' := ?_) #[true,true,true,true,true,false,true,true,false,false,false,false,false,false,false,false,false,false,false,false,false,false,false,false] rfl rfl (any_of HT_.out (by kernel_rfl)) (fun _ _ _ h => h) (Or.inl ⟨by rfl,?_⟩) ?_ ?_
         rotate_left
         ·intro w'
          go_simp
          with_reducible rfl
         rotate_left
         ·simp only [Act.put,List.setIfInBounds_toArray,List.set_cons_zero,List.set_cons_succ,i64_w,i32_w]
          rfl
         refine pure_ (i := 8) (N := some 19) (v := ?_) (a' := ?_) #[true,true,true,true,true,false,true,true,true,false,false,false,false,false,false,false,false,false,false,false,false,false,false,false] rfl rfl (any_of HT_.out (by kernel_rfl)) (fun _ _ _ h => h) (Or.inl ⟨by rfl,?_⟩) ?_ ?_
         rotate_left
         ·intro w'
          go_simp
          with_reducible rfl
         rotate_left
         ·simp only [Act.put,List.setIfInBounds_toArray,List.set_cons_zero,List.set_cons_succ,i64_w,i32_w]
          rfl
         refine pure_ (i := 11) (N := some 22) (v := ?_) (a' := ?_) #[true,true,true,true,true,false,true,true,true,false,false,true,false,false,false,false,false,false,false,false,false,false,false,false] rfl rfl (any_of HT_.out (by kernel_rfl)) (fun _ _ _ h => h) (Or.inl ⟨by rfl,?_⟩) ?_ ?_
         rotate_left
         ·intro w'
          go_simp
          with_reducible rfl
         rotate_left
         ·simp only [Act.put,List.setIfInBounds_toArray,List.set_cons_zero,List.set_cons_succ,i64_w,i32_w]
          rfl
         refine pure_ (i := 14) (N := some 25) (v := ?_) (a' := ?_) #[true,true,true,true,true,false,true,true,true,false,false,true,false,false,true,false,false,false,false,false,false,false,false,false] rfl rfl (any_of HT_.out (by kernel_rfl)) (fun _ _ _ h => h) (Or.inl ⟨by rfl,?_⟩) ?_ ?_
         rotate_left
         ·intro w'
          go_simp
          with_reducible rfl
         rotate_left
         ·simp only [Act.put,List.setIfInBounds_toArray,List.set_cons_zero,List.set_cons_succ,i64_w,i32_w]
          rfl
         refine pure_ (i := 15) (N := some 26) (v := ?_) (a' := ?_) #[true,true,true,true,true,false,true,true,true,false,false,true,false,false,true,true,false,false,false,false,false,false,false,false] rfl rfl (any_of HT_.out (by kernel_rfl)) (fun _ _ _ h => h) (Or.inl ⟨by rfl,?_⟩) ?_ ?_
         rotate_left
         ·intro w'
          go_simp
          with_reducible rfl
         rotate_left
         ·simp only [Act.put,List.setIfInBounds_toArray,List.set_cons_zero,List.set_cons_succ,i64_w,i32_w]
          rfl
         refine pure_ (i := 16) (N := some 27) (v := ?_) (a' := ?_) #[true,true,true,true,true,false,true,true,true,false,false,true,false,false,true,true,true,false,false,false,false,false,false,false] rfl rfl (any_of HT_.out (by kernel_rfl)) (fun _ _ _ h => h) (Or.inl ⟨by rfl,?_⟩) ?_ ?_
         rotate_left
         ·intro w'
          go_simp
          with_reducible rfl
         rotate_left
         ·simp only [Act.put,List.setIfInBounds_toArray,List.set_cons_zero,List.set_cons_succ,i64_w,i32_w]
          rfl
         refine pure_ (i := 17) (N := some 28) (v := ?_) (a' := ?_) #[true,true,true,true,true,false,true,true,true,false,false,true,false,false,true,true,true,true,false,false,false,false,false,false] rfl rfl (any_of HT_.out (by kernel_rfl)) (fun _ _ _ h => h) (Or.inl ⟨by rfl,?_⟩) ?_ ?_
         rotate_left
         ·intro w'
          go_simp
          with_reducible rfl
         rotate_left
         ·simp only [Act.put,List.setIfInBounds_toArray,List.set_cons_zero,List.set_cons_succ,i64_w,i32_w]
          rfl
         refine pure_ (i := 18) (N := some 29) (v := ?_) (a' := ?_) #[true,true,true,true,true,false,true,true,true,false,false,true,false,false,true,true,true,true,true,false,false,false,false,false] rfl rfl (any_of HT_.out (by kernel_rfl)) (fun _ _ _ h => h) (Or.inl ⟨by rfl,?_⟩) ?_ ?_
         rotate_left
         ·intro w'
          go_simp
          with_reducible rfl
         rotate_left
         ·simp only [Act.put,List.setIfInBounds_toArray,List.set_cons_zero,List.set_cons_succ,i64_w,i32_w]
          rfl
         refine take_ (i := 5) (N := some 16) (v := ?_) (a' := ?_) #[true,true,true,true,true,true,true,true,true,false,false,true,false,false,true,true,true,true,true,false,false,false,false,false] rfl rfl (take_ofW HT_.out HW_.out (by kernel_rfl)) (fun _ _ _ h => h) (Or.inl ⟨by rfl,?_⟩) hHeld ?_ ?_
         rotate_left
         ·rintro w' ⟨s0,s1,s2⟩
          go_simp
          with_reducible rfl
         rotate_left
         ·simp only [Act.put,List.setIfInBounds_toArray,List.set_cons_zero,List.set_cons_succ,i64_w,i32_w]
          rfl
         refine take_ (i := 9) (N := some 20) (v := ?_) (a' := ?_) #[true,true,true,true,true,true,true,true,true,true,false,true,false,false,true,true,true,true,true,false,false,false,false,false] rfl rfl (take_ofW HT_.out HW_.out (by kernel_rfl)) (fun _ _ _ h => h) (Or.inl ⟨by rfl,?_⟩) hHeld ?_ ?_
         rotate_left
         ·rintro w' ⟨s0,s1,s2⟩
          go_simp
          with_reducible rfl
         rotate_left
         ·simp only [Act.put,List.setIfInBounds_toArray,List.set_cons_zero,List.set_cons_succ,i64_w,i32_w]
          rfl
         refine pure_ (i := 10) (N := some 21) (v := ?_) (a' := ?_) #[true,true,true,true,true,true,true,true,true,true,true,true,false,false,true,true,true,true,true,false,false,false,false,false] rfl rfl (any_of HT_.out (by kernel_rfl)) (fun _ _ _ h => h) (Or.inl ⟨by rfl,?_⟩) ?_ ?_
         rotate_left
         ·intro w'
          go_simp
          with_reducible rfl
         rotate_left
         ·simp only [Act.put,List.setIfInBounds_toArray,List.set_cons_zero,List.set_cons_succ,i64_w,i32_w]
          rfl
         refine pure_ (i := 12) (N := some 23) (v := ?_) (a' := ?_) #[true,true,true,true,true,true,true,true,true,true,true,true,true,false,true,true,true,true,true,false,false,false,false,false] rfl rfl (any_of HT_.out (by kernel_rfl)) (fun _ _ _ h => h) (Or.inl ⟨by rfl,?_⟩) ?_ ?_
         rotate_left
         ·intro w'
          go_simp
          with_reducible rfl
         rotate_left
         ·simp only [Act.put,List.setIfInBounds_toArray,List.set_cons_zero,List.set_cons_succ,i64_w,i32_w]
          rfl
         refine pure_ (i := 13) (N := some 24) (v := ?_) (a' := ?_) #[true,true,true,true,true,true,true,true,true,true,true,true,true,true,true,true,true,true,true,false,false,false,false,false] rfl rfl (any_of HT_.out (by kernel_rfl)) (fun _ _ _ h => h) (Or.inl ⟨by rfl,?_⟩) ?_ ?_
         rotate_left
         ·intro w'
          go_simp
          with_reducible rfl
         rotate_left
         ·simp only [Act.put,List.setIfInBounds_toArray,List.set_cons_zero,List.set_cons_succ,i64_w,i32_w]
          rfl
         refine take_ (i := 19) (N := some 30) (v := ?_) (a' := ?_) #[true,true,true,true,true,true,true,true,true,true,true,true,true,true,true,true,true,true,true,true,false,false,false,false] rfl rfl (take_ofW HT_.out HW_.out (by kernel_rfl)) (fun _ _ _ h => h) (Or.inl ⟨by rfl,?_⟩) hHeld ?_ ?_
         rotate_left
         ·rintro w' ⟨s0,s1,s2⟩
          go_simp
          with_reducible rfl
         rotate_left
         ·simp only [Act.put,List.setIfInBounds_toArray,List.set_cons_zero,List.set_cons_succ,i64_w,i32_w]
          rfl
         refine pure_ (i := 20) (N := some 31) (v := ?_) (a' := ?_) #[true,true,true,true,true,true,true,true,true,true,true,true,true,true,true,true,true,true,true,true,true,false,false,false] rfl rfl (any_of HT_.out (by kernel_rfl)) (fun _ _ _ h => h) (Or.inl ⟨by rfl,?_⟩) ?_ ?_
         rotate_left
         ·intro w'
          go_simp
          with_reducible rfl
         rotate_left
         ·simp only [Act.put,List.setIfInBounds_toArray,List.set_cons_zero,List.set_cons_succ,i64_w,i32_w]
          rfl
         refine pure_ (i := 21) (N := some 32) (v := ?_) (a' := ?_) #[true,true,true,true,true,true,true,true,true,true,true,true,true,true,true,true,true,true,true,true,true,true,false,false] rfl rfl (any_of HT_.out (by kernel_rfl)) (fun _ _ _ h => h) (Or.inl ⟨by rfl,?_⟩) ?_ ?_
         rotate_left
         ·intro w'
          go_simp
          with_reducible rfl
         rotate_left
         ·simp only [Act.put,List.setIfInBounds_toArray,List.set_cons_zero,List.set_cons_succ,i64_w,i32_w]
          rfl
         refine pure_ (i := 22) (N := some 33) (v := ?_) (a' := ?_) #[true,true,true,true,true,true,true,true,true,true,true,true,true,true,true,true,true,true,true,true,true,true,true,false] rfl rfl (any_of HT_.out (by kernel_rfl)) (fun _ _ _ h => h) (Or.inl ⟨by rfl,?_⟩) ?_ ?_
         rotate_left
         ·intro w'
          go_simp
          with_reducible rfl
         rotate_left
         ·simp only [Act.put,List.setIfInBounds_toArray,List.set_cons_zero,List.set_cons_succ,i64_w,i32_w]
          rfl
         refine last_ (i := 23) (N := none) #[true,true,true,true,true,true,true,true,true,true,true,true,true,true,true,true,true,true,true,true,true,true,true,true] rfl rfl (one_of HT_.out (by kernel_rfl)) (by decide) (fun K hK => ?_)
         refine skip_ (w1 := ?_) (by rfl) rfl ?_ ?_
         rotate_left
         ·go_simp
          rfl
         refine hK.out _ _ ?_
         clear hK K
         refine done_ (done_of HT_.out (by kernel_rfl)) ?_
         try go_wp2
         go_roundg k1
         case measure => have := HK1.out;omega
         case rel => exact ⟨(y107),(wrap64 (x5_1 + 1)),(by first | rfl | (simp;done) | (simp [*];done)),H',⟨by have := HK1.out;omega⟩,⟨by (with_reducible repeat (first | apply Kd.jq | apply Kd.zx | apply Kd.jz));exact HQ16.out⟩,⟨by (with_reducible repeat (first | apply Kd.jq | apply Kd.zx | apply Kd.jz));exact Kd.R_mono (Kd.R_far (p := ⟨go12,(x5_1 : Int).toNat,none⟩) (Kd.R_mono HO_4.out (fun k_ hk => (⟨hk,fun e_ => hk.2 (by rw [e_];rfl)⟩ : _ ∧ k_ ≠ go12))) (fun _ hk => hk.2) (.int .i64 (Int.tmod (wrap64 ((wrap64 ((wrap64 ((wrap64 ((rd x0_1 x5_1) * (rd y101 x5_1))) + a1)) + 1)) + (rd x0_1 (ji9)))) 2147483579))) (fun _ hk => ⟨hk.1.1,hk.1.2⟩)⟩,⟨by repeat (first | (with_reducible first | exact HK.out | apply kw.alloc | apply kw.drewN | apply kw.drew | refine kw.setCell ?_ HMgo12.out _) | exact HK.out)⟩,⟨by repeat (first | (with_reducible first | exact HB.out | apply qj | apply qz | apply qk | refine qx ?_ GB12.out) | exact HB.out)⟩⟩
        ·rw [if_neg c11] at H
         exact absurd H (by simp)
       ·rw [if_neg c10] at H
        exact absurd H (by simp)
      ·rw [if_neg c8] at H
       exact absurd H (by simp)
     ·rw [if_neg c7] at H
      exact absurd H (by simp)
    ·rw [if_neg c6] at H
     exact absurd H (by simp)
   ·rw [if_neg c5] at H
    have c5b0 : decide (x5_1 < 4) = false := decide_eq_false c5
    clear c5
    obtain rfl := Option.some.inj H
    go_wp2
    first | go_end0 | ((try simp only [Exit.inBlock,Exit.then]);refine bodyPost_ret (results_none rfl _ _ _) rfl ?_)
    exact ⟨by first | rfl | (simp [*,kz,jx] <;> rfl),by (with_reducible repeat (first | apply Kd.jq | apply Kd.zx | apply Kd.jz));exact Kd.R_mono HO_0.out (fun _ hk => hk.1),by repeat (first | (with_reducible first | exact HB.out | apply qj | apply qz | apply qk) | exact HB.out),by repeat (first | (with_reducible first | exact HK.out | apply kw.alloc | apply kw.drewN | apply kw.drew) | exact HK.out)⟩
def qvv.l0 : Nat → Int → List Int → Int → Int → Option (List Int)
 | 0,_,_,_,_ => none
 | k + 1,x0,x3,x7,x8 => if x8 < x7 then (if 0 ≤ x8 then (if x8 < (x3.length : Int) then (qvv.l0 k (wrap64 (Int.tdiv x0 256)) (x3.set (x8 : Int).toNat ((Int.tmod x0 256) % 256)) x7 (wrap64 (x8 + 1))) else (none)) else (none)) else (some x3)
def qvv.f (k : Nat) (a0 : Int) : Option (List Int) := if 4 ≤ 281474976710656 then ((some (List.replicate 4 0 : List Int)).bind fun y101 => (qvv.l0 k a0 y101 (y101.length : Int) 0)) else (none)
set_option maxHeartbeats 8000000 in
set_option maxRecDepth 100000 in
theorem qvv.calls (k : Nat) (a0 : Int) (r : List Int) (w : World) (h : qvv.f k a0 = some r) :
  Calls Try.prog 116 #[.int .i64 a0] w fun e w' => ∃ v0_ : Value,e = .returned (v0_) ∧ Kd.R (Kd.int .u8) 5 w' w.heap.size (fun _ => True) v0_ r ∧ Below w.heap.size w w' := by
 have HB := qq.mk (Below.refl w.heap.size w)
 have H : (if 4 ≤ 281474976710656 then ((some (List.replicate 4 0 : List Int)).bind fun y101 => (qvv.l0 k a0 y101 (y101.length : Int) 0)) else (none)) = some r := h
 clear h
 by_cases c2 : 4 ≤ 281474976710656
 ·rw [if_pos c2] at H
  have c2b0 := eq_true c2
  have c2b1 : decide (4 ≤ 281474976710656) = true := decide_eq_true c2
  clear c2
  obtain ⟨y101,hy101⟩ : ∃ y_ : List Int,y_ = (List.replicate 4 0) := ⟨_,rfl⟩
  replace H : (qvv.l0 k a0 y101 (y101.length : Int) 0) = some r := by first | (rw [hy101];with_reducible exact H) | (have H2_ := (Option.bind_some _ _).symm.trans H;rw [hy101];with_reducible exact H2_) | (have H2_ := (Option.bind_some _ _).symm.trans H;with_reducible exact H2_) | with_reducible exact H | (rw [hy101];exact H) | exact H
  have Ny101 := qq.mk hy101
  clear hy101
  have H' := qq.mk H
  clear H
  go_enter Try.func116,Try.ntmps116
  go_wp2_with (first | ((with_reducible refine gate_dst (N := 5) rfl ?_);refine Kd.R_make (Kd.int .u8) _ 5 rfl (N := 5) rfl 26 _ _ rfl 4 rfl rfl Try.underlying26 (.int .u8 0) 1 info5 rfl (by decide) (by omega) 0 (ok := fun _ => True) (okp := fun _ => True) rfl (fun _ hk => hk) trivial (by omega) (by omega) (Below.refl _ _) (Nat.le_refl _) ?_;intro v102 w3 ho4 hb hg_ hnew_;clear hg_ hnew_;(first | rw [← Ny101.out] at ho4 | (simp only [Int.reduceToNat] at ho4;rw [← Ny101.out] at ho4));have n0_ := qq.mk (Kd.R_lower ho4 (zw (by repeat (first | (with_reducible first | exact HB.out | apply qj | apply qz | apply qk) | exact HB.out))));have n1_ := qq.mk (zv (by repeat (first | (with_reducible first | exact HB.out | apply qj | apply qz | apply qk) | exact HB.out)) hb);clear HB;have HO103 := n0_;have HB := n1_;clear n0_ n1_;clear hb ho4;obtain ⟨Ao5,co5,eo5⟩ := Kd.R_slice HO103.out;subst eo5))
  go_loopg [0,8] k (fun kq v0 v8 w' => ∃ (x0_1 : Int) (x3_1 : List Int) (x8_1 : Int),v0 = .int .i64 x0_1 ∧ v8 = .int .i64 x8_1 ∧ qq (qvv.l0 kq x0_1 x3_1 (y101.length : Int) x8_1 = some r) ∧ qq (kq ≤ k) ∧ qq (Kd.R (Kd.int .u8) 5 w' w.heap.size (fun _ => True) (.slice Ao5 y101.length co5) x3_1) ∧ qq (Below w.heap.size w w'))
  case atStart => exact ⟨(a0),(y101),(0),(by first | rfl | (simp;done) | (simp [*];done)),(by first | rfl | (simp;done) | (simp [*];done)),H',⟨Nat.le_refl _⟩,⟨by (with_reducible repeat (first | apply Kd.jq | apply Kd.zx | apply Kd.jz));exact HO103.out⟩,⟨by repeat (first | (with_reducible first | exact HB.out | apply qj | apply qz | apply qk) | exact HB.out)⟩⟩
  case round =>
   clear H'
   try clear c1
   try clear c2
   try clear c2b0
   try clear c2b1
   try clear p2
   obtain ⟨x0_1,x3_1,x8_1,rfl,rfl,HA,HK1,HO_3,HB⟩ := hrel
   have hl3_1 := (Kd.R_reads' HO_3.out).1
   rw [hl3_1] at HO_3
   (try simp only [hl3_1])
   cases gk with
   | zero => exact absurd HA.out (by simp [qvv.l0])
   | succ k1 =>
    have H := HA.out
    clear HA
    simp only [qvv.l0] at H
    by_cases c6 : x8_1 < (y101.length : Int)
    ·rw [if_pos c6] at H
     have c6b0 : decide (x8_1 < (y101.length : Int)) = true := decide_eq_true c6
     clear c6
     by_cases c7 : 0 ≤ x8_1
     ·rw [if_pos c7] at H
      have c7b0 : decide (0 ≤ x8_1) = true := decide_eq_true c7
      clear c7
      by_cases c8 : x8_1 < (x3_1.length : Int)
      ·rw [if_pos c8] at H
       have c8b0 : decide (x8_1 < (x3_1.length : Int)) = true := decide_eq_true c8
       clear c8
       obtain ⟨y104,hy104⟩ : ∃ y_ : List Int,y_ = (x3_1.set (x8_1 : Int).toNat ((Int.tmod x0_1 256) % 256)) := ⟨_,rfl⟩
       replace H : (qvv.l0 k1 (wrap64 (Int.tdiv x0_1 256)) y104 (y101.length : Int) (wrap64 (x8_1 + 1))) = some r := by first | (rw [hy104];with_reducible exact H) | (have H2_ := (Option.bind_some _ _).symm.trans H;rw [hy104];with_reducible exact H2_) | (have H2_ := (Option.bind_some _ _).symm.trans H;with_reducible exact H2_) | with_reducible exact H | (rw [hy104];exact H) | exact H
       have Ny104 := qq.mk hy104
       clear hy104
       have H' := qq.mk H
       clear H
       have p9 : 0 ≤ (x8_1 : Int) := of_decide_eq_true (by assumption)
       have q9 : (x8_1 : Int) < ((x3_1.length : Int) : Int) := of_decide_eq_true (by assumption)
       obtain ⟨go9,co9,eo9,gb9,gl9,cl9,HG9⟩ := Kd.R_form HO_3.out (by omega)
       (first | cases eo9 | (injection eo9 with ea_ en_ ec_;(first | subst ea_ | (injection ea_ with ea_;subst ea_));subst ec_;clear en_))
       have GB9 := qq.mk gb9
       have GG9 := qq.mk HG9
       clear gb9 gl9 HG9
       obtain ⟨hx9_0,hf9_0⟩ := Kd.R_celln 0 HO_3.out (x8_1 : Int) p9 q9
       replace p9 := eq_true p9
       replace q9 := eq_true q9
       have HP10 := Kd.R_putg HO_3.out (x8_1 : Int) ((Int.tmod x0_1 256) % 256)
       go_wp2_with (first | ((with_reducible refine kk (t := 5) (p := 16) rfl ?_);refine kv (t := 5) (p := 16) (v := ?vo_w11) (w1 := (wr.setCell ⟨go9,(x8_1 : Int).toNat,none⟩ (.int .u8 ((Int.tmod x0_1 256) % 256)))) ?hg ?ho ?hn ?hr ?_;(case ho => rfl);(case hg => rfl);(case hn => rfl);(case hr => first | (go_simp;done) | (go_simp;rfl));intro w11 hw;have hg : wr.grownBy w11 (some go9) := (by rw [hw];exact HP10.2);have hp_ : Kd.R (Kd.int .u8) 5 w11 w.heap.size (fun _ => True) (.slice (some ⟨go9,0,none⟩) x3_1.length co5) y104 := (by rw [hw,Ny104.out];exact HP10.1);clear HP10;have n0_ := qq.mk (hp_);have n1_ := qq.mk ((by rw [hw];exact qx (HB.out) GB9.out : Below w.heap.size w w11));clear HO_3;clear HB;have HO_3 := n0_;have HB := n1_;clear n0_ n1_;clear hg hw hp_))
       (try simp only [← hl3_1])
       go_roundg k1
       case measure => have := HK1.out;omega
       case rel => exact ⟨(wrap64 (Int.tdiv x0_1 256)),(y104),(wrap64 (x8_1 + 1)),(by first | rfl | (simp;done) | (simp [*];done)),(by first | rfl | (simp;done) | (simp [*];done)),H',⟨by have := HK1.out;omega⟩,⟨by (try simp only [hl3_1]);(with_reducible repeat (first | apply Kd.jq | apply Kd.zx | apply Kd.jz));exact HO_3.out⟩,⟨by repeat (first | (with_reducible first | exact HB.out | apply qj | apply qz | apply qk) | exact HB.out)⟩⟩
      ·rw [if_neg c8] at H
       exact absurd H (by simp)
     ·rw [if_neg c7] at H
      exact absurd H (by simp)
    ·rw [if_neg c6] at H
     have c6b0 : decide (x8_1 < (y101.length : Int)) = false := decide_eq_false c6
     rw [hl3_1] at c6b0
     clear c6
     obtain rfl := Option.some.inj H
     go_wp2
     go_ret
     exact ⟨_,by first | rfl | (simp [*,kz,jx] <;> rfl),by (with_reducible repeat (first | apply Kd.jq | apply Kd.zx | apply Kd.jz));exact HO_3.out,by repeat (first | (with_reducible first | exact HB.out | apply qj | apply qz | apply qk) | exact HB.out)⟩
 ·rw [if_neg c2] at H
  exact absurd H (by simp)
mutual
def qvw.l0 : Nat → List Int → List Int → List Int → Int → Int → Option (List Int)
 | 0,_,_,_,_,_ => none
 | k + 1,x0,x3,x13,x14,x15 => if x15 < x14 then (if 0 ≤ x15 then (if x15 < (x13.length : Int) then ((qwq.f k x3 (wrap64 (rd x13 x15))).bind fun t105 => (qvw.l0 k x0 t105 x13 x14 (wrap64 (x15 + 1)))) else (none)) else (none)) else ((qvv.f k (x0.length : Int)).bind fun t106 => (qvw.l1 k x3 t106 (t106.length : Int) 0))
def qvw.l1 : Nat → List Int → List Int → Int → Int → Option (List Int)
 | 0,_,_,_,_ => none
 | k + 1,x3,x26,x27,x28 => if x28 < x27 then (if 0 ≤ x28 then (if x28 < (x26.length : Int) then ((qwq.f k x3 (wrap64 (rd x26 x28))).bind fun t110 => (qvw.l1 k t110 x26 x27 (wrap64 (x28 + 1)))) else (none)) else (none)) else (qvw.l2 k x3 0)
def qvw.l2 : Nat → List Int → Int → Option (List Int)
 | 0,_,_ => none
 | k + 1,x3,x8 => if x8 < 8 then ((qwq.f k x3 0).bind fun t111 => (qvw.l2 k t111 (wrap64 (x8 + 1)))) else (qvw.l3 k ([] : List Int) x3 (x3.length : Int) 0)
def qvw.l3 : Nat → List Int → List Int → Int → Int → Option (List Int)
 | 0,_,_,_,_ => none
 | k + 1,x9,x43,x44,x45 => if x45 < x44 then (if 0 ≤ x45 then (if x45 < (x43.length : Int) then ((qvv.f k (rd x43 x45)).bind fun t113 => (if x9.length + t113.length < 140737488355328 then (qvw.l3 k (x9 ++ t113) x43 x44 (wrap64 (x45 + 1))) else (none))) else (none)) else (none)) else (some x9)
end
def qvw.f (k : Nat) (l0 : List Int) : Option (List Int) := qvw.l0 k l0 (([11,22,33,44] : List Int)) l0 (l0.length : Int) 0
set_option maxHeartbeats 8000000 in
set_option maxRecDepth 100000 in
theorem qvw.calls (k : Nat) (A0 : Option Addr) (c0 : Nat) (l0 : List Int) (r : List Int) (w : World) (hr0 : Kd.C (Kd.int .u8) w A0 l0.length l0) (hc0 : l0.length ≤ c0) (h : qvw.f k l0 = some r) :
  Calls Try.prog 57 #[.slice A0 l0.length c0] w fun e w' => ∃ v0_ : Value,e = .returned (v0_) ∧ Kd.R (Kd.int .u8) 5 w' w.heap.size (fun _ => True) v0_ r ∧ Below w.heap.size w w' := by
 have HR0 := qq.mk hr0
 have HC0 := qq.mk hc0
 clear hr0 hc0
 have HB := qq.mk (Below.refl w.heap.size w)
 have H : (qvw.l0 k l0 (([11,22,33,44] : List Int)) l0 (l0.length : Int) 0) = some r := h
 clear h
 obtain ⟨y101,hy101⟩ : ∃ y_ : List Int,y_ = (([11,22,33,44] : List Int)) := ⟨_,rfl⟩
 replace H : (qvw.l0 k l0 y101 l0 (l0.length : Int) 0) = some r := by first | (rw [hy101];with_reducible exact H) | (have H2_ := (Option.bind_some _ _).symm.trans H;rw [hy101];with_reducible exact H2_) | (have H2_ := (Option.bind_some _ _).symm.trans H;with_reducible exact H2_) | with_reducible exact H | (rw [hy101];exact H) | exact H
 have Ny101 := qq.mk hy101
 clear hy101
 have H' := qq.mk H
 clear H
 go_enter Try.func57,Try.ntmps57
 go_wp2_with (first | ((with_reducible refine gate_dst (N := 12) rfl ?_);refine Kd.R_lit (Kd.int .i64) _ 3 ?hg (N := 12) ?hd (xs := ([11,22,33,44] : List Int)) (inner := [.int .i64 11,.int .i64 22,.int .i64 33,.int .i64 44]) (ok := fun _ => True) (okp := fun _ => True) ?hr ?hp (fun _ hk => hk) trivial (Below.refl _ _) (Nat.le_refl _) (by simp) ?_;(case hd => rfl);(case hg => rfl);(case hr => first | (go_simp;done) | (go_simp;rfl));(case hp => exact (Reps.one (show Kd.M (Kd.int .i64) _ _ _ 11 [.int .i64 11] from rfl) (Reps.one (show Kd.M (Kd.int .i64) _ _ _ 22 [.int .i64 22] from rfl) (Reps.one (show Kd.M (Kd.int .i64) _ _ _ 33 [.int .i64 33] from rfl) (Reps.one (show Kd.M (Kd.int .i64) _ _ _ 44 [.int .i64 44] from rfl) (Reps.none _ _))))));intro v102 w2 ho3 hb hg_ hnew_;clear hg_ hnew_;(first | rw [← Ny101.out] at ho3 | (simp only [Int.reduceToNat] at ho3;rw [← Ny101.out] at ho3));have n0_ := qq.mk (Kd.R_lower ho3 (zw (by repeat (first | (with_reducible first | exact HB.out | apply qj | apply qz | apply qk) | exact HB.out))));have n1_ := qq.mk (zv (by repeat (first | (with_reducible first | exact HB.out | apply qj | apply qz | apply qk) | exact HB.out)) hb);clear HB;have HO103 := n0_;have HB := n1_;clear n0_ n1_;clear hb ho3))
 go_loopg [15] k (fun kq v15 w' => ∃ (x3_1 : List Int) (x15_1 : Int),v15 = .int .i64 x15_1 ∧ qq (qvw.l0 kq l0 x3_1 l0 (l0.length : Int) x15_1 = some r) ∧ qq (kq ≤ k) ∧ qq (Kd.R (Kd.int .i64) 3 w' w.heap.size (fun _ => True) v102 x3_1) ∧ qq (Below w.heap.size w w'))
 case atStart => exact ⟨(y101),(0),(by first | rfl | (simp;done) | (simp [*];done)),H',⟨Nat.le_refl _⟩,⟨by (with_reducible repeat (first | apply Kd.jq | apply Kd.zx | apply Kd.jz));exact HO103.out⟩,⟨by repeat (first | (with_reducible first | exact HB.out | apply qj | apply qz | apply qk) | exact HB.out)⟩⟩
 case round =>
  clear H'
  try clear p2
  obtain ⟨x3_1,x15_1,rfl,HA,HK1,HO_3,HB⟩ := hrel
  cases gk with
  | zero => exact absurd HA.out (by simp [qvw.l0])
  | succ k1 =>
   have H := HA.out
   clear HA
   simp only [qvw.l0] at H
   by_cases c4 : x15_1 < (l0.length : Int)
   ·rw [if_pos c4] at H
    have c4b0 : decide (x15_1 < (l0.length : Int)) = true := decide_eq_true c4
    clear c4
    by_cases c5 : 0 ≤ x15_1
    ·rw [if_pos c5] at H
     have c5b0 : decide (0 ≤ x15_1) = true := decide_eq_true c5
     clear c5
     by_cases c6 : x15_1 < (l0.length : Int)
     ·rw [if_pos c6] at H
      have c6b0 : decide (x15_1 < (l0.length : Int)) = true := decide_eq_true c6
      clear c6
      replace H := Option.bind_eq_some_iff.mp H
      obtain ⟨t105,A70,H⟩ := H
      replace H : (qvw.l0 k1 l0 t105 l0 (l0.length : Int) (wrap64 (x15_1 + 1))) = some r := H
      have A7 := qq.mk A70
      clear A70
      have H' := qq.mk H
      clear H
      have p104 : 0 ≤ (x15_1 : Int) := of_decide_eq_true (by assumption)
      have q104 : x15_1 < (l0.length : Int) := of_decide_eq_true (by assumption)
      obtain ⟨ad104,e104,hx104_0⟩ := Kd.at_int HR0.out x15_1 p104 q104
      cases e104
      replace hx104_0 := (HB.out.cell (World.block_lt_of_cell? w _ hx104_0)).trans hx104_0
      replace p104 := eq_true p104
      replace q104 := eq_true q104
      obtain ⟨Ao8,co8,eo8⟩ := Kd.R_slice HO_3.out
      subst eo8
      go_wp2_with (first | ((with_reducible refine kj (f := 115) rfl ?_);refine goesL_ (some 22) rfl rfl Try.func115 (by kernel_rfl) rfl #[.slice Ao8 x3_1.length co8,.int .i64 (wrap64 (rd l0 x15_1))] rfl (by (try simp only [List.map_toArray,List.map_cons,List.map_nil]);first | done | rfl | (simp only [List.length_drop,List.length_take];rfl)) ?_;(with_reducible refine (qwq.calls k1 (fun k_ => some k_ = (.slice Ao8 x3_1.length co8 : Value).ownBlock) (.slice Ao8 x3_1.length co8) x3_1 (wrap64 (rd l0 x15_1)) t105 w _ ?side1 ?side2 A7.out).mono ?_);(case side1 => repeat (first | (with_reducible first | exact HB.out | apply qj | apply qz | apply qk) | exact HB.out));(case side2 => exact Kd.R_tight rfl HO_3.out);rintro e w9 ⟨rfl,hy0,hb,hkp⟩;refine ⟨_,rfl,?_⟩;have n0_ := qq.mk (Kd.R_reok rfl hy0 (fun k_ e_ => HO_3.out.1 k_ e_));have n1_ := qq.mk (hb);clear HO_3;clear HB;have HO_3 := n0_;have HB := n1_;clear n0_ n1_;(try clear hb);(try clear hkp);(try clear hy0)))
      go_roundg k1
      case measure => have := HK1.out;omega
      case rel => exact ⟨(t105),(wrap64 (x15_1 + 1)),(by first | rfl | (simp;done) | (simp [*];done)),H',⟨by have := HK1.out;omega⟩,⟨by (with_reducible repeat (first | apply Kd.jq | apply Kd.zx | apply Kd.jz));exact HO_3.out⟩,⟨by repeat (first | (with_reducible first | exact HB.out | apply qj | apply qz | apply qk) | exact HB.out)⟩⟩
     ·rw [if_neg c6] at H
      exact absurd H (by simp)
    ·rw [if_neg c5] at H
     exact absurd H (by simp)
   ·rw [if_neg c4] at H
    have c4b0 : decide (x15_1 < (l0.length : Int)) = false := decide_eq_false c4
    clear c4
    replace H := Option.bind_eq_some_iff.mp H
    obtain ⟨t106,A100,H⟩ := H
    replace H : (qvw.l1 k1 x3_1 t106 (t106.length : Int) 0) = some r := H
    have A10 := qq.mk A100
    clear A100
    have H' := qq.mk H
    clear H
    go_wp2_with (first | ((with_reducible refine kj (f := 116) rfl ?_);refine goesL_ (some 26) rfl rfl Try.func116 (by kernel_rfl) rfl #[.int .i64 (l0.length : Int)] rfl (by (try simp only [List.map_toArray,List.map_cons,List.map_nil]);first | done | rfl | (simp only [List.length_drop,List.length_take];rfl)) ?_;(with_reducible refine (qvv.calls k1 (l0.length : Int) t106 _ A10.out).mono ?_);rintro e w11 ⟨v107,rfl,ho0,hb⟩;refine ⟨_,rfl,?_⟩;have n0_ := qq.mk (Kd.R_below (by (with_reducible repeat (first | apply Kd.jq | apply Kd.zx | apply Kd.jz));exact HO_3.out) hb);have n1_ := qq.mk (Kd.R_lower ho0 (zw (by repeat (first | (with_reducible first | exact HB.out | apply qj | apply qz | apply qk) | exact HB.out))));have n2_ := qq.mk (zv (by repeat (first | (with_reducible first | exact HB.out | apply qj | apply qz | apply qk) | exact HB.out)) hb);clear HO_3;clear HB;have HO_3 := n0_;have HO108 := n1_;have HB := n2_;clear n0_ n1_ n2_;(try clear hb);(try clear hb2);(try clear hk);(try clear hi);(try clear ho0);obtain ⟨Ao12,co12,eo12⟩ := Kd.R_slice HO108.out;subst eo12))
    go_loopg [28] k1 (fun kq v28 w' => ∃ (x3_2 : List Int) (x28_2 : Int),v28 = .int .i64 x28_2 ∧ qq (qvw.l1 kq x3_2 t106 (t106.length : Int) x28_2 = some r) ∧ qq (kq ≤ k1) ∧ qq (Kd.R (Kd.int .i64) 3 w' w.heap.size (fun _ => True) v102 x3_2) ∧ qq (Kd.R (Kd.int .u8) 5 w' w.heap.size (fun _ => True) (.slice Ao12 t106.length co12) t106) ∧ qq (Below w.heap.size w w'))
    case atStart => exact ⟨(x3_1),(0),(by first | rfl | (simp;done) | (simp [*];done)),H',⟨Nat.le_refl _⟩,⟨by (with_reducible repeat (first | apply Kd.jq | apply Kd.zx | apply Kd.jz));exact HO_3.out⟩,⟨by (with_reducible repeat (first | apply Kd.jq | apply Kd.zx | apply Kd.jz));exact HO108.out⟩,⟨by repeat (first | (with_reducible first | exact HB.out | apply qj | apply qz | apply qk) | exact HB.out)⟩⟩
    case round =>
     clear H'
     try clear c1
     try clear p1
     try clear q1
     try clear hx1
     try clear p2
     try clear c4
     try clear c4b0
     try clear c5
     try clear c5b0
     try clear c6
     try clear c6b0
     try clear p6
     try clear p10
     try clear q10
     try clear hx10
     try clear c11
     try clear hx104_0
     try clear p104
     try clear p2
     try clear q104
     obtain ⟨x3_2,x28_2,rfl,HA,HK2,HO_3,HO_26,HB⟩ := hrel
     cases gk with
     | zero => exact absurd HA.out (by simp [qvw.l1])
     | succ k2 =>
      have H := HA.out
      clear HA
      simp only [qvw.l1] at H
      by_cases c13 : x28_2 < (t106.length : Int)
      ·rw [if_pos c13] at H
       have c13b0 : decide (x28_2 < (t106.length : Int)) = true := decide_eq_true c13
       clear c13
       by_cases c14 : 0 ≤ x28_2
       ·rw [if_pos c14] at H
        have c14b0 : decide (0 ≤ x28_2) = true := decide_eq_true c14
        clear c14
        by_cases c15 : x28_2 < (t106.length : Int)
        ·rw [if_pos c15] at H
         have c15b0 : decide (x28_2 < (t106.length : Int)) = true := decide_eq_true c15
         clear c15
         replace H := Option.bind_eq_some_iff.mp H
         obtain ⟨t110,A160,H⟩ := H
         replace H : (qvw.l1 k2 t110 t106 (t106.length : Int) (wrap64 (x28_2 + 1))) = some r := H
         have A16 := qq.mk A160
         clear A160
         have H' := qq.mk H
         clear H
         have p109 : 0 ≤ (x28_2 : Int) := of_decide_eq_true (by assumption)
         have q109 : x28_2 < (t106.length : Int) := of_decide_eq_true (by assumption)
         obtain ⟨ad109,e109,hx109_0⟩ := Kd.at_int (Kd.R_reads' HO_26.out).2.2 x28_2 p109 q109
         cases e109
         replace p109 := eq_true p109
         replace q109 := eq_true q109
         obtain ⟨Ao17,co17,eo17⟩ := Kd.R_slice HO_3.out
         subst eo17
         go_wp2_with (first | ((with_reducible refine kj (f := 115) rfl ?_);refine goesL_ (some 35) rfl rfl Try.func115 (by kernel_rfl) rfl #[.slice Ao17 x3_2.length co17,.int .i64 (wrap64 (rd t106 x28_2))] rfl (by (try simp only [List.map_toArray,List.map_cons,List.map_nil]);first | done | rfl | (simp only [List.length_drop,List.length_take];rfl)) ?_;(with_reducible refine (qwq.calls k2 (fun k_ => some k_ = (.slice Ao17 x3_2.length co17 : Value).ownBlock) (.slice Ao17 x3_2.length co17) x3_2 (wrap64 (rd t106 x28_2)) t110 w _ ?side1 ?side2 A16.out).mono ?_);(case side1 => repeat (first | (with_reducible first | exact HB.out | apply qj | apply qz | apply qk) | exact HB.out));(case side2 => exact Kd.R_tight rfl HO_3.out);rintro e w18 ⟨rfl,hy0,hb,hkp⟩;refine ⟨_,rfl,?_⟩;have n0_ := qq.mk (Kd.R_reok rfl hy0 (fun k_ e_ => HO_3.out.1 k_ e_));have n1_ := qq.mk (Kd.R_mono (ok' := fun k_ => True) (Kd.R_keptB ((Kd.R_apart' HO_26.out (Kd.R_typed HO_3.out) (by decide))) hkp (fun k_ hk_ hs_ => absurd hs_ (by first | exact hk_.2 | ((try simp only [and_assoc] at hk_);first | exact hk_.1 | exact hk_.2.1 | exact hk_.2.2.1 | exact hk_.2.2.2.1 | exact hk_.2.2.2.2.1 | exact hk_.2.2.2.2.2.1 | exact hk_.2.2.2.2.2.2.1 | exact hk_.2.2.2.2.2.2.2.1 | exact hk_.2.2.2.2.2.2.2.2.1 | exact hk_.2.2.2.2.2.2.2.2.2.1 | exact hk_.2.2.2.2.2.2.2.2.2.2.1 | exact hk_.2.2.2.2.2.2.2.2.2.2.2.1 | exact hk_.2.2.2.2.2.2.2.2.2.2.2.2.1 | exact hk_.2.2.2.2.2.2.2.2.2.2.2.2.2.1 | exact hk_.2.2.2.2.2.2.2.2.2.2.2.2.2.2.1 | exact hk_.2.2.2.2.2.2.2.2.2.2.2.2.2.2.2.1 | exact hk_.2 | exact hk_.2.2 | exact hk_.2.2.2 | exact hk_.2.2.2.2 | exact hk_.2.2.2.2.2 | exact hk_.2.2.2.2.2.2 | exact hk_.2.2.2.2.2.2.2 | exact hk_.2.2.2.2.2.2.2.2 | exact hk_.2.2.2.2.2.2.2.2.2 | exact hk_.2.2.2.2.2.2.2.2.2.2 | exact hk_.2.2.2.2.2.2.2.2.2.2.2 | exact hk_.2.2.2.2.2.2.2.2.2.2.2.2 | exact hk_.2.2.2.2.2.2.2.2.2.2.2.2.2 | exact hk_.2.2.2.2.2.2.2.2.2.2.2.2.2.2 | exact hk_.2.2.2.2.2.2.2.2.2.2.2.2.2.2.2)))) (fun k_ hk_ => trivial));have n2_ := qq.mk (hb);clear HO_3;clear HO_26;clear HB;have HO_3 := n0_;have HO_26 := n1_;have HB := n2_;clear n0_ n1_ n2_;(try clear hb);(try clear hkp);(try clear hy0)))
         go_roundg k2
         case measure => have := HK1.out;have := HK2.out;omega
         case rel => exact ⟨(t110),(wrap64 (x28_2 + 1)),(by first | rfl | (simp;done) | (simp [*];done)),H',⟨by have := HK1.out;have := HK2.out;omega⟩,⟨by (with_reducible repeat (first | apply Kd.jq | apply Kd.zx | apply Kd.jz));exact HO_3.out⟩,⟨by (with_reducible repeat (first | apply Kd.jq | apply Kd.zx | apply Kd.jz));exact HO_26.out⟩,⟨by repeat (first | (with_reducible first | exact HB.out | apply qj | apply qz | apply qk) | exact HB.out)⟩⟩
        ·rw [if_neg c15] at H
         exact absurd H (by simp)
       ·rw [if_neg c14] at H
        exact absurd H (by simp)
      ·rw [if_neg c13] at H
       have c13b0 : decide (x28_2 < (t106.length : Int)) = false := decide_eq_false c13
       clear c13
       have H' := qq.mk H
       clear H
       go_wp2
       go_loopg [8] k2 (fun kq v8 w' => ∃ (x3_3 : List Int) (x8_3 : Int),v8 = .int .i64 x8_3 ∧ qq (qvw.l2 kq x3_3 x8_3 = some r) ∧ qq (kq ≤ k2) ∧ qq (Kd.R (Kd.int .i64) 3 w' w.heap.size (fun _ => True) v102 x3_3) ∧ qq (Below w.heap.size w w'))
       case atStart => exact ⟨(x3_2),(0),(by first | rfl | (simp;done) | (simp [*];done)),H',⟨Nat.le_refl _⟩,⟨by (with_reducible repeat (first | apply Kd.jq | apply Kd.zx | apply Kd.jz));exact HO_3.out⟩,⟨by repeat (first | (with_reducible first | exact HB.out | apply qj | apply qz | apply qk) | exact HB.out)⟩⟩
       case round =>
        clear H'
        try clear c1
        try clear p1
        try clear q1
        try clear hx1
        try clear p2
        try clear c4
        try clear c4b0
        try clear c5
        try clear c5b0
        try clear c6
        try clear c6b0
        try clear p6
        try clear p10
        try clear q10
        try clear hx10
        try clear c11
        try clear c13
        try clear c13b0
        try clear c14
        try clear c14b0
        try clear c15
        try clear c15b0
        try clear hx104_0
        try clear hx109_0
        try clear p1
        try clear p10
        try clear p104
        try clear p109
        try clear p2
        try clear p6
        try clear q1
        try clear q10
        try clear q104
        try clear q109
        obtain ⟨x3_3,x8_3,rfl,HA,HK3,HO_3,HB⟩ := hrel
        cases gk with
        | zero => exact absurd HA.out (by simp [qvw.l2])
        | succ k3 =>
         have H := HA.out
         clear HA
         simp only [qvw.l2] at H
         by_cases c19 : x8_3 < 8
         ·rw [if_pos c19] at H
          have c19b0 : decide (x8_3 < 8) = true := decide_eq_true c19
          clear c19
          replace H := Option.bind_eq_some_iff.mp H
          obtain ⟨t111,A200,H⟩ := H
          replace H : (qvw.l2 k3 t111 (wrap64 (x8_3 + 1))) = some r := H
          have A20 := qq.mk A200
          clear A200
          have H' := qq.mk H
          clear H
          obtain ⟨Ao21,co21,eo21⟩ := Kd.R_slice HO_3.out
          subst eo21
          go_wp2_with (first | ((with_reducible refine kj (f := 115) rfl ?_);refine goesL_ (some 42) rfl rfl Try.func115 (by kernel_rfl) rfl #[.slice Ao21 x3_3.length co21,.int .i64 0] rfl (by (try simp only [List.map_toArray,List.map_cons,List.map_nil]);first | done | rfl | (simp only [List.length_drop,List.length_take];rfl)) ?_;(with_reducible refine (qwq.calls k3 (fun k_ => some k_ = (.slice Ao21 x3_3.length co21 : Value).ownBlock) (.slice Ao21 x3_3.length co21) x3_3 0 t111 w _ ?side1 ?side2 A20.out).mono ?_);(case side1 => repeat (first | (with_reducible first | exact HB.out | apply qj | apply qz | apply qk) | exact HB.out));(case side2 => exact Kd.R_tight rfl HO_3.out);rintro e w22 ⟨rfl,hy0,hb,hkp⟩;refine ⟨_,rfl,?_⟩;have n0_ := qq.mk (Kd.R_reok rfl hy0 (fun k_ e_ => HO_3.out.1 k_ e_));have n1_ := qq.mk (hb);clear HO_3;clear HB;have HO_3 := n0_;have HB := n1_;clear n0_ n1_;(try clear hb);(try clear hkp);(try clear hy0)))
          go_roundg k3
          case measure => have := HK1.out;have := HK2.out;have := HK3.out;omega
          case rel => exact ⟨(t111),(wrap64 (x8_3 + 1)),(by first | rfl | (simp;done) | (simp [*];done)),H',⟨by have := HK1.out;have := HK2.out;have := HK3.out;omega⟩,⟨by (with_reducible repeat (first | apply Kd.jq | apply Kd.zx | apply Kd.jz));exact HO_3.out⟩,⟨by repeat (first | (with_reducible first | exact HB.out | apply qj | apply qz | apply qk) | exact HB.out)⟩⟩
         ·rw [if_neg c19] at H
          have c19b0 : decide (x8_3 < 8) = false := decide_eq_false c19
          clear c19
          have H' := qq.mk H
          clear H
          obtain ⟨Ao23,co23,eo23⟩ := Kd.R_slice HO_3.out
          subst eo23
          go_wp2
          go_loopg [9,45] k3 (fun kq v9 v45 w' => ∃ (x9_4 : List Int) (x45_4 : Int),v45 = .int .i64 x45_4 ∧ qq (qvw.l3 kq x9_4 x3_3 (x3_3.length : Int) x45_4 = some r) ∧ qq (kq ≤ k3) ∧ qq (Kd.R (Kd.int .u8) 5 w' w.heap.size (fun _ => True) v9 x9_4) ∧ qq (Kd.R (Kd.int .i64) 3 w' w.heap.size (fun _ => True) (.slice Ao23 x3_3.length co23) x3_3) ∧ qq (Below w.heap.size w w'))
          case atStart => exact ⟨(([] : List Int)),(0),(by first | rfl | (simp;done) | (simp [*];done)),H',⟨Nat.le_refl _⟩,⟨by first | exact Kd.R_nil _ _ _ _ _ | exact Kd.N_nil _ _ _ _ _ | exact Kd.V_nil _ _ _ _ _ | exact Kd.Q_nil _ _ _ _ _ | exact Kd.S_nil _ _ _ _ _⟩,⟨by (with_reducible repeat (first | apply Kd.jq | apply Kd.zx | apply Kd.jz));exact HO_3.out⟩,⟨by repeat (first | (with_reducible first | exact HB.out | apply qj | apply qz | apply qk) | exact HB.out)⟩⟩
          case round =>
           clear H'
           try clear c1
           try clear p1
           try clear q1
           try clear hx1
           try clear p2
           try clear c4
           try clear c4b0
           try clear c5
           try clear c5b0
           try clear c6
           try clear c6b0
           try clear p6
           try clear p10
           try clear q10
           try clear hx10
           try clear c11
           try clear c13
           try clear c13b0
           try clear c14
           try clear c14b0
           try clear c15
           try clear c15b0
           try clear c19
           try clear c19b0
           try clear hx104_0
           try clear hx109_0
           try clear p1
           try clear p10
           try clear p104
           try clear p109
           try clear p2
           try clear p6
           try clear q1
           try clear q10
           try clear q104
           try clear q109
           obtain ⟨x9_4,x45_4,rfl,HA,HK4,HO_9,HO_43,HB⟩ := hrel
           cases gk with
           | zero => exact absurd HA.out (by simp [qvw.l3])
           | succ k4 =>
            have H := HA.out
            clear HA
            simp only [qvw.l3] at H
            by_cases c24 : x45_4 < (x3_3.length : Int)
            ·rw [if_pos c24] at H
             have c24b0 : decide (x45_4 < (x3_3.length : Int)) = true := decide_eq_true c24
             clear c24
             by_cases c25 : 0 ≤ x45_4
             ·rw [if_pos c25] at H
              have c25b0 : decide (0 ≤ x45_4) = true := decide_eq_true c25
              clear c25
              by_cases c26 : x45_4 < (x3_3.length : Int)
              ·rw [if_pos c26] at H
               have c26b0 : decide (x45_4 < (x3_3.length : Int)) = true := decide_eq_true c26
               clear c26
               replace H := Option.bind_eq_some_iff.mp H
               obtain ⟨t113,A270,H⟩ := H
               replace H : (if x9_4.length + t113.length < 140737488355328 then (qvw.l3 k4 (x9_4 ++ t113) x3_3 (x3_3.length : Int) (wrap64 (x45_4 + 1))) else (none)) = some r := H
               have A27 := qq.mk A270
               clear A270
               by_cases c28 : x9_4.length + t113.length < 140737488355328
               ·rw [if_pos c28] at H
                have LMc28 := qq.mk c28
                clear c28
                obtain ⟨y116,hy116⟩ : ∃ y_ : List Int,y_ = (x9_4 ++ t113) := ⟨_,rfl⟩
                replace H : (qvw.l3 k4 y116 x3_3 (x3_3.length : Int) (wrap64 (x45_4 + 1))) = some r := by first | (rw [hy116];with_reducible exact H) | (have H2_ := (Option.bind_some _ _).symm.trans H;rw [hy116];with_reducible exact H2_) | (have H2_ := (Option.bind_some _ _).symm.trans H;with_reducible exact H2_) | with_reducible exact H | (rw [hy116];exact H) | exact H
                have Ny116 := qq.mk hy116
                clear hy116
                have H' := qq.mk H
                clear H
                have p112 : 0 ≤ (x45_4 : Int) := of_decide_eq_true (by assumption)
                have q112 : x45_4 < (x3_3.length : Int) := of_decide_eq_true (by assumption)
                obtain ⟨ad112,e112,hx112_0⟩ := Kd.at_int (Kd.R_reads' HO_43.out).2.2 x45_4 p112 q112
                cases e112
                replace p112 := eq_true p112
                replace q112 := eq_true q112
                go_wp2_with (first | ((with_reducible refine kj (f := 116) rfl ?_);refine goesL_ (some 51) rfl rfl Try.func116 (by kernel_rfl) rfl #[.int .i64 (rd x3_3 x45_4)] rfl (by (try simp only [List.map_toArray,List.map_cons,List.map_nil]);first | done | rfl | (simp only [List.length_drop,List.length_take];rfl)) ?_;(with_reducible refine (qvv.calls k4 (rd x3_3 x45_4) t113 _ A27.out).mono ?_);rintro e w29 ⟨v114,rfl,ho0,hb⟩;refine ⟨_,rfl,?_⟩;have n0_ := qq.mk (Kd.R_elder' (by (with_reducible repeat (first | apply Kd.jq | apply Kd.zx | apply Kd.jz));exact HO_9.out) (Kd.R_base ho0) hb);have n1_ := qq.mk (Kd.R_below (by (with_reducible repeat (first | apply Kd.jq | apply Kd.zx | apply Kd.jz));exact HO_43.out) hb);have n2_ := qq.mk (Kd.R_lower (Kd.R_new' ho0 (Kd.R_lt (by (with_reducible repeat (first | apply Kd.jq | apply Kd.zx | apply Kd.jz));exact HO_9.out))) (zw (by repeat (first | (with_reducible first | exact HB.out | apply qj | apply qz | apply qk) | exact HB.out))));have n3_ := qq.mk (zv (by repeat (first | (with_reducible first | exact HB.out | apply qj | apply qz | apply qk) | exact HB.out)) hb);clear HO_9;clear HO_43;clear HB;have HO_9 := n0_;have HO_43 := n1_;have HO115 := n2_;have HB := n3_;clear n0_ n1_ n2_ n3_;(try clear hb);(try clear hb2);(try clear hk);(try clear hi);(try clear ho0);obtain ⟨Ao31,co31,eo31⟩ := Kd.R_slice HO115.out;subst eo31) | ((with_reducible refine gate_builtin (b := .append) (xs := #[.tmp 49,.tmp 51]) rfl ?_);at_builtin;refine Kd.R_append_rows (Kd.int .u8) (w0 := w) w.heap.size rfl (.tmp 49) (.tmp 51) 26 5 (.int .u8 0) 1 rfl Try.underlying26 info5 rfl (by decide) (by omega) u9 x9_4 t113 _ _ _ (fun k_ => some k_ ≠ (.slice Ao31 t113.length co31 : Value).ownBlock) (fun _ => False) rfl rfl ?aO ?aR (fun _ _ h => h) (fun _ h => h.elim) ?aF ?aB ?aS ?aL ?_;(case aR => repeat (first | exact (Kd.R_reads' HO115.out).2.2 | (with_reducible refine Kd.C_alloc ?_ _) | (with_reducible refine Kd.C_drewN ?_ _) | (with_reducible refine Kd.C_drew ?_)));(case aB => exact (by repeat (first | (with_reducible first | exact HB.out | apply qj | apply qz | apply qk) | exact HB.out)));(case aF => exact (fun k_ hk => Kd.fresh' (Kd.R_lt (by (with_reducible repeat (first | apply Kd.jq | apply Kd.zx | apply Kd.jz));exact HO115.out)) k_ hk));(case aO => exact (by (with_reducible repeat (first | apply Kd.jq | apply Kd.zx | apply Kd.jz));exact Kd.R_mono HO_9.out (fun _ hk => hk.2)));(case aS => exact (zw (by repeat (first | (with_reducible first | exact HB.out | apply qj | apply qz | apply qk) | exact HB.out))));(case aL => have := LMc28.out;omega);intro v117 w30 ho hb hg hat;rw [← Ny116.out] at ho;have n0_ := qq.mk (Kd.R_over' (by (with_reducible repeat (first | apply Kd.jq | apply Kd.zx | apply Kd.jz));exact HO_43.out) (Kd.R_typed (by (with_reducible repeat (first | apply Kd.jq | apply Kd.zx | apply Kd.jz));exact HO_9.out)) (by decide) hg);have n1_ := qq.mk (Kd.R_after (ok := (fun _ => True)) (by (with_reducible repeat (first | apply Kd.jq | apply Kd.zx | apply Kd.jz));exact HO115.out) hg hat);have n2_ := qq.mk (hb);have n3_ := qq.mk (ho);clear HO_43;clear HO115;clear HB;clear HO_9;have HO_43 := n0_;have HO115 := n1_;have HB := n2_;have HO118 := n3_;clear n0_ n1_ n2_ n3_;clear ho hb hg hat))
                go_roundg k4
                case measure => have := HK1.out;have := HK2.out;have := HK3.out;have := HK4.out;omega
                case rel => exact ⟨(y116),(wrap64 (x45_4 + 1)),(by first | rfl | (simp;done) | (simp [*];done)),H',⟨by have := HK1.out;have := HK2.out;have := HK3.out;have := HK4.out;omega⟩,⟨by (with_reducible repeat (first | apply Kd.jq | apply Kd.zx | apply Kd.jz));exact Kd.R_mono HO118.out (fun _ hk => trivial)⟩,⟨by (with_reducible repeat (first | apply Kd.jq | apply Kd.zx | apply Kd.jz));exact HO_43.out⟩,⟨by repeat (first | (with_reducible first | exact HB.out | apply qj | apply qz | apply qk) | exact HB.out)⟩⟩
               ·rw [if_neg c28] at H
                exact absurd H (by simp)
              ·rw [if_neg c26] at H
               exact absurd H (by simp)
             ·rw [if_neg c25] at H
              exact absurd H (by simp)
            ·rw [if_neg c24] at H
             have c24b0 : decide (x45_4 < (x3_3.length : Int)) = false := decide_eq_false c24
             clear c24
             obtain rfl := Option.some.inj H
             go_wp2
             go_ret
             exact ⟨_,by first | rfl | (simp [*,kz,jx] <;> rfl),by (with_reducible repeat (first | apply Kd.jq | apply Kd.zx | apply Kd.jz));exact HO_9.out,by repeat (first | (with_reducible first | exact HB.out | apply qj | apply qz | apply qk) | exact HB.out)⟩
def qwz.f (k : Nat) (l0 : List Int) (l1 : List Int) : Option (List Int) := if ([] : List Int).length + l0.length < 140737488355328 then ((some (([] : List Int) ++ l0 : List Int)).bind fun y101 => (if y101.length + l1.length < 140737488355328 then ((qvw.f k (y101 ++ l1)).bind fun t107 => (some t107)) else (none))) else (none)
set_option maxHeartbeats 8000000 in
set_option maxRecDepth 100000 in
theorem qwz.calls (k : Nat) (A0 : Option Addr) (c0 : Nat) (l0 : List Int) (A1 : Option Addr) (c1 : Nat) (l1 : List Int) (r : List Int) (w : World) (hr0 : Kd.C (Kd.int .u8) w A0 l0.length l0) (hc0 : l0.length ≤ c0) (hr1 : Kd.C (Kd.int .u8) w A1 l1.length l1) (hc1 : l1.length ≤ c1) (h : qwz.f k l0 l1 = some r) :
  Calls Try.prog 136 #[.slice A0 l0.length c0,.slice A1 l1.length c1] w fun e w' => ∃ v0_ : Value,e = .returned (v0_) ∧ Kd.R (Kd.int .u8) 5 w' w.heap.size (fun _ => True) v0_ r ∧ Below w.heap.size w w' := by
 have HR0 := qq.mk hr0
 have HC0 := qq.mk hc0
 clear hr0 hc0
 have HR1 := qq.mk hr1
 have HC1 := qq.mk hc1
 clear hr1 hc1
 have HB := qq.mk (Below.refl w.heap.size w)
 have H : (if ([] : List Int).length + l0.length < 140737488355328 then ((some (([] : List Int) ++ l0 : List Int)).bind fun y101 => (if y101.length + l1.length < 140737488355328 then ((qvw.f k (y101 ++ l1)).bind fun t107 => (some t107)) else (none))) else (none)) = some r := h
 clear h
 by_cases c3 : ([] : List Int).length + l0.length < 140737488355328
 ·rw [if_pos c3] at H
  have LMc3 := qq.mk c3
  clear c3
  obtain ⟨y101,hy101⟩ : ∃ y_ : List Int,y_ = (([] : List Int) ++ l0) := ⟨_,rfl⟩
  replace H : (if y101.length + l1.length < 140737488355328 then ((qvw.f k (y101 ++ l1)).bind fun t107 => (some t107)) else (none)) = some r := by first | (rw [hy101];with_reducible exact H) | (have H2_ := (Option.bind_some _ _).symm.trans H;rw [hy101];with_reducible exact H2_) | (have H2_ := (Option.bind_some _ _).symm.trans H;with_reducible exact H2_) | with_reducible exact H | (rw [hy101];exact H) | exact H
  have Ny101 := qq.mk hy101
  clear hy101
  by_cases c4 : y101.length + l1.length < 140737488355328
  ·rw [if_pos c4] at H
   have LMc4 := qq.mk c4
   clear c4
   obtain ⟨y104,hy104⟩ : ∃ y_ : List Int,y_ = (y101 ++ l1) := ⟨_,rfl⟩
   replace H : ((qvw.f k y104).bind fun t107 => (some t107)) = some r := by first | (rw [hy104];with_reducible exact H) | (have H2_ := (Option.bind_some _ _).symm.trans H;rw [hy104];with_reducible exact H2_) | (have H2_ := (Option.bind_some _ _).symm.trans H;with_reducible exact H2_) | with_reducible exact H | (rw [hy104];exact H) | exact H
   have Ny104 := qq.mk hy104
   clear hy104
   replace H := Option.bind_eq_some_iff.mp H
   obtain ⟨t107,A50,H⟩ := H
   replace H : (some t107) = some r := H
   have A5 := qq.mk A50
   clear A50
   obtain rfl := Option.some.inj H
   go_enter Try.func136,Try.ntmps136
   go_wp2_with (first | ((with_reducible refine gate_builtin (b := .append) (xs := #[.tmp 6,.tmp 7]) rfl ?_);at_builtin;refine Kd.R_append_rows (Kd.int .u8) (w0 := w) w.heap.size rfl (.tmp 6) (.tmp 7) 26 5 (.int .u8 0) 1 rfl Try.underlying26 info5 rfl (by decide) (by omega) (.slice none 0 0) ([] : List Int) l0 _ _ _ (fun _ => True) (fun _ => False) rfl rfl ?aO ?aR (fun _ _ h => h) (fun _ h => h.elim) ?aF ?aB ?aS ?aL ?_;(case aR => repeat (first | exact HR0.out | (with_reducible refine Kd.C_alloc ?_ _) | (with_reducible refine Kd.C_drewN ?_ _) | (with_reducible refine Kd.C_drew ?_)));(case aB => exact (by repeat (first | (with_reducible first | exact HB.out | apply qj | apply qz | apply qk) | exact HB.out)));(case aF => exact (fun _ _ => trivial));(case aO => exact ((Kd.R_nil _ _ _ _ (fun _ => True))));(case aS => exact (zw (by repeat (first | (with_reducible first | exact HB.out | apply qj | apply qz | apply qk) | exact HB.out))));(case aL => have := LMc3.out;omega);intro v102 w6 ho hb hg hat;rw [← Ny101.out] at ho;have n0_ := qq.mk (hb);have n1_ := qq.mk (ho);clear HB;have HB := n0_;have HO103 := n1_;clear n0_ n1_;clear ho hb hg hat) | ((with_reducible refine gate_builtin (b := .append) (xs := #[.tmp 8,.tmp 9]) rfl ?_);at_builtin;refine Kd.R_append_rows (Kd.int .u8) (w0 := w) w.heap.size rfl (.tmp 8) (.tmp 9) 26 5 (.int .u8 0) 1 rfl Try.underlying26 info5 rfl (by decide) (by omega) v102 y101 l1 _ _ _ (fun _ => True) (fun _ => False) rfl rfl ?aO ?aR (fun _ _ h => h) (fun _ h => h.elim) ?aF ?aB ?aS ?aL ?_;(case aR => repeat (first | exact (Kd.C_below HR1.out HB.out) | (with_reducible refine Kd.C_alloc ?_ _) | (with_reducible refine Kd.C_drewN ?_ _) | (with_reducible refine Kd.C_drew ?_)));(case aB => exact (by repeat (first | (with_reducible first | exact HB.out | apply qj | apply qz | apply qk) | exact HB.out)));(case aF => exact (fun _ _ => trivial));(case aO => exact (by (with_reducible repeat (first | apply Kd.jq | apply Kd.zx | apply Kd.jz));exact HO103.out));(case aS => exact (zw (by repeat (first | (with_reducible first | exact HB.out | apply qj | apply qz | apply qk) | exact HB.out))));(case aL => have := LMc4.out;omega);intro v105 w7 ho hb hg hat;rw [← Ny104.out] at ho;have n0_ := qq.mk (hb);have n1_ := qq.mk (ho);clear HB;clear HO103;have HB := n0_;have HO106 := n1_;clear n0_ n1_;clear ho hb hg hat;obtain ⟨Ao8,co8,eo8⟩ := Kd.R_slice HO106.out;subst eo8) | ((with_reducible refine kj (f := 57) rfl ?_);refine goesL_ (some 11) rfl rfl Try.func57 (by kernel_rfl) rfl #[.slice Ao8 y104.length co8] rfl (by (try simp only [List.map_toArray,List.map_cons,List.map_nil]);first | done | rfl | (simp only [List.length_drop,List.length_take];rfl)) ?_;(with_reducible refine (qvw.calls k _ _ y104 t107 _ ?side1 ?side2 A5.out).mono ?_);(case side1 => repeat (first | exact (Kd.R_reads' HO106.out).2.2 | (with_reducible refine Kd.C_alloc ?_ _) | (with_reducible refine Kd.C_drewN ?_ _) | (with_reducible refine Kd.C_drew ?_)));(case side2 => exact (Kd.R_reads' HO106.out).2.1);rintro e w9 ⟨v108,rfl,ho0,hb⟩;refine ⟨_,rfl,?_⟩;have n0_ := qq.mk (Kd.R_elder' (by (with_reducible repeat (first | apply Kd.jq | apply Kd.zx | apply Kd.jz));exact HO106.out) (Kd.R_base ho0) hb);have n1_ := qq.mk (Kd.R_lower (Kd.R_new' ho0 (Kd.R_lt (by (with_reducible repeat (first | apply Kd.jq | apply Kd.zx | apply Kd.jz));exact HO106.out))) (zw (by repeat (first | (with_reducible first | exact HB.out | apply qj | apply qz | apply qk) | exact HB.out))));have n2_ := qq.mk (zv (by repeat (first | (with_reducible first | exact HB.out | apply qj | apply qz | apply qk) | exact HB.out)) hb);clear HO106;clear HB;have HO106 := n0_;have HO109 := n1_;have HB := n2_;clear n0_ n1_ n2_;(try clear hb);(try clear hb2);(try clear hk);(try clear hi);(try clear ho0)))
   go_ret
   exact ⟨_,by first | rfl | (simp [*,kz,jx] <;> rfl),by (with_reducible repeat (first | apply Kd.jq | apply Kd.zx | apply Kd.jz));exact Kd.R_mono HO109.out (fun _ hk => trivial),by repeat (first | (with_reducible first | exact HB.out | apply qj | apply qz | apply qk) | exact HB.out)⟩
  ·rw [if_neg c4] at H
   exact absurd H (by simp)
 ·rw [if_neg c3] at H
  exact absurd H (by simp)
def qvx.f (k : Nat) (l0 : List Int) (l1 : List Int) : Option (List Int) := (qvw.f k l0).bind fun t101 => ((qvw.f k l1).bind fun t104 => ((qwz.f k t101 t104).bind fun t107 => (some t107)))
set_option maxHeartbeats 8000000 in
set_option maxRecDepth 100000 in
theorem qvx.calls (k : Nat) (A0 : Option Addr) (c0 : Nat) (l0 : List Int) (A1 : Option Addr) (c1 : Nat) (l1 : List Int) (r : List Int) (w : World) (hr0 : Kd.C (Kd.int .u8) w A0 l0.length l0) (hc0 : l0.length ≤ c0) (hr1 : Kd.C (Kd.int .u8) w A1 l1.length l1) (hc1 : l1.length ≤ c1) (h : qvx.f k l0 l1 = some r) :
  Calls Try.prog 108 #[.slice A0 l0.length c0,.slice A1 l1.length c1] w fun e w' => ∃ v0_ : Value,e = .returned (v0_) ∧ Kd.R (Kd.int .u8) 5 w' w.heap.size (fun _ => True) v0_ r ∧ Below w.heap.size w w' := by
 have HR0 := qq.mk hr0
 have HC0 := qq.mk hc0
 clear hr0 hc0
 have HR1 := qq.mk hr1
 have HC1 := qq.mk hc1
 clear hr1 hc1
 have HB := qq.mk (Below.refl w.heap.size w)
 have H : ((qvw.f k l0).bind fun t101 => ((qvw.f k l1).bind fun t104 => ((qwz.f k t101 t104).bind fun t107 => (some t107)))) = some r := h
 clear h
 replace H := Option.bind_eq_some_iff.mp H
 obtain ⟨t101,A30,H⟩ := H
 replace H : ((qvw.f k l1).bind fun t104 => ((qwz.f k t101 t104).bind fun t107 => (some t107))) = some r := H
 have A3 := qq.mk A30
 clear A30
 replace H := Option.bind_eq_some_iff.mp H
 obtain ⟨t104,A40,H⟩ := H
 replace H : ((qwz.f k t101 t104).bind fun t107 => (some t107)) = some r := H
 have A4 := qq.mk A40
 clear A40
 replace H := Option.bind_eq_some_iff.mp H
 obtain ⟨t107,A50,H⟩ := H
 replace H : (some t107) = some r := H
 have A5 := qq.mk A50
 clear A50
 obtain rfl := Option.some.inj H
 go_enter Try.func108,Try.ntmps108
 go_wp2_with (first | ((with_reducible refine kj (f := 57) rfl ?_);refine goesL_ (some 6) rfl rfl Try.func57 (by kernel_rfl) rfl #[.slice A0 l0.length c0] rfl (by (try simp only [List.map_toArray,List.map_cons,List.map_nil]);first | done | rfl | (simp only [List.length_drop,List.length_take];rfl)) ?_;(with_reducible refine (qvw.calls k _ _ l0 t101 _ ?side1 ?side2 A3.out).mono ?_);(case side1 => repeat (first | exact HR0.out | (with_reducible refine Kd.C_alloc ?_ _) | (with_reducible refine Kd.C_drewN ?_ _) | (with_reducible refine Kd.C_drew ?_)));(case side2 => exact HC0.out);rintro e w6 ⟨v102,rfl,ho0,hb⟩;refine ⟨_,rfl,?_⟩;have n0_ := qq.mk (Kd.R_lower ho0 (zw (by repeat (first | (with_reducible first | exact HB.out | apply qj | apply qz | apply qk) | exact HB.out))));have n1_ := qq.mk (zv (by repeat (first | (with_reducible first | exact HB.out | apply qj | apply qz | apply qk) | exact HB.out)) hb);clear HB;have HO103 := n0_;have HB := n1_;clear n0_ n1_;(try clear hb);(try clear hb2);(try clear hk);(try clear hi);(try clear ho0)) | ((with_reducible refine kj (f := 57) rfl ?_);refine goesL_ (some 8) rfl rfl Try.func57 (by kernel_rfl) rfl #[.slice A1 l1.length c1] rfl (by (try simp only [List.map_toArray,List.map_cons,List.map_nil]);first | done | rfl | (simp only [List.length_drop,List.length_take];rfl)) ?_;(with_reducible refine (qvw.calls k _ _ l1 t104 _ ?side1 ?side2 A4.out).mono ?_);(case side1 => repeat (first | exact (Kd.C_below HR1.out HB.out) | (with_reducible refine Kd.C_alloc ?_ _) | (with_reducible refine Kd.C_drewN ?_ _) | (with_reducible refine Kd.C_drew ?_)));(case side2 => exact HC1.out);rintro e w7 ⟨v105,rfl,ho0,hb⟩;refine ⟨_,rfl,?_⟩;have n0_ := qq.mk (Kd.R_elder' (by (with_reducible repeat (first | apply Kd.jq | apply Kd.zx | apply Kd.jz));exact HO103.out) (Kd.R_base ho0) hb);have n1_ := qq.mk (Kd.R_lower (Kd.R_new' ho0 (Kd.R_lt (by (with_reducible repeat (first | apply Kd.jq | apply Kd.zx | apply Kd.jz));exact HO103.out))) (zw (by repeat (first | (with_reducible first | exact HB.out | apply qj | apply qz | apply qk) | exact HB.out))));have n2_ := qq.mk (zv (by repeat (first | (with_reducible first | exact HB.out | apply qj | apply qz | apply qk) | exact HB.out)) hb);clear HO103;clear HB;have HO103 := n0_;have HO106 := n1_;have HB := n2_;clear n0_ n1_ n2_;(try clear hb);(try clear hb2);(try clear hk);(try clear hi);(try clear ho0);obtain ⟨Ao8,co8,eo8⟩ := Kd.R_slice HO103.out;subst eo8;obtain ⟨Ao9,co9,eo9⟩ := Kd.R_slice HO106.out;subst eo9) | ((with_reducible refine kj (f := 136) rfl ?_);refine goesL_ (some 9) rfl rfl Try.func136 (by kernel_rfl) rfl #[.slice Ao8 t101.length co8,.slice Ao9 t104.length co9] rfl (by (try simp only [List.map_toArray,List.map_cons,List.map_nil]);first | done | rfl | (simp only [List.length_drop,List.length_take];rfl)) ?_;(with_reducible refine (qwz.calls k _ _ t101 _ _ t104 t107 _ ?side1 ?side2 ?side3 ?side4 A5.out).mono ?_);(case side1 => repeat (first | exact (Kd.R_reads' HO103.out).2.2 | (with_reducible refine Kd.C_alloc ?_ _) | (with_reducible refine Kd.C_drewN ?_ _) | (with_reducible refine Kd.C_drew ?_)));(case side2 => exact (Kd.R_reads' HO103.out).2.1);(case side3 => repeat (first | exact (Kd.R_reads' HO106.out).2.2 | (with_reducible refine Kd.C_alloc ?_ _) | (with_reducible refine Kd.C_drewN ?_ _) | (with_reducible refine Kd.C_drew ?_)));(case side4 => exact (Kd.R_reads' HO106.out).2.1);rintro e w10 ⟨v108,rfl,ho0,hb⟩;refine ⟨_,rfl,?_⟩;have n0_ := qq.mk (Kd.R_elder' (by (with_reducible repeat (first | apply Kd.jq | apply Kd.zx | apply Kd.jz));exact HO103.out) (Kd.R_base ho0) hb);have n1_ := qq.mk (Kd.R_elder' (by (with_reducible repeat (first | apply Kd.jq | apply Kd.zx | apply Kd.jz));exact HO106.out) (Kd.R_base ho0) hb);have n2_ := qq.mk (Kd.R_lower (Kd.R_new' (Kd.R_new' ho0 (Kd.R_lt (by (with_reducible repeat (first | apply Kd.jq | apply Kd.zx | apply Kd.jz));exact HO103.out))) (Kd.R_lt (by (with_reducible repeat (first | apply Kd.jq | apply Kd.zx | apply Kd.jz));exact HO106.out))) (zw (by repeat (first | (with_reducible first | exact HB.out | apply qj | apply qz | apply qk) | exact HB.out))));have n3_ := qq.mk (zv (by repeat (first | (with_reducible first | exact HB.out | apply qj | apply qz | apply qk) | exact HB.out)) hb);clear HO103;clear HO106;clear HB;have HO103 := n0_;have HO106 := n1_;have HO109 := n2_;have HB := n3_;clear n0_ n1_ n2_ n3_;(try clear hb);(try clear hb2);(try clear hk);(try clear hi);(try clear ho0)))
 go_ret
 exact ⟨_,by first | rfl | (simp [*,kz,jx] <;> rfl),by (with_reducible repeat (first | apply Kd.jq | apply Kd.zx | apply Kd.jz));exact Kd.R_mono HO109.out (fun _ hk => trivial),by repeat (first | (with_reducible first | exact HB.out | apply qj | apply qz | apply qk) | exact HB.out)⟩
end Go.Proofs.Ytgolcojhnklfdaa.Pr
namespace Go.Proofs.Ytgolcojhnklfdaa.Pr
open Go.RowKit Go.Proofs.YtgolcojhnklfdaaW.PrintWords Go.Proofs.YtgolcojhnklfdaaW.PrintLast Go.Proofs.YtgolcojhnklfdaaW.PrintMore
attribute [local go_sem] max2_int min2_int max_two min_two max_three min_three max_four min_four
set_option linter.unusedVariables false
set_option linter.unusedSimpArgs false
def qjv.l0 : Nat → Int → List Int → List Int → Int → Option (List Int)
 | 0,_,_,_,_ => none
 | k + 1,x2,x7,x8,x9 => if x9 < x2 then ((qvx.f k x7 x8).bind fun t107 => (qjv.l0 k x2 x7 t107 (wrap64 (x9 + 1)))) else (some x8)
def qjv.f (k : Nat) (a0 : ByteArray) (l1 : List Int) (a2 : Int) : Option (List Int) := (bytesOfS.f a0).bind fun t101 => ((qvx.f k t101 l1).bind fun t104 => (qjv.l0 k a2 t101 t104 1))
set_option maxHeartbeats 8000000 in
set_option maxRecDepth 100000 in
theorem qjv.calls (k : Nat) (a0 : ByteArray) (A1 : Option Addr) (c1 : Nat) (l1 : List Int) (a2 : Int) (r : List Int) (w : World) (hr1 : Kd.C (Kd.int .u8) w A1 l1.length l1) (hc1 : l1.length ≤ c1) (h : qjv.f k a0 l1 a2 = some r) :
  Calls Try.prog 104 #[.string a0,.slice A1 l1.length c1,.int .i64 a2] w fun e w' => ∃ v0_ : Value,e = .returned (v0_) ∧ Kd.R (Kd.int .u8) 5 w' w.heap.size (fun _ => True) v0_ r ∧ Below w.heap.size w w' := by
 have HR1 := qq.mk hr1
 have HC1 := qq.mk hc1
 clear hr1 hc1
 have HB := qq.mk (Below.refl w.heap.size w)
 have H : ((bytesOfS.f a0).bind fun t101 => ((qvx.f k t101 l1).bind fun t104 => (qjv.l0 k a2 t101 t104 1))) = some r := h
 clear h
 replace H := Option.bind_eq_some_iff.mp H
 obtain ⟨t101,A40,H⟩ := H
 replace H : ((qvx.f k t101 l1).bind fun t104 => (qjv.l0 k a2 t101 t104 1)) = some r := H
 have A4 := qq.mk A40
 clear A40
 replace H := Option.bind_eq_some_iff.mp H
 obtain ⟨t104,A50,H⟩ := H
 replace H : (qjv.l0 k a2 t101 t104 1) = some r := H
 have A5 := qq.mk A50
 clear A50
 have H' := qq.mk H
 clear H
 go_enter Try.func104,Try.ntmps104
 go_wp2_with (first | ((with_reducible refine gate_convert (src := 9) (dst := 26) rfl ?_);refine bytesGoesL_ (some 11) rfl rfl (s := a0) rfl rfl ?_;(with_reducible refine (bytesOfS.calls a0 t101 _ A4.out).mono ?_);rintro e w6 ⟨v102,rfl,ho0,hb⟩;refine ⟨_,rfl,?_⟩;have n0_ := qq.mk (Kd.V_lower (Kd.V_mono (ok' := fun k_ => True) ho0 (fun k_ hk_ => trivial)) (zw (by repeat (first | (with_reducible first | exact HB.out | apply qj | apply qz | apply qk) | exact HB.out))));have n1_ := qq.mk (zv (by repeat (first | (with_reducible first | exact HB.out | apply qj | apply qz | apply qk) | exact HB.out)) hb);clear HB;have HO103 := n0_;have HB := n1_;clear n0_ n1_;(try clear hb);(try clear hb2);(try clear hk);(try clear hi);(try clear ho0);obtain ⟨Ao7,co7,eo7⟩ := Kd.V_slice HO103.out;subst eo7) | ((with_reducible refine kj (f := 108) rfl ?_);refine goesL_ (some 14) rfl rfl Try.func108 (by kernel_rfl) rfl #[.slice Ao7 t101.length co7,.slice A1 l1.length c1] rfl (by (try simp only [List.map_toArray,List.map_cons,List.map_nil]);first | done | rfl | (simp only [List.length_drop,List.length_take];rfl)) ?_;(with_reducible refine (qvx.calls k _ _ t101 _ _ l1 t104 _ ?side1 ?side2 ?side3 ?side4 A5.out).mono ?_);(case side1 => repeat (first | exact (Kd.V_reads' HO103.out).2.2 | (with_reducible refine Kd.C_alloc ?_ _) | (with_reducible refine Kd.C_drewN ?_ _) | (with_reducible refine Kd.C_drew ?_)));(case side2 => exact (Kd.V_reads' HO103.out).2.1);(case side3 => repeat (first | exact (Kd.C_below HR1.out HB.out) | (with_reducible refine Kd.C_alloc ?_ _) | (with_reducible refine Kd.C_drewN ?_ _) | (with_reducible refine Kd.C_drew ?_)));(case side4 => exact HC1.out);rintro e w8 ⟨v105,rfl,ho0,hb⟩;refine ⟨_,rfl,?_⟩;have n0_ := qq.mk (Kd.V_elder' (by (with_reducible repeat (first | apply Kd.wq | apply Kd.vx | apply Kd.wz));exact HO103.out) (Kd.R_base ho0) hb);have n1_ := qq.mk (Kd.R_lower ho0 (zw (by repeat (first | (with_reducible first | exact HB.out | apply qj | apply qz | apply qk) | exact HB.out))));have n2_ := qq.mk (zv (by repeat (first | (with_reducible first | exact HB.out | apply qj | apply qz | apply qk) | exact HB.out)) hb);clear HO103;clear HB;have HO103 := n0_;have HO106 := n1_;have HB := n2_;clear n0_ n1_ n2_;(try clear hb);(try clear hb2);(try clear hk);(try clear hi);(try clear ho0)))
 go_loopg [8,9] k (fun kq v8 v9 w' => ∃ (x8_1 : List Int) (x9_1 : Int),v9 = .int .i64 x9_1 ∧ qq (qjv.l0 kq a2 t101 x8_1 x9_1 = some r) ∧ qq (kq ≤ k) ∧ qq (Kd.V (Kd.int .u8) 5 w' w.heap.size (fun k_ => some k_ ≠ (v8 : Value).ownBlock) (.slice Ao7 t101.length co7) t101) ∧ qq (Kd.R (Kd.int .u8) 5 w' w.heap.size (fun _ => True) v8 x8_1) ∧ qq (Below w.heap.size w w'))
 case atStart => exact ⟨(t104),(1),(by first | rfl | (simp;done) | (simp [*];done)),H',⟨Nat.le_refl _⟩,⟨by (with_reducible repeat (first | apply Kd.wq | apply Kd.vx | apply Kd.wz));exact Kd.V_mono HO103.out (fun _ hk => hk.2)⟩,⟨by (with_reducible repeat (first | apply Kd.jq | apply Kd.zx | apply Kd.jz));exact HO106.out⟩,⟨by repeat (first | (with_reducible first | exact HB.out | apply qj | apply qz | apply qk) | exact HB.out)⟩⟩
 case round =>
  clear H'
  try clear c1
  try clear p2
  obtain ⟨x8_1,x9_1,rfl,HA,HK1,HO_7,HO_8,HB⟩ := hrel
  cases gk with
  | zero => exact absurd HA.out (by simp [qjv.l0])
  | succ k1 =>
   have H := HA.out
   clear HA
   simp only [qjv.l0] at H
   by_cases c9 : x9_1 < a2
   ·rw [if_pos c9] at H
    have c9b0 : decide (x9_1 < a2) = true := decide_eq_true c9
    clear c9
    replace H := Option.bind_eq_some_iff.mp H
    obtain ⟨t107,A100,H⟩ := H
    replace H : (qjv.l0 k1 a2 t101 t107 (wrap64 (x9_1 + 1))) = some r := H
    have A10 := qq.mk A100
    clear A100
    have H' := qq.mk H
    clear H
    obtain ⟨Ao11,co11,eo11⟩ := Kd.R_slice HO_8.out
    subst eo11
    go_wp2_with (first | ((with_reducible refine kj (f := 108) rfl ?_);refine goesL_ (some 22) rfl rfl Try.func108 (by kernel_rfl) rfl #[.slice Ao7 t101.length co7,.slice Ao11 x8_1.length co11] rfl (by (try simp only [List.map_toArray,List.map_cons,List.map_nil]);first | done | rfl | (simp only [List.length_drop,List.length_take];rfl)) ?_;(with_reducible refine (qvx.calls k1 _ _ t101 _ _ x8_1 t107 _ ?side1 ?side2 ?side3 ?side4 A10.out).mono ?_);(case side1 => repeat (first | exact (Kd.V_reads' HO_7.out).2.2 | (with_reducible refine Kd.C_alloc ?_ _) | (with_reducible refine Kd.C_drewN ?_ _) | (with_reducible refine Kd.C_drew ?_)));(case side2 => exact (Kd.V_reads' HO_7.out).2.1);(case side3 => repeat (first | exact (Kd.R_reads' HO_8.out).2.2 | (with_reducible refine Kd.C_alloc ?_ _) | (with_reducible refine Kd.C_drewN ?_ _) | (with_reducible refine Kd.C_drew ?_)));(case side4 => exact (Kd.R_reads' HO_8.out).2.1);rintro e w12 ⟨v108,rfl,ho0,hb⟩;refine ⟨_,rfl,?_⟩;have n0_ := qq.mk (Kd.V_elder' (by (with_reducible repeat (first | apply Kd.wq | apply Kd.vx | apply Kd.wz));exact HO_7.out) (Kd.R_base ho0) hb);have n1_ := qq.mk (Kd.R_elder' (by (with_reducible repeat (first | apply Kd.jq | apply Kd.zx | apply Kd.jz));exact HO_8.out) (Kd.R_base ho0) hb);have n2_ := qq.mk (Kd.R_lower (Kd.R_new' ho0 (Kd.R_lt (by (with_reducible repeat (first | apply Kd.jq | apply Kd.zx | apply Kd.jz));exact HO_8.out))) (zw (by repeat (first | (with_reducible first | exact HB.out | apply qj | apply qz | apply qk) | exact HB.out))));have n3_ := qq.mk (zv (by repeat (first | (with_reducible first | exact HB.out | apply qj | apply qz | apply qk) | exact HB.out)) hb);clear HO_7;clear HO_8;clear HB;have HO_7 := n0_;have HO_8 := n1_;have HO109 := n2_;have HB := n3_;clear n0_ n1_ n2_ n3_;(try clear hb);(try clear hb2);(try clear hk);(try clear hi);(try clear ho0)))
    go_roundg k1
    case measure => have := HK1.out;omega
    case rel => exact ⟨(t107),(wrap64 (x9_1 + 1)),(by first | rfl | (simp;done) | (simp [*];done)),H',⟨by have := HK1.out;omega⟩,⟨by (with_reducible repeat (first | apply Kd.wq | apply Kd.vx | apply Kd.wz));exact Kd.V_mono HO_7.out (fun _ hk => hk.2)⟩,⟨by (with_reducible repeat (first | apply Kd.jq | apply Kd.zx | apply Kd.jz));exact Kd.R_mono HO109.out (fun _ hk => trivial)⟩,⟨by repeat (first | (with_reducible first | exact HB.out | apply qj | apply qz | apply qk) | exact HB.out)⟩⟩
   ·rw [if_neg c9] at H
    have c9b0 : decide (x9_1 < a2) = false := decide_eq_false c9
    clear c9
    obtain rfl := Option.some.inj H
    go_wp2
    go_ret
    exact ⟨_,by first | rfl | (simp [*,kz,jx] <;> rfl),by (with_reducible repeat (first | apply Kd.jq | apply Kd.zx | apply Kd.jz));exact HO_8.out,by repeat (first | (with_reducible first | exact HB.out | apply qj | apply qz | apply qk) | exact HB.out)⟩
end Go.Proofs.Ytgolcojhnklfdaa.Pr
namespace Go.Proofs.Ytgolcojhnklfdaa.Pr
open Go.RowKit Go.Proofs.YtgolcojhnklfdaaW.PrintWords Go.Proofs.YtgolcojhnklfdaaW.PrintLast Go.Proofs.YtgolcojhnklfdaaW.PrintMore
attribute [local go_sem] max2_int min2_int max_two min_two max_three min_three max_four min_four
set_option linter.unusedVariables false
set_option linter.unusedSimpArgs false
def qjz.f (k : Nat) (a0 : ByteArray) (l1 : List Int) (a2 : Int) : Option (List Int) := if (a0.size : Int) > 64 then (some ([] : List Int)) else (if (l1.length : Int) > 64 then (some ([] : List Int)) else (if a2 < 1 then (some ([] : List Int)) else (if a2 > 1000 then (some ([] : List Int)) else ((qjv.f k a0 l1 a2).bind fun t101 => (some t101)))))
set_option maxHeartbeats 8000000 in
set_option maxRecDepth 100000 in
theorem qjz.calls (k : Nat) (a0 : ByteArray) (A1 : Option Addr) (c1 : Nat) (l1 : List Int) (a2 : Int) (r : List Int) (w : World) (hr1 : Kd.C (Kd.int .u8) w A1 l1.length l1) (hc1 : l1.length ≤ c1) (h : qjz.f k a0 l1 a2 = some r) :
  Calls Try.prog 46 #[.string a0,.slice A1 l1.length c1,.int .i64 a2] w fun e w' => ∃ v0_ : Value,e = .returned (v0_) ∧ Kd.R (Kd.int .u8) 5 w' w.heap.size (fun _ => True) v0_ r ∧ Below w.heap.size w w' := by
 have HR1 := qq.mk hr1
 have HC1 := qq.mk hc1
 clear hr1 hc1
 have HB := qq.mk (Below.refl w.heap.size w)
 have H : (if (a0.size : Int) > 64 then (some ([] : List Int)) else (if (l1.length : Int) > 64 then (some ([] : List Int)) else (if a2 < 1 then (some ([] : List Int)) else (if a2 > 1000 then (some ([] : List Int)) else ((qjv.f k a0 l1 a2).bind fun t101 => (some t101)))))) = some r := h
 clear h
 by_cases c4 : (a0.size : Int) > 64
 ·rw [if_pos c4] at H
  have c4b0 : decide (64 < (a0.size : Int)) = true := decide_eq_true c4
  have c4b1 : decide (64 < a0.size) = true := decide_eq_true (by omega)
  clear c4
  obtain rfl := Option.some.inj H
  go_enter Try.func46,Try.ntmps46
  go_wp2
  go_ret
  exact ⟨_,by first | rfl | (simp [*,kz,jx] <;> rfl),by first | exact Kd.R_nil _ _ _ _ _ | exact Kd.N_nil _ _ _ _ _ | exact Kd.V_nil _ _ _ _ _ | exact Kd.Q_nil _ _ _ _ _ | exact Kd.S_nil _ _ _ _ _,by repeat (first | (with_reducible first | exact HB.out | apply qj | apply qz | apply qk) | exact HB.out)⟩
 ·rw [if_neg c4] at H
  have c4b0 : decide (64 < (a0.size : Int)) = false := decide_eq_false c4
  have c4b1 : decide (64 < a0.size) = false := decide_eq_false (by omega)
  clear c4
  by_cases c5 : (l1.length : Int) > 64
  ·rw [if_pos c5] at H
   have c5b0 : decide (64 < (l1.length : Int)) = true := decide_eq_true c5
   have c5b1 : decide (64 < l1.length) = true := decide_eq_true (by omega)
   clear c5
   obtain rfl := Option.some.inj H
   go_enter Try.func46,Try.ntmps46
   go_wp2
   go_ret
   exact ⟨_,by first | rfl | (simp [*,kz,jx] <;> rfl),by first | exact Kd.R_nil _ _ _ _ _ | exact Kd.N_nil _ _ _ _ _ | exact Kd.V_nil _ _ _ _ _ | exact Kd.Q_nil _ _ _ _ _ | exact Kd.S_nil _ _ _ _ _,by repeat (first | (with_reducible first | exact HB.out | apply qj | apply qz | apply qk) | exact HB.out)⟩
  ·rw [if_neg c5] at H
   have c5b0 : decide (64 < (l1.length : Int)) = false := decide_eq_false c5
   have c5b1 : decide (64 < l1.length) = false := decide_eq_false (by omega)
   clear c5
   by_cases c6 : a2 < 1
   ·rw [if_pos c6] at H
    have c6b0 : decide (a2 < 1) = true := decide_eq_true c6
    clear c6
    obtain rfl := Option.some.inj H
    go_enter Try.func46,Try.ntmps46
    go_wp2
    go_ret
    exact ⟨_,by first | rfl | (simp [*,kz,jx] <;> rfl),by first | exact Kd.R_nil _ _ _ _ _ | exact Kd.N_nil _ _ _ _ _ | exact Kd.V_nil _ _ _ _ _ | exact Kd.Q_nil _ _ _ _ _ | exact Kd.S_nil _ _ _ _ _,by repeat (first | (with_reducible first | exact HB.out | apply qj | apply qz | apply qk) | exact HB.out)⟩
   ·rw [if_neg c6] at H
    have c6b0 : decide (a2 < 1) = false := decide_eq_false c6
    clear c6
    by_cases c7 : a2 > 1000
    ·rw [if_pos c7] at H
     have c7b0 : decide (1000 < a2) = true := decide_eq_true c7
     clear c7
     obtain rfl := Option.some.inj H
     go_enter Try.func46,Try.ntmps46
     go_wp2
     go_ret
     exact ⟨_,by first | rfl | (simp [*,kz,jx] <;> rfl),by first | exact Kd.R_nil _ _ _ _ _ | exact Kd.N_nil _ _ _ _ _ | exact Kd.V_nil _ _ _ _ _ | exact Kd.Q_nil _ _ _ _ _ | exact Kd.S_nil _ _ _ _ _,by repeat (first | (with_reducible first | exact HB.out | apply qj | apply qz | apply qk) | exact HB.out)⟩
    ·rw [if_neg c7] at H
     have c7b0 : decide (1000 < a2) = false := decide_eq_false c7
     clear c7
     replace H := Option.bind_eq_some_iff.mp H
     obtain ⟨t101,A80,H⟩ := H
     replace H : (some t101) = some r := H
     have A8 := qq.mk A80
     clear A80
     obtain rfl := Option.some.inj H
     go_enter Try.func46,Try.ntmps46
     go_wp2_with (first | ((with_reducible refine kj (f := 104) rfl ?_);refine goesL_ (some 26) rfl rfl Try.func104 (by kernel_rfl) rfl #[.string a0,.slice A1 l1.length c1,.int .i64 a2] rfl (by (try simp only [List.map_toArray,List.map_cons,List.map_nil]);first | done | rfl | (simp only [List.length_drop,List.length_take];rfl)) ?_;(with_reducible refine (qjv.calls k a0 _ _ l1 a2 t101 _ ?side1 ?side2 A8.out).mono ?_);(case side1 => repeat (first | exact HR1.out | (with_reducible refine Kd.C_alloc ?_ _) | (with_reducible refine Kd.C_drewN ?_ _) | (with_reducible refine Kd.C_drew ?_)));(case side2 => exact HC1.out);rintro e w9 ⟨v102,rfl,ho0,hb⟩;refine ⟨_,rfl,?_⟩;have n0_ := qq.mk (Kd.R_lower ho0 (zw (by repeat (first | (with_reducible first | exact HB.out | apply qj | apply qz | apply qk) | exact HB.out))));have n1_ := qq.mk (zv (by repeat (first | (with_reducible first | exact HB.out | apply qj | apply qz | apply qk) | exact HB.out)) hb);clear HB;have HO103 := n0_;have HB := n1_;clear n0_ n1_;(try clear hb);(try clear hb2);(try clear hk);(try clear hi);(try clear ho0)))
     go_ret
     exact ⟨_,by first | rfl | (simp [*,kz,jx] <;> rfl),by (with_reducible repeat (first | apply Kd.jq | apply Kd.zx | apply Kd.jz));exact HO103.out,by repeat (first | (with_reducible first | exact HB.out | apply qj | apply qz | apply qk) | exact HB.out)⟩
end Go.Proofs.Ytgolcojhnklfdaa.Pr
namespace Go.Proofs.Ytgolcojhnklfdaa.Pr
open Go.RowKit Go.Proofs.YtgolcojhnklfdaaW.PrintWords Go.Proofs.YtgolcojhnklfdaaW.PrintLast Go.Proofs.YtgolcojhnklfdaaW.PrintMore
attribute [local go_sem] max2_int min2_int max_two min_two max_three min_three max_four min_four
set_option linter.unusedVariables false
set_option linter.unusedSimpArgs false
def qzx.f (k : Nat) (l0_0 : List Int) (a0_1 : Int) (l0_2 : List Int) (a1 : ByteArray) : Option (Bool) := (qjz.f k a1 l0_0 a0_1).bind fun t102 => (if (t102.length : Int) > 0 then (some ((strOfNums t102).toList == (strOfNums l0_2).toList)) else (some false))
set_option maxHeartbeats 8000000 in
set_option maxRecDepth 100000 in
theorem qzx.calls (k : Nat) (A0_0 : Option Addr) (c0_0 : Nat) (l0_0 : List Int) (a0_1 : Int) (A0_2 : Option Addr) (c0_2 : Nat) (l0_2 : List Int) (a1 : ByteArray) (r : Bool) (w : World) (hr0_0 : Kd.C (Kd.int .u8) w A0_0 l0_0.length l0_0) (hc0_0 : l0_0.length ≤ c0_0) (hr0_2 : Kd.C (Kd.int .u8) w A0_2 l0_2.length l0_2) (hc0_2 : l0_2.length ≤ c0_2) (h : qzx.f k l0_0 a0_1 l0_2 a1 = some r) :
  Calls Try.prog 73 #[.agg #[.slice A0_0 l0_0.length c0_0,.int .i64 a0_1,.slice A0_2 l0_2.length c0_2],.string a1] w fun e w' => e = .returned (.bool r) ∧ Below w.heap.size w w' := by
 have hu82 := Try.underlying82
 have HR0_0 := qq.mk hr0_0
 have HC0_0 := qq.mk hc0_0
 clear hr0_0 hc0_0
 have HR0_2 := qq.mk hr0_2
 have HC0_2 := qq.mk hc0_2
 clear hr0_2 hc0_2
 have HB := qq.mk (Below.refl w.heap.size w)
 have H : ((qjz.f k a1 l0_0 a0_1).bind fun t102 => (if (t102.length : Int) > 0 then (some ((strOfNums t102).toList == (strOfNums l0_2).toList)) else (some false))) = some r := h
 clear h
 replace H := Option.bind_eq_some_iff.mp H
 obtain ⟨t102,A30,H⟩ := H
 replace H : (if (t102.length : Int) > 0 then (some ((strOfNums t102).toList == (strOfNums l0_2).toList)) else (some false)) = some r := H
 have A3 := qq.mk A30
 clear A30
 by_cases c4 : (t102.length : Int) > 0
 ·rw [if_pos c4] at H
  have c4b0 : decide (0 < (t102.length : Int)) = true := decide_eq_true c4
  have c4b1 : decide (0 < t102.length) = true := decide_eq_true (by omega)
  clear c4
  obtain rfl := Option.some.inj H
  go_enter Try.func73,Try.ntmps73
  go_wp2_with (first | ((with_reducible refine gate_dst (N := 2) rfl ?_);refine box_event ?hg (N := 2) ?hd (cs := #[.slice A0_0 l0_0.length c0_0,.int .i64 a0_1,.slice A0_2 l0_2.length c0_2]) (t := 82) ?hr ?_;(case hd => rfl);(case hg => rfl);(case hr => first | (go_simp;done) | (go_simp;rfl));intro gb101 hg w5 hbox hb;have n0_ := qq.mk (zv (by repeat (first | (with_reducible first | exact HB.out | apply qj | apply qz | apply qk) | exact HB.out)) hb);have n1_ := qq.mk (hbox);have n2_ := qq.mk ((by rw [hg];exact (zw (by repeat (first | (with_reducible first | exact HB.out | apply qj | apply qz | apply qk) | exact HB.out))) : w.heap.size ≤ gb101));have n3_ := qq.mk ((by rw [hg];exact (zw (by repeat (first | (with_reducible first | exact HB.out | apply qj | apply qz | apply qk) | exact HB.out))) : w.heap.size ≤ gb101));clear HB;have HB := n0_;have BK101 := n1_;have GW101 := n2_;have GE101 := n3_;clear n0_ n1_ n2_ n3_;clear hb hbox hg;have hcz6_0 : w5.cell? ⟨gb101,0,none⟩ = some (.slice A0_0 l0_0.length c0_0) := (qw BK101.out 0).trans rfl;have hcz6_1 : w5.cell? ⟨gb101,1,none⟩ = some (.int .i64 a0_1) := (qw BK101.out 1).trans rfl;have hcz6_2 : w5.cell? ⟨gb101,2,none⟩ = some (.slice A0_2 l0_2.length c0_2) := (qw BK101.out 2).trans rfl;have hfz6_0 := qv BK101.out 0;have hfz6_1 := qv BK101.out 1;have hfz6_2 := qv BK101.out 2) | ((with_reducible refine kj (f := 46) rfl ?_);refine goesL_ (some 11) rfl rfl Try.func46 (by kernel_rfl) rfl #[.string a1,.slice A0_0 l0_0.length c0_0,.int .i64 a0_1] rfl (by (try simp only [List.map_toArray,List.map_cons,List.map_nil]);first | done | rfl | (simp only [List.length_drop,List.length_take];rfl)) ?_;(with_reducible refine (qjz.calls k a1 _ _ l0_0 a0_1 t102 _ ?side1 ?side2 A3.out).mono ?_);(case side1 => repeat (first | exact (Kd.C_below HR0_0.out HB.out) | (with_reducible refine Kd.C_alloc ?_ _) | (with_reducible refine Kd.C_drewN ?_ _) | (with_reducible refine Kd.C_drew ?_)));(case side2 => exact HC0_0.out);rintro e w7 ⟨v103,rfl,ho0,hb⟩;refine ⟨_,rfl,?_⟩;have n0_ := qq.mk (Kd.R_lower ho0 (zw (by repeat (first | (with_reducible first | exact HB.out | apply qj | apply qz | apply qk | refine qx ?_ GE101.out) | exact HB.out))));have n1_ := qq.mk (wj (g := gb101) (o := .cells #[.slice A0_0 l0_0.length c0_0,.int .i64 a0_1,.slice A0_2 l0_2.length c0_2] 82 (0,0)) (by (with_reducible repeat (first | refine zz ?_ _ | refine zj ?_ | refine zq ?_ _));exact BK101.out) hb);have n2_ := qq.mk (zv (by repeat (first | (with_reducible first | exact HB.out | apply qj | apply qz | apply qk | refine qx ?_ GE101.out) | exact HB.out)) hb);clear BK101;clear HB;have HO104 := n0_;have BK101 := n1_;have HB := n2_;clear n0_ n1_ n2_;(try clear hb);(try clear hb2);(try clear hk);(try clear hi);(try clear ho0);obtain ⟨Ao8,co8,eo8⟩ := Kd.R_slice HO104.out;subst eo8;have hcv9 := own_string (P := Try.prog) Try.underlying26 Try.underlying5 Try.underlying9 (Kd.own_of_R HO104.out);have hcz10_0 : w7.cell? ⟨gb101,0,none⟩ = some (.slice A0_0 l0_0.length c0_0) := (qw BK101.out 0).trans rfl;have hcz10_1 : w7.cell? ⟨gb101,1,none⟩ = some (.int .i64 a0_1) := (qw BK101.out 1).trans rfl;have hcz10_2 : w7.cell? ⟨gb101,2,none⟩ = some (.slice A0_2 l0_2.length c0_2) := (qw BK101.out 2).trans rfl;have hfz10_0 := qv BK101.out 0;have hfz10_1 := qv BK101.out 1;have hfz10_2 := qv BK101.out 2;have hcv11 := Kd.C_string (P := Try.prog) (A := A0_2) (c := c0_2) Try.underlying26 Try.underlying5 Try.underlying9 (Kd.C_below HR0_2.out HB.out)))
  go_ret
  exact ⟨by first | rfl | (simp [*,kz,jx] <;> rfl),by repeat (first | (with_reducible first | exact HB.out | apply qj | apply qz | apply qk | refine qx ?_ GE101.out) | exact HB.out)⟩
 ·rw [if_neg c4] at H
  have c4b0 : decide (0 < (t102.length : Int)) = false := decide_eq_false c4
  have c4b1 : decide (0 < t102.length) = false := decide_eq_false (by omega)
  clear c4
  obtain rfl := Option.some.inj H
  go_enter Try.func73,Try.ntmps73
  go_wp2_with (first | ((with_reducible refine gate_dst (N := 2) rfl ?_);refine box_event ?hg (N := 2) ?hd (cs := #[.slice A0_0 l0_0.length c0_0,.int .i64 a0_1,.slice A0_2 l0_2.length c0_2]) (t := 82) ?hr ?_;(case hd => rfl);(case hg => rfl);(case hr => first | (go_simp;done) | (go_simp;rfl));intro gb101 hg w12 hbox hb;have n0_ := qq.mk (zv (by repeat (first | (with_reducible first | exact HB.out | apply qj | apply qz | apply qk) | exact HB.out)) hb);have n1_ := qq.mk (hbox);have n2_ := qq.mk ((by rw [hg];exact (zw (by repeat (first | (with_reducible first | exact HB.out | apply qj | apply qz | apply qk) | exact HB.out))) : w.heap.size ≤ gb101));have n3_ := qq.mk ((by rw [hg];exact (zw (by repeat (first | (with_reducible first | exact HB.out | apply qj | apply qz | apply qk) | exact HB.out))) : w.heap.size ≤ gb101));clear HB;have HB := n0_;have BK101 := n1_;have GW101 := n2_;have GE101 := n3_;clear n0_ n1_ n2_ n3_;clear hb hbox hg;have hcz13_0 : w12.cell? ⟨gb101,0,none⟩ = some (.slice A0_0 l0_0.length c0_0) := (qw BK101.out 0).trans rfl;have hcz13_1 : w12.cell? ⟨gb101,1,none⟩ = some (.int .i64 a0_1) := (qw BK101.out 1).trans rfl;have hcz13_2 : w12.cell? ⟨gb101,2,none⟩ = some (.slice A0_2 l0_2.length c0_2) := (qw BK101.out 2).trans rfl;have hfz13_0 := qv BK101.out 0;have hfz13_1 := qv BK101.out 1;have hfz13_2 := qv BK101.out 2) | ((with_reducible refine kj (f := 46) rfl ?_);refine goesL_ (some 11) rfl rfl Try.func46 (by kernel_rfl) rfl #[.string a1,.slice A0_0 l0_0.length c0_0,.int .i64 a0_1] rfl (by (try simp only [List.map_toArray,List.map_cons,List.map_nil]);first | done | rfl | (simp only [List.length_drop,List.length_take];rfl)) ?_;(with_reducible refine (qjz.calls k a1 _ _ l0_0 a0_1 t102 _ ?side1 ?side2 A3.out).mono ?_);(case side1 => repeat (first | exact (Kd.C_below HR0_0.out HB.out) | (with_reducible refine Kd.C_alloc ?_ _) | (with_reducible refine Kd.C_drewN ?_ _) | (with_reducible refine Kd.C_drew ?_)));(case side2 => exact HC0_0.out);rintro e w14 ⟨v103,rfl,ho0,hb⟩;refine ⟨_,rfl,?_⟩;have n0_ := qq.mk (Kd.R_lower ho0 (zw (by repeat (first | (with_reducible first | exact HB.out | apply qj | apply qz | apply qk | refine qx ?_ GE101.out) | exact HB.out))));have n1_ := qq.mk (wj (g := gb101) (o := .cells #[.slice A0_0 l0_0.length c0_0,.int .i64 a0_1,.slice A0_2 l0_2.length c0_2] 82 (0,0)) (by (with_reducible repeat (first | refine zz ?_ _ | refine zj ?_ | refine zq ?_ _));exact BK101.out) hb);have n2_ := qq.mk (zv (by repeat (first | (with_reducible first | exact HB.out | apply qj | apply qz | apply qk | refine qx ?_ GE101.out) | exact HB.out)) hb);clear BK101;clear HB;have HO104 := n0_;have BK101 := n1_;have HB := n2_;clear n0_ n1_ n2_;(try clear hb);(try clear hb2);(try clear hk);(try clear hi);(try clear ho0);obtain ⟨Ao15,co15,eo15⟩ := Kd.R_slice HO104.out;subst eo15))
  go_ret
  exact ⟨by first | rfl | (simp [*,kz,jx] <;> rfl),by repeat (first | (with_reducible first | exact HB.out | apply qj | apply qz | apply qk | refine qx ?_ GE101.out) | exact HB.out)⟩
end Go.Proofs.Ytgolcojhnklfdaa.Pr
namespace Go.Proofs.Ytgolcojhnklfdaa.Pr
open Go.RowKit Go.Proofs.YtgolcojhnklfdaaW.PrintWords Go.Proofs.YtgolcojhnklfdaaW.PrintLast Go.Proofs.YtgolcojhnklfdaaW.PrintMore
attribute [local go_sem] max2_int min2_int max_two min_two max_three min_three max_four min_four
set_option linter.unusedVariables false
set_option linter.unusedSimpArgs false
def qvk.l0 : Nat → ByteArray → Int → Option (Bool)
 | 0,_,_ => none
 | k + 1,x0,x3 => if x3 < (x0.size : Int) then (if 0 ≤ x3 then (if (bt x0 x3) < 32 then (some false) else (if (bt x0 x3) > 126 then (some false) else (qvk.l0 k x0 (wrap64 (x3 + 1))))) else (none)) else (some true)
def qvk.f (k : Nat) (a0 : ByteArray) : Option (Bool) := qvk.l0 k a0 0
set_option maxHeartbeats 8000000 in
set_option maxRecDepth 100000 in
theorem qvk.calls (k : Nat) (a0 : ByteArray) (r : Bool) (w : World) (h : qvk.f k a0 = some r) :
  Calls Try.prog 74 #[.string a0] w fun e w' => e = .returned (.bool r) ∧ Drawn0 w w' := by
 have H : (qvk.l0 k a0 0) = some r := h
 clear h
 have H' := qq.mk H
 clear H
 go_enter Try.func74,Try.ntmps74
 go_wp2
 go_loopg [3] k (fun kq v3 w' => ∃ (x3_1 : Int),v3 = .int .i64 x3_1 ∧ qq (qvk.l0 kq a0 x3_1 = some r) ∧ qq (kq ≤ k) ∧ Drawn0 w w')
 case atStart => exact ⟨(0),(by first | rfl | (simp;done) | (simp [*];done)),H',⟨Nat.le_refl _⟩,by repeat (first | exact Drawn0.refl _ | apply Drawn0.step)⟩
 case round =>
  clear H'
  obtain ⟨x3_1,rfl,HA,HK1,⟨m1,rfl⟩⟩ := hrel
  cases gk with
  | zero => exact absurd HA.out (by simp [qvk.l0])
  | succ k1 =>
   have H := HA.out
   clear HA
   simp only [qvk.l0] at H
   by_cases c2 : x3_1 < (a0.size : Int)
   ·rw [if_pos c2] at H
    have c2b0 : decide (x3_1 < (a0.size : Int)) = true := decide_eq_true c2
    clear c2
    by_cases c3 : 0 ≤ x3_1
    ·rw [if_pos c3] at H
     have c3b0 : decide (0 ≤ x3_1) = true := decide_eq_true c3
     clear c3
     by_cases c5 : (bt a0 x3_1) < 32
     ·rw [if_pos c5] at H
      have c5b0 : decide ((bt a0 x3_1) < 32) = true := decide_eq_true c5
      clear c5
      obtain rfl := Option.some.inj H
      have p4 : 0 ≤ (x3_1 : Int) := of_decide_eq_true (by assumption)
      have q4 : x3_1 < (a0.size : Int) := of_decide_eq_true (by assumption)
      have hx4 := bt_at a0 x3_1
      replace p4 := eq_true p4
      replace q4 := eq_true q4
      go_wp2
      go_ret
      exact ⟨by first | rfl | (simp;done) | (simp [*];done),by repeat (first | exact Drawn0.refl _ | apply Drawn0.step)⟩
     ·rw [if_neg c5] at H
      have c5b0 : decide ((bt a0 x3_1) < 32) = false := decide_eq_false c5
      clear c5
      by_cases c7 : (bt a0 x3_1) > 126
      ·rw [if_pos c7] at H
       have c7b0 : decide (126 < (bt a0 x3_1)) = true := decide_eq_true c7
       clear c7
       obtain rfl := Option.some.inj H
       have p4 : 0 ≤ (x3_1 : Int) := of_decide_eq_true (by assumption)
       have q4 : x3_1 < (a0.size : Int) := of_decide_eq_true (by assumption)
       have hx4 := bt_at a0 x3_1
       replace p4 := eq_true p4
       replace q4 := eq_true q4
       have p6 : 0 ≤ (x3_1 : Int) := of_decide_eq_true (by assumption)
       have q6 : x3_1 < (a0.size : Int) := of_decide_eq_true (by assumption)
       have hx6 := bt_at a0 x3_1
       replace p6 := eq_true p6
       replace q6 := eq_true q6
       go_wp2
       go_ret
       exact ⟨by first | rfl | (simp;done) | (simp [*];done),by repeat (first | exact Drawn0.refl _ | apply Drawn0.step)⟩
      ·rw [if_neg c7] at H
       have c7b0 : decide (126 < (bt a0 x3_1)) = false := decide_eq_false c7
       clear c7
       have H' := qq.mk H
       clear H
       have p4 : 0 ≤ (x3_1 : Int) := of_decide_eq_true (by assumption)
       have q4 : x3_1 < (a0.size : Int) := of_decide_eq_true (by assumption)
       have hx4 := bt_at a0 x3_1
       replace p4 := eq_true p4
       replace q4 := eq_true q4
       have p6 : 0 ≤ (x3_1 : Int) := of_decide_eq_true (by assumption)
       have q6 : x3_1 < (a0.size : Int) := of_decide_eq_true (by assumption)
       have hx6 := bt_at a0 x3_1
       replace p6 := eq_true p6
       replace q6 := eq_true q6
       go_wp2
       go_roundg k1
       case measure => have := HK1.out;omega
       case rel => exact ⟨(wrap64 (x3_1 + 1)),(by first | rfl | (simp;done) | (simp [*];done)),H',⟨by have := HK1.out;omega⟩,by repeat (first | exact Drawn0.refl _ | apply Drawn0.step)⟩
    ·rw [if_neg c3] at H
     exact absurd H (by simp)
   ·rw [if_neg c2] at H
    have c2b0 : decide (x3_1 < (a0.size : Int)) = false := decide_eq_false c2
    clear c2
    obtain rfl := Option.some.inj H
    go_wp2
    go_ret
    exact ⟨by first | rfl | (simp;done) | (simp [*];done),by repeat (first | exact Drawn0.refl _ | apply Drawn0.step)⟩
end Go.Proofs.Ytgolcojhnklfdaa.Pr
namespace Go.Proofs.Ytgolcojhnklfdaa.Pr
open Go.RowKit Go.Proofs.YtgolcojhnklfdaaW.PrintWords Go.Proofs.YtgolcojhnklfdaaW.PrintLast Go.Proofs.YtgolcojhnklfdaaW.PrintMore
attribute [local go_sem] max2_int min2_int max_two min_two max_three min_three max_four min_four
set_option linter.unusedVariables false
set_option linter.unusedSimpArgs false
mutual
def qjq.j0 : Nat → ByteArray → ByteArray → List (S82) → Bool → Int → Int → List ByteArray → Int → Option (List Int)
 | 0,_,_,_,_,_,_,_,_ => none
 | k + 1,x1,x2,x3,x66,x102000,x102001,x102002,x102003 => if x66 = true then (some ([] : List Int)) else (qjq.l0 k x1 x2 x3 false x102002 (x102002.length : Int) 0 x102000 x102001 x102002 x102003)
def qjq.l0 : Nat → ByteArray → ByteArray → List (S82) → Bool → List ByteArray → Int → Int → Int → Int → List ByteArray → Int → Option (List Int)
 | 0,_,_,_,_,_,_,_,_,_,_,_ => none
 | k + 1,x1,x2,x3,x9,x68,x69,x70,x102000,x102001,x102002,x102003 => if x70 < x69 then (if 0 ≤ x70 then (if x70 < (x68.length : Int) then (if ((rdOf ByteArray.empty x68 x70).size : Int) < 1 then (qjq.j2 k x1 x2 x3 x9 (rdOf ByteArray.empty x68 x70) x68 x69 x70 true x102000 x102001 x102002 x102003) else (qjq.j2 k x1 x2 x3 x9 (rdOf ByteArray.empty x68 x70) x68 x69 x70 (decide (((rdOf ByteArray.empty x68 x70).size : Int) > 64)) x102000 x102001 x102002 x102003)) else (none)) else (none)) else (qjq.l1 k x1 x2 x9 false x3 (x3.length : Int) 0 x102000 x102001 x102002 x102003)
def qjq.j2 : Nat → ByteArray → ByteArray → List (S82) → Bool → ByteArray → List ByteArray → Int → Int → Bool → Int → Int → List ByteArray → Int → Option (List Int)
 | 0,_,_,_,_,_,_,_,_,_,_,_,_,_ => none
 | k + 1,x1,x2,x3,x9,x11,x68,x69,x70,x81,x102000,x102001,x102002,x102003 => if x81 = true then (some ([] : List Int)) else (if x9 = true then (qjq.l0 k x1 x2 x3 true x68 x69 (wrap64 (x70 + 1)) x102000 x102001 x102002 x102003) else ((qwj.f x11).bind fun t103 => ((qwj.f x2).bind fun t104 => ((qjw.f k t103 t104).bind fun t105 => (qjq.l0 k x1 x2 x3 t105 x68 x69 (wrap64 (x70 + 1)) x102000 x102001 x102002 x102003)))))
def qjq.l1 : Nat → ByteArray → ByteArray → Bool → Bool → List (S82) → Int → Int → Int → Int → List ByteArray → Int → Option (List Int)
 | 0,_,_,_,_,_,_,_,_,_,_,_ => none
 | k + 1,x1,x2,x9,x12,x91,x92,x93,x102000,x102001,x102002,x102003 => if x93 < x92 then (if 0 ≤ x93 then (if x93 < (x91.length : Int) then (if x12 = true then (qjq.l1 k x1 x2 x9 true x91 x92 (wrap64 (x93 + 1)) x102000 x102001 x102002 x102003) else (if x93 < x102003 then ((qzx.f k ((wx x91 x93).f0) ((wx x91 x93).f1) ((wx x91 x93).f2) x2).bind fun t108 => (qjq.l1 k x1 x2 x9 t108 x91 x92 (wrap64 (x93 + 1)) x102000 x102001 x102002 x102003)) else (qjq.l1 k x1 x2 x9 false x91 x92 (wrap64 (x93 + 1)) x102000 x102001 x102002 x102003))) else (none)) else (none)) else ((qvk.f k x2).bind fun t109 => ((qjx.f x2).bind fun t110 => (if (x1.size : Int) ≥ 3 then ((qwj.f x1).bind fun t111 => ((qwj.f x2).bind fun t112 => ((qjw.f k t111 t112).bind fun t113 => ((some (([decide ((x2.size : Int) < x102000),decide ((x2.size : Int) > 64),!t109,decide (t110 < x102001),t113,x9,x12] : List Bool) : List Bool)).bind fun y114 => (qjq.j4 k ([] : List Int) y114 (y114.length : Int) 0))))) else ((some (([decide ((x2.size : Int) < x102000),decide ((x2.size : Int) > 64),!t109,decide (t110 < x102001),false,x9,x12] : List Bool) : List Bool)).bind fun y117 => (qjq.j4 k ([] : List Int) y117 (y117.length : Int) 0)))))
def qjq.j4 : Nat → List Int → List Bool → Int → Int → Option (List Int)
 | 0,_,_,_,_ => none
 | k + 1,x15,x139,x140,x141 => qjq.l2 k x15 x139 x140 x141
def qjq.l2 : Nat → List Int → List Bool → Int → Int → Option (List Int)
 | 0,_,_,_,_ => none
 | k + 1,x15,x139,x140,x141 => if x141 < x140 then (if 0 ≤ x141 then (if x141 < (x139.length : Int) then (if rdOf false x139 x141 = true then (if x15.length < 17592186044416 then (qjq.l2 k (x15 ++ [wrap64 (1 + x141)]) x139 x140 (wrap64 (x141 + 1))) else (none)) else (qjq.l2 k x15 x139 x140 (wrap64 (x141 + 1)))) else (none)) else (none)) else (some x15)
end
def qjq.f (k : Nat) (a0_0 : Int) (a0_1 : Int) (l0_2 : List ByteArray) (a0_3 : Int) (a1 : ByteArray) (a2 : ByteArray) (l3 : List (S82)) : Option (List Int) := if a0_0 < 1 then (qjq.j0 k a1 a2 l3 true a0_0 a0_1 l0_2 a0_3) else (if a0_0 > 64 then (qjq.j0 k a1 a2 l3 true a0_0 a0_1 l0_2 a0_3) else (if a0_1 < 0 then (qjq.j0 k a1 a2 l3 true a0_0 a0_1 l0_2 a0_3) else (if a0_1 > 4 then (qjq.j0 k a1 a2 l3 true a0_0 a0_1 l0_2 a0_3) else (if (l0_2.length : Int) > 20 then (qjq.j0 k a1 a2 l3 true a0_0 a0_1 l0_2 a0_3) else (if a0_3 < 0 then (qjq.j0 k a1 a2 l3 true a0_0 a0_1 l0_2 a0_3) else (if a0_3 > 10 then (qjq.j0 k a1 a2 l3 true a0_0 a0_1 l0_2 a0_3) else (if (a1.size : Int) > 64 then (qjq.j0 k a1 a2 l3 true a0_0 a0_1 l0_2 a0_3) else (if (a2.size : Int) > 1000 then (qjq.j0 k a1 a2 l3 true a0_0 a0_1 l0_2 a0_3) else (qjq.j0 k a1 a2 l3 (decide ((l3.length : Int) > 20)) a0_0 a0_1 l0_2 a0_3)))))))))
def qjq.T18 : Bool × List (List Nat × List Nat) := (true,[([],[]),([0],[0]),([],[]),([2],[2]),([1,3],[1,3]),([],[]),([5],[5]),([6],[6]),([],[]),([8],[8]),([9],[9]),([],[]),([11,9],[11]),([],[]),([13],[13]),([12,14],[12,14]),([],[]),([16],[16]),([17],[17]),([18,12],[18]),([19],[19]),([20,19,19],[19,20]),([19],[19]),([22,21,19],[19,22]),([21,23,23,19],[19,21,23]),([19,24],[19,24]),([],[]),([],[]),([4,7,10,15,25,26,27],[4,7,10,15,25,26,27]),([28],[28]),([],[])])
def qjq.B18 : List Nat := [0,1,0,4,15,0,32,96,0,256,768,0,2816,0,8192,31488,0,65536,196608,465664,989952,2038528,989952,8329984,16718592,33495808,0,0,268435455,536870911,0]
theorem qjq.tab18 : rtab .any (opsOf Try.f23 18) = qjq.T18 := by kernel_rfl
theorem qjq.bits18 : waitsOk qjq.T18.2 qjq.B18 = true := by kernel_rfl
set_option maxHeartbeats 8000000 in
set_option maxRecDepth 100000 in
theorem qjq.calls (k : Nat) (a0_0 : Int) (a0_1 : Int) (A0_2 : Option Addr) (c0_2 : Nat) (l0_2 : List ByteArray) (a0_3 : Int) (a1 : ByteArray) (a2 : ByteArray) (A3 : Option Addr) (c3 : Nat) (l3 : List (S82)) (r : List Int) (w : World) (hr0_2 : Kd.C Kd.string w A0_2 l0_2.length l0_2) (hc0_2 : l0_2.length ≤ c0_2) (hr3 : Kd.C k82 w A3 l3.length l3) (hc3 : l3.length ≤ c3) (h : qjq.f k a0_0 a0_1 l0_2 a0_3 a1 a2 l3 = some r) :
  Calls Try.prog 23 #[.agg #[.int .i64 a0_0,.int .i64 a0_1,.slice A0_2 l0_2.length c0_2,.int .i64 a0_3],.string a1,.string a2,.slice A3 l3.length c3] w fun e w' => ∃ v0_ : Value,e = .returned (v0_) ∧ Kd.R (Kd.int .i64) 3 w' w.heap.size (fun _ => True) v0_ r ∧ Below w.heap.size w w' := by
 have hu53 := Try.underlying53
 have hu82 := Try.underlying82
 have HR0_2 := qq.mk hr0_2
 have HC0_2 := qq.mk hc0_2
 clear hr0_2 hc0_2
 have HR3 := qq.mk hr3
 have HC3 := qq.mk hc3
 clear hr3 hc3
 have HB := qq.mk (Below.refl w.heap.size w)
 have H : (if a0_0 < 1 then (qjq.j0 k a1 a2 l3 true a0_0 a0_1 l0_2 a0_3) else (if a0_0 > 64 then (qjq.j0 k a1 a2 l3 true a0_0 a0_1 l0_2 a0_3) else (if a0_1 < 0 then (qjq.j0 k a1 a2 l3 true a0_0 a0_1 l0_2 a0_3) else (if a0_1 > 4 then (qjq.j0 k a1 a2 l3 true a0_0 a0_1 l0_2 a0_3) else (if (l0_2.length : Int) > 20 then (qjq.j0 k a1 a2 l3 true a0_0 a0_1 l0_2 a0_3) else (if a0_3 < 0 then (qjq.j0 k a1 a2 l3 true a0_0 a0_1 l0_2 a0_3) else (if a0_3 > 10 then (qjq.j0 k a1 a2 l3 true a0_0 a0_1 l0_2 a0_3) else (if (a1.size : Int) > 64 then (qjq.j0 k a1 a2 l3 true a0_0 a0_1 l0_2 a0_3) else (if (a2.size : Int) > 1000 then (qjq.j0 k a1 a2 l3 true a0_0 a0_1 l0_2 a0_3) else (qjq.j0 k a1 a2 l3 (decide ((l3.length : Int) > 20)) a0_0 a0_1 l0_2 a0_3)))))))))) = some r := h
 clear h
 have HC5 := qq.mk H
 clear H
 go_enter Try.func23,Try.ntmps23
 go_upto_region 1 with (first | ((with_reducible refine gate_dst (N := 4) rfl ?_);(try (refine gate_guard (by rfl) ?_;dsimp only));refine box_event ?hg (N := 4) ?hd (cs := #[.int .i64 a0_0,.int .i64 a0_1,.slice A0_2 l0_2.length c0_2,.int .i64 a0_3]) (t := 53) ?hr ?_;(case hd => rfl);(case hg => rfl);(case hr => first | (go_simp;done) | (go_simp;rfl));intro gb101 hg w6 hbox hb;have n0_ := qq.mk (zv (by repeat (first | (with_reducible first | exact HB.out | apply qj | apply qz | apply qk) | exact HB.out)) hb);have n1_ := qq.mk (hbox);have n2_ := qq.mk ((by rw [hg];exact (zw (by repeat (first | (with_reducible first | exact HB.out | apply qj | apply qz | apply qk) | exact HB.out))) : w.heap.size ≤ gb101));have n3_ := qq.mk ((by rw [hg];exact (zw (by repeat (first | (with_reducible first | exact HB.out | apply qj | apply qz | apply qk) | exact HB.out))) : w.heap.size ≤ gb101));clear HB;have HB := n0_;have BK101 := n1_;have GW101 := n2_;have GE101 := n3_;clear n0_ n1_ n2_ n3_;clear hb hbox hg))
 (try simp only [Act.put,List.setIfInBounds_toArray,List.set_cons_zero,List.set_cons_succ])
 go_cut [66] (fun v66 wc => ∃ (kq : Nat) (x66_4 : Bool),v66 = .bool x66_4 ∧ qq (qjq.j0 kq a1 a2 l3 x66_4 a0_0 a0_1 l0_2 a0_3 = some r) ∧ qq (kq ≤ k) ∧ qq (wc.heap[gb101]? = some (.cells #[.int .i64 a0_0,.int .i64 a0_1,(.slice A0_2 l0_2.length c0_2),.int .i64 a0_3] 53 (0,0))) ∧ qq (Below w.heap.size w wc))
 case first =>
  have H := HC5.out
  clear HC5
  by_cases c7 : a0_0 < 1
  ·rw [if_pos c7] at H
   have c7b0 : decide (a0_0 < 1) = true := decide_eq_true c7
   clear c7
   (first | rw [c7b0] | (simp only [i64_w,i32_w];rw [c7b0]) | skip)
   have H' := qq.mk H
   clear H
   have hcz8_0 : w6.cell? ⟨gb101,0,none⟩ = some (.int .i64 a0_0) := (qw BK101.out 0).trans rfl
   have hcz8_1 : w6.cell? ⟨gb101,1,none⟩ = some (.int .i64 a0_1) := (qw BK101.out 1).trans rfl
   have hcz8_2 : w6.cell? ⟨gb101,2,none⟩ = some (.slice A0_2 l0_2.length c0_2) := (qw BK101.out 2).trans rfl
   have hcz8_3 : w6.cell? ⟨gb101,3,none⟩ = some (.int .i64 a0_3) := (qw BK101.out 3).trans rfl
   have hfz8_0 := qv BK101.out 0
   have hfz8_1 := qv BK101.out 1
   have hfz8_2 := qv BK101.out 2
   have hfz8_3 := qv BK101.out 3
   go_wp2
   go_meet
   case rel => exact ⟨_,(true),(by first | rfl | (simp;done) | (simp [*];done)),H',⟨by first | omega | exact Nat.le_refl _⟩,⟨by (with_reducible repeat (first | refine zz ?_ _ | refine zj ?_ | refine zq ?_ _));exact BK101.out⟩,⟨by repeat (first | (with_reducible first | exact HB.out | apply qj | apply qz | apply qk | refine qx ?_ GE101.out) | exact HB.out)⟩⟩
  ·rw [if_neg c7] at H
   have c7b0 : decide (a0_0 < 1) = false := decide_eq_false c7
   clear c7
   (first | rw [c7b0] | (simp only [i64_w,i32_w];rw [c7b0]) | skip)
   by_cases c9 : a0_0 > 64
   ·rw [if_pos c9] at H
    have c9b0 : decide (64 < a0_0) = true := decide_eq_true c9
    clear c9
    have H' := qq.mk H
    clear H
    have hcz10_0 : w6.cell? ⟨gb101,0,none⟩ = some (.int .i64 a0_0) := (qw BK101.out 0).trans rfl
    have hcz10_1 : w6.cell? ⟨gb101,1,none⟩ = some (.int .i64 a0_1) := (qw BK101.out 1).trans rfl
    have hcz10_2 : w6.cell? ⟨gb101,2,none⟩ = some (.slice A0_2 l0_2.length c0_2) := (qw BK101.out 2).trans rfl
    have hcz10_3 : w6.cell? ⟨gb101,3,none⟩ = some (.int .i64 a0_3) := (qw BK101.out 3).trans rfl
    have hfz10_0 := qv BK101.out 0
    have hfz10_1 := qv BK101.out 1
    have hfz10_2 := qv BK101.out 2
    have hfz10_3 := qv BK101.out 3
    go_wp2
    go_meet
    case rel => exact ⟨_,(true),(by first | rfl | (simp;done) | (simp [*];done)),H',⟨by first | omega | exact Nat.le_refl _⟩,⟨by (with_reducible repeat (first | refine zz ?_ _ | refine zj ?_ | refine zq ?_ _));exact BK101.out⟩,⟨by repeat (first | (with_reducible first | exact HB.out | apply qj | apply qz | apply qk | refine qx ?_ GE101.out) | exact HB.out)⟩⟩
   ·rw [if_neg c9] at H
    have c9b0 : decide (64 < a0_0) = false := decide_eq_false c9
    clear c9
    by_cases c11 : a0_1 < 0
    ·rw [if_pos c11] at H
     have c11b0 : decide (a0_1 < 0) = true := decide_eq_true c11
     clear c11
     have H' := qq.mk H
     clear H
     have hcz12_0 : w6.cell? ⟨gb101,0,none⟩ = some (.int .i64 a0_0) := (qw BK101.out 0).trans rfl
     have hcz12_1 : w6.cell? ⟨gb101,1,none⟩ = some (.int .i64 a0_1) := (qw BK101.out 1).trans rfl
     have hcz12_2 : w6.cell? ⟨gb101,2,none⟩ = some (.slice A0_2 l0_2.length c0_2) := (qw BK101.out 2).trans rfl
     have hcz12_3 : w6.cell? ⟨gb101,3,none⟩ = some (.int .i64 a0_3) := (qw BK101.out 3).trans rfl
     have hfz12_0 := qv BK101.out 0
     have hfz12_1 := qv BK101.out 1
     have hfz12_2 := qv BK101.out 2
     have hfz12_3 := qv BK101.out 3
     go_wp2
     go_meet
     case rel => exact ⟨_,(true),(by first | rfl | (simp;done) | (simp [*];done)),H',⟨by first | omega | exact Nat.le_refl _⟩,⟨by (with_reducible repeat (first | refine zz ?_ _ | refine zj ?_ | refine zq ?_ _));exact BK101.out⟩,⟨by repeat (first | (with_reducible first | exact HB.out | apply qj | apply qz | apply qk | refine qx ?_ GE101.out) | exact HB.out)⟩⟩
    ·rw [if_neg c11] at H
     have c11b0 : decide (a0_1 < 0) = false := decide_eq_false c11
     clear c11
     by_cases c13 : a0_1 > 4
     ·rw [if_pos c13] at H
      have c13b0 : decide (4 < a0_1) = true := decide_eq_true c13
      clear c13
      have H' := qq.mk H
      clear H
      have hcz14_0 : w6.cell? ⟨gb101,0,none⟩ = some (.int .i64 a0_0) := (qw BK101.out 0).trans rfl
      have hcz14_1 : w6.cell? ⟨gb101,1,none⟩ = some (.int .i64 a0_1) := (qw BK101.out 1).trans rfl
      have hcz14_2 : w6.cell? ⟨gb101,2,none⟩ = some (.slice A0_2 l0_2.length c0_2) := (qw BK101.out 2).trans rfl
      have hcz14_3 : w6.cell? ⟨gb101,3,none⟩ = some (.int .i64 a0_3) := (qw BK101.out 3).trans rfl
      have hfz14_0 := qv BK101.out 0
      have hfz14_1 := qv BK101.out 1
      have hfz14_2 := qv BK101.out 2
      have hfz14_3 := qv BK101.out 3
      go_wp2
      go_meet
      case rel => exact ⟨_,(true),(by first | rfl | (simp;done) | (simp [*];done)),H',⟨by first | omega | exact Nat.le_refl _⟩,⟨by (with_reducible repeat (first | refine zz ?_ _ | refine zj ?_ | refine zq ?_ _));exact BK101.out⟩,⟨by repeat (first | (with_reducible first | exact HB.out | apply qj | apply qz | apply qk | refine qx ?_ GE101.out) | exact HB.out)⟩⟩
     ·rw [if_neg c13] at H
      have c13b0 : decide (4 < a0_1) = false := decide_eq_false c13
      clear c13
      by_cases c15 : (l0_2.length : Int) > 20
      ·rw [if_pos c15] at H
       have c15b0 : decide (20 < (l0_2.length : Int)) = true := decide_eq_true c15
       have c15b1 : decide (20 < l0_2.length) = true := decide_eq_true (by omega)
       clear c15
       have H' := qq.mk H
       clear H
       have hcz16_0 : w6.cell? ⟨gb101,0,none⟩ = some (.int .i64 a0_0) := (qw BK101.out 0).trans rfl
       have hcz16_1 : w6.cell? ⟨gb101,1,none⟩ = some (.int .i64 a0_1) := (qw BK101.out 1).trans rfl
       have hcz16_2 : w6.cell? ⟨gb101,2,none⟩ = some (.slice A0_2 l0_2.length c0_2) := (qw BK101.out 2).trans rfl
       have hcz16_3 : w6.cell? ⟨gb101,3,none⟩ = some (.int .i64 a0_3) := (qw BK101.out 3).trans rfl
       have hfz16_0 := qv BK101.out 0
       have hfz16_1 := qv BK101.out 1
       have hfz16_2 := qv BK101.out 2
       have hfz16_3 := qv BK101.out 3
       go_wp2
       go_meet
       case rel => exact ⟨_,(true),(by first | rfl | (simp;done) | (simp [*];done)),H',⟨by first | omega | exact Nat.le_refl _⟩,⟨by (with_reducible repeat (first | refine zz ?_ _ | refine zj ?_ | refine zq ?_ _));exact BK101.out⟩,⟨by repeat (first | (with_reducible first | exact HB.out | apply qj | apply qz | apply qk | refine qx ?_ GE101.out) | exact HB.out)⟩⟩
      ·rw [if_neg c15] at H
       have c15b0 : decide (20 < (l0_2.length : Int)) = false := decide_eq_false c15
       have c15b1 : decide (20 < l0_2.length) = false := decide_eq_false (by omega)
       clear c15
       by_cases c17 : a0_3 < 0
       ·rw [if_pos c17] at H
        have c17b0 : decide (a0_3 < 0) = true := decide_eq_true c17
        clear c17
        have H' := qq.mk H
        clear H
        have hcz18_0 : w6.cell? ⟨gb101,0,none⟩ = some (.int .i64 a0_0) := (qw BK101.out 0).trans rfl
        have hcz18_1 : w6.cell? ⟨gb101,1,none⟩ = some (.int .i64 a0_1) := (qw BK101.out 1).trans rfl
        have hcz18_2 : w6.cell? ⟨gb101,2,none⟩ = some (.slice A0_2 l0_2.length c0_2) := (qw BK101.out 2).trans rfl
        have hcz18_3 : w6.cell? ⟨gb101,3,none⟩ = some (.int .i64 a0_3) := (qw BK101.out 3).trans rfl
        have hfz18_0 := qv BK101.out 0
        have hfz18_1 := qv BK101.out 1
        have hfz18_2 := qv BK101.out 2
        have hfz18_3 := qv BK101.out 3
        go_wp2
        go_meet
        case rel => exact ⟨_,(true),(by first | rfl | (simp;done) | (simp [*];done)),H',⟨by first | omega | exact Nat.le_refl _⟩,⟨by (with_reducible repeat (first | refine zz ?_ _ | refine zj ?_ | refine zq ?_ _));exact BK101.out⟩,⟨by repeat (first | (with_reducible first | exact HB.out | apply qj | apply qz | apply qk | refine qx ?_ GE101.out) | exact HB.out)⟩⟩
       ·rw [if_neg c17] at H
        have c17b0 : decide (a0_3 < 0) = false := decide_eq_false c17
        clear c17
        by_cases c19 : a0_3 > 10
        ·rw [if_pos c19] at H
         have c19b0 : decide (10 < a0_3) = true := decide_eq_true c19
         clear c19
         have H' := qq.mk H
         clear H
         have hcz20_0 : w6.cell? ⟨gb101,0,none⟩ = some (.int .i64 a0_0) := (qw BK101.out 0).trans rfl
         have hcz20_1 : w6.cell? ⟨gb101,1,none⟩ = some (.int .i64 a0_1) := (qw BK101.out 1).trans rfl
         have hcz20_2 : w6.cell? ⟨gb101,2,none⟩ = some (.slice A0_2 l0_2.length c0_2) := (qw BK101.out 2).trans rfl
         have hcz20_3 : w6.cell? ⟨gb101,3,none⟩ = some (.int .i64 a0_3) := (qw BK101.out 3).trans rfl
         have hfz20_0 := qv BK101.out 0
         have hfz20_1 := qv BK101.out 1
         have hfz20_2 := qv BK101.out 2
         have hfz20_3 := qv BK101.out 3
         go_wp2
         go_meet
         case rel => exact ⟨_,(true),(by first | rfl | (simp;done) | (simp [*];done)),H',⟨by first | omega | exact Nat.le_refl _⟩,⟨by (with_reducible repeat (first | refine zz ?_ _ | refine zj ?_ | refine zq ?_ _));exact BK101.out⟩,⟨by repeat (first | (with_reducible first | exact HB.out | apply qj | apply qz | apply qk | refine qx ?_ GE101.out) | exact HB.out)⟩⟩
        ·rw [if_neg c19] at H
         have c19b0 : decide (10 < a0_3) = false := decide_eq_false c19
         clear c19
         by_cases c21 : (a1.size : Int) > 64
         ·rw [if_pos c21] at H
          have c21b0 : decide (64 < (a1.size : Int)) = true := decide_eq_true c21
          have c21b1 : decide (64 < a1.size) = true := decide_eq_true (by omega)
          clear c21
          have H' := qq.mk H
          clear H
          have hcz22_0 : w6.cell? ⟨gb101,0,none⟩ = some (.int .i64 a0_0) := (qw BK101.out 0).trans rfl
          have hcz22_1 : w6.cell? ⟨gb101,1,none⟩ = some (.int .i64 a0_1) := (qw BK101.out 1).trans rfl
          have hcz22_2 : w6.cell? ⟨gb101,2,none⟩ = some (.slice A0_2 l0_2.length c0_2) := (qw BK101.out 2).trans rfl
          have hcz22_3 : w6.cell? ⟨gb101,3,none⟩ = some (.int .i64 a0_3) := (qw BK101.out 3).trans rfl
          have hfz22_0 := qv BK101.out 0
          have hfz22_1 := qv BK101.out 1
          have hfz22_2 := qv BK101.out 2
          have hfz22_3 := qv BK101.out 3
          go_wp2
          go_meet
          case rel => exact ⟨_,(true),(by first | rfl | (simp;done) | (simp [*];done)),H',⟨by first | omega | exact Nat.le_refl _⟩,⟨by (with_reducible repeat (first | refine zz ?_ _ | refine zj ?_ | refine zq ?_ _));exact BK101.out⟩,⟨by repeat (first | (with_reducible first | exact HB.out | apply qj | apply qz | apply qk | refine qx ?_ GE101.out) | exact HB.out)⟩⟩
         ·rw [if_neg c21] at H
          have c21b0 : decide (64 < (a1.size : Int)) = false := decide_eq_false c21
          have c21b1 : decide (64 < a1.size) = false := decide_eq_false (by omega)
          clear c21
          by_cases c23 : (a2.size : Int) > 1000
          ·rw [if_pos c23] at H
           have c23b0 : decide (1000 < (a2.size : Int)) = true := decide_eq_true c23
           have c23b1 : decide (1000 < a2.size) = true := decide_eq_true (by omega)
           clear c23
           have H' := qq.mk H
           clear H
           have hcz24_0 : w6.cell? ⟨gb101,0,none⟩ = some (.int .i64 a0_0) := (qw BK101.out 0).trans rfl
           have hcz24_1 : w6.cell? ⟨gb101,1,none⟩ = some (.int .i64 a0_1) := (qw BK101.out 1).trans rfl
           have hcz24_2 : w6.cell? ⟨gb101,2,none⟩ = some (.slice A0_2 l0_2.length c0_2) := (qw BK101.out 2).trans rfl
           have hcz24_3 : w6.cell? ⟨gb101,3,none⟩ = some (.int .i64 a0_3) := (qw BK101.out 3).trans rfl
           have hfz24_0 := qv BK101.out 0
           have hfz24_1 := qv BK101.out 1
           have hfz24_2 := qv BK101.out 2
           have hfz24_3 := qv BK101.out 3
           go_wp2
           go_meet
           case rel => exact ⟨_,(true),(by first | rfl | (simp;done) | (simp [*];done)),H',⟨by first | omega | exact Nat.le_refl _⟩,⟨by (with_reducible repeat (first | refine zz ?_ _ | refine zj ?_ | refine zq ?_ _));exact BK101.out⟩,⟨by repeat (first | (with_reducible first | exact HB.out | apply qj | apply qz | apply qk | refine qx ?_ GE101.out) | exact HB.out)⟩⟩
          ·rw [if_neg c23] at H
           have c23b0 : decide (1000 < (a2.size : Int)) = false := decide_eq_false c23
           have c23b1 : decide (1000 < a2.size) = false := decide_eq_false (by omega)
           clear c23
           have H' := qq.mk H
           clear H
           have hcz25_0 : w6.cell? ⟨gb101,0,none⟩ = some (.int .i64 a0_0) := (qw BK101.out 0).trans rfl
           have hcz25_1 : w6.cell? ⟨gb101,1,none⟩ = some (.int .i64 a0_1) := (qw BK101.out 1).trans rfl
           have hcz25_2 : w6.cell? ⟨gb101,2,none⟩ = some (.slice A0_2 l0_2.length c0_2) := (qw BK101.out 2).trans rfl
           have hcz25_3 : w6.cell? ⟨gb101,3,none⟩ = some (.int .i64 a0_3) := (qw BK101.out 3).trans rfl
           have hfz25_0 := qv BK101.out 0
           have hfz25_1 := qv BK101.out 1
           have hfz25_2 := qv BK101.out 2
           have hfz25_3 := qv BK101.out 3
           go_wp2
           go_meet
           case rel => exact ⟨_,(decide ((l3.length : Int) > 20)),(by first | rfl | (simp;done) | (simp [*];done)),H',⟨by first | omega | exact Nat.le_refl _⟩,⟨by (with_reducible repeat (first | refine zz ?_ _ | refine zj ?_ | refine zq ?_ _));exact BK101.out⟩,⟨by repeat (first | (with_reducible first | exact HB.out | apply qj | apply qz | apply qk | refine qx ?_ GE101.out) | exact HB.out)⟩⟩
 case rest =>
  clear HC5
  try clear c1
  try clear c2
  try clear p2
  try clear c3
  try clear c7
  try clear c7b0
  try clear c9
  try clear c9b0
  try clear c11
  try clear c11b0
  try clear c13
  try clear c13b0
  try clear c15
  try clear c15b0
  try clear c15b1
  try clear c17
  try clear c17b0
  try clear c19
  try clear c19b0
  try clear c21
  try clear c21b0
  try clear c21b1
  try clear c23
  try clear c23b0
  try clear c23b1
  try clear hcz10_0
  try clear hcz10_1
  try clear hcz10_2
  try clear hcz10_3
  try clear hcz12_0
  try clear hcz12_1
  try clear hcz12_2
  try clear hcz12_3
  try clear hcz14_0
  try clear hcz14_1
  try clear hcz14_2
  try clear hcz14_3
  try clear hcz16_0
  try clear hcz16_1
  try clear hcz16_2
  try clear hcz16_3
  try clear hcz18_0
  try clear hcz18_1
  try clear hcz18_2
  try clear hcz18_3
  try clear hcz20_0
  try clear hcz20_1
  try clear hcz20_2
  try clear hcz20_3
  try clear hcz22_0
  try clear hcz22_1
  try clear hcz22_2
  try clear hcz22_3
  try clear hcz24_0
  try clear hcz24_1
  try clear hcz24_2
  try clear hcz24_3
  try clear hcz25_0
  try clear hcz25_1
  try clear hcz25_2
  try clear hcz25_3
  try clear hcz8_0
  try clear hcz8_1
  try clear hcz8_2
  try clear hcz8_3
  try clear hfz10_0
  try clear hfz10_1
  try clear hfz10_2
  try clear hfz10_3
  try clear hfz12_0
  try clear hfz12_1
  try clear hfz12_2
  try clear hfz12_3
  try clear hfz14_0
  try clear hfz14_1
  try clear hfz14_2
  try clear hfz14_3
  try clear hfz16_0
  try clear hfz16_1
  try clear hfz16_2
  try clear hfz16_3
  try clear hfz18_0
  try clear hfz18_1
  try clear hfz18_2
  try clear hfz18_3
  try clear hfz20_0
  try clear hfz20_1
  try clear hfz20_2
  try clear hfz20_3
  try clear hfz22_0
  try clear hfz22_1
  try clear hfz22_2
  try clear hfz22_3
  try clear hfz24_0
  try clear hfz24_1
  try clear hfz24_2
  try clear hfz24_3
  try clear hfz25_0
  try clear hfz25_1
  try clear hfz25_2
  try clear hfz25_3
  try clear hfz8_0
  try clear hfz8_1
  try clear hfz8_2
  try clear hfz8_3
  obtain ⟨kq,x66_4,rfl,HA,HJ4,BK101,HB⟩ := hcut
  cases kq with
  | zero => exact absurd HA.out (by simp [qjq.j0])
  | succ kj4 =>
   have H := HA.out
   clear HA
   simp only [qjq.j0] at H
   by_cases c26 : x66_4 = true
   ·subst c26
    have H1 : (some ([] : List Int)) = some r := by rw [if_pos rfl] at H;exact H
    clear H
    have H := H1
    clear H1
    obtain rfl := Option.some.inj H
    go_wp2
    go_ret
    exact ⟨_,by first | rfl | (simp [*,kz,jx] <;> rfl),by first | exact Kd.R_nil _ _ _ _ _ | exact Kd.N_nil _ _ _ _ _ | exact Kd.V_nil _ _ _ _ _ | exact Kd.Q_nil _ _ _ _ _ | exact Kd.S_nil _ _ _ _ _,by repeat (first | (with_reducible first | exact HB.out | apply qj | apply qz | apply qk | refine qx ?_ GE101.out) | exact HB.out)⟩
   ·replace c26 := Bool.eq_false_iff.mpr c26
    subst c26
    have H1 : (qjq.l0 kj4 a1 a2 l3 false l0_2 (l0_2.length : Int) 0 a0_0 a0_1 l0_2 a0_3) = some r := by rw [if_neg (show ¬ (false = true) by decide)] at H;exact H
    clear H
    have H := H1
    clear H1
    have H' := qq.mk H
    clear H
    have hcz27_0 : wc.cell? ⟨gb101,0,none⟩ = some (.int .i64 a0_0) := (qw BK101.out 0).trans rfl
    have hcz27_1 : wc.cell? ⟨gb101,1,none⟩ = some (.int .i64 a0_1) := (qw BK101.out 1).trans rfl
    have hcz27_2 : wc.cell? ⟨gb101,2,none⟩ = some (.slice A0_2 l0_2.length c0_2) := (qw BK101.out 2).trans rfl
    have hcz27_3 : wc.cell? ⟨gb101,3,none⟩ = some (.int .i64 a0_3) := (qw BK101.out 3).trans rfl
    have hfz27_0 := qv BK101.out 0
    have hfz27_1 := qv BK101.out 1
    have hfz27_2 := qv BK101.out 2
    have hfz27_3 := qv BK101.out 3
    go_wp2
    go_loopg [9,70] kj4 (fun kq v9 v70 w' => ∃ (x9_2 : Bool) (x70_2 : Int),v9 = .bool x9_2 ∧ v70 = .int .i64 x70_2 ∧ qq (qjq.l0 kq a1 a2 l3 x9_2 l0_2 (l0_2.length : Int) x70_2 a0_0 a0_1 l0_2 a0_3 = some r) ∧ qq (kq ≤ kj4) ∧ qq (w'.heap[gb101]? = some (.cells #[.int .i64 a0_0,.int .i64 a0_1,(.slice A0_2 l0_2.length c0_2),.int .i64 a0_3] 53 (0,0))) ∧ qq (Below w.heap.size w w'))
    case atStart => exact ⟨(false),(0),(by first | rfl | (simp;done) | (simp [*];done)),(by first | rfl | (simp;done) | (simp [*];done)),H',⟨Nat.le_refl _⟩,⟨by (with_reducible repeat (first | refine zz ?_ _ | refine zj ?_ | refine zq ?_ _));exact BK101.out⟩,⟨by repeat (first | (with_reducible first | exact HB.out | apply qj | apply qz | apply qk | refine qx ?_ GE101.out) | exact HB.out)⟩⟩
    case round =>
     clear H'
     try clear c1
     try clear c2
     try clear p2
     try clear c3
     try clear c7
     try clear c7b0
     try clear c9
     try clear c9b0
     try clear c11
     try clear c11b0
     try clear c13
     try clear c13b0
     try clear c15
     try clear c15b0
     try clear c15b1
     try clear c17
     try clear c17b0
     try clear c19
     try clear c19b0
     try clear c21
     try clear c21b0
     try clear c21b1
     try clear c23
     try clear c23b0
     try clear c23b1
     try clear c26
     try clear hcz10_0
     try clear hcz10_1
     try clear hcz10_2
     try clear hcz10_3
     try clear hcz12_0
     try clear hcz12_1
     try clear hcz12_2
     try clear hcz12_3
     try clear hcz14_0
     try clear hcz14_1
     try clear hcz14_2
     try clear hcz14_3
     try clear hcz16_0
     try clear hcz16_1
     try clear hcz16_2
     try clear hcz16_3
     try clear hcz18_0
     try clear hcz18_1
     try clear hcz18_2
     try clear hcz18_3
     try clear hcz20_0
     try clear hcz20_1
     try clear hcz20_2
     try clear hcz20_3
     try clear hcz22_0
     try clear hcz22_1
     try clear hcz22_2
     try clear hcz22_3
     try clear hcz24_0
     try clear hcz24_1
     try clear hcz24_2
     try clear hcz24_3
     try clear hcz25_0
     try clear hcz25_1
     try clear hcz25_2
     try clear hcz25_3
     try clear hcz27_0
     try clear hcz27_1
     try clear hcz27_2
     try clear hcz27_3
     try clear hcz8_0
     try clear hcz8_1
     try clear hcz8_2
     try clear hcz8_3
     try clear hfz10_0
     try clear hfz10_1
     try clear hfz10_2
     try clear hfz10_3
     try clear hfz12_0
     try clear hfz12_1
     try clear hfz12_2
     try clear hfz12_3
     try clear hfz14_0
     try clear hfz14_1
     try clear hfz14_2
     try clear hfz14_3
     try clear hfz16_0
     try clear hfz16_1
     try clear hfz16_2
     try clear hfz16_3
     try clear hfz18_0
     try clear hfz18_1
     try clear hfz18_2
     try clear hfz18_3
     try clear hfz20_0
     try clear hfz20_1
     try clear hfz20_2
     try clear hfz20_3
     try clear hfz22_0
     try clear hfz22_1
     try clear hfz22_2
     try clear hfz22_3
     try clear hfz24_0
     try clear hfz24_1
     try clear hfz24_2
     try clear hfz24_3
     try clear hfz25_0
     try clear hfz25_1
     try clear hfz25_2
     try clear hfz25_3
     try clear hfz27_0
     try clear hfz27_1
     try clear hfz27_2
     try clear hfz27_3
     try clear hfz8_0
     try clear hfz8_1
     try clear hfz8_2
     try clear hfz8_3
     try clear p2
     obtain ⟨x9_2,x70_2,rfl,rfl,HA,HK2,BK101,HB⟩ := hrel
     cases gk with
     | zero => exact absurd HA.out (by simp [qjq.l0])
     | succ k2 =>
      have H := HA.out
      clear HA
      simp only [qjq.l0] at H
      by_cases c28 : x70_2 < (l0_2.length : Int)
      ·rw [if_pos c28] at H
       have c28b0 : decide (x70_2 < (l0_2.length : Int)) = true := decide_eq_true c28
       clear c28
       by_cases c29 : 0 ≤ x70_2
       ·rw [if_pos c29] at H
        have c29b0 : decide (0 ≤ x70_2) = true := decide_eq_true c29
        clear c29
        by_cases c30 : x70_2 < (l0_2.length : Int)
        ·rw [if_pos c30] at H
         have c30b0 : decide (x70_2 < (l0_2.length : Int)) = true := decide_eq_true c30
         clear c30
         have HC31 := qq.mk H
         clear H
         have p102 : 0 ≤ (x70_2 : Int) := of_decide_eq_true (by assumption)
         have q102 : x70_2 < (l0_2.length : Int) := of_decide_eq_true (by assumption)
         obtain ⟨ad102,e102,hx102_0⟩ := Kd.at_string HR0_2.out x70_2 p102 q102
         cases e102
         replace hx102_0 := (HB.out.cell (World.block_lt_of_cell? w _ hx102_0)).trans hx102_0
         replace p102 := eq_true p102
         replace q102 := eq_true q102
         go_upto_region 7 with (fail)
         go_cut [81] (fun v81 wc => ∃ (kq : Nat) (x81_30 : Bool),v81 = .bool x81_30 ∧ qq (qjq.j2 kq a1 a2 l3 x9_2 (rdOf ByteArray.empty l0_2 x70_2) l0_2 (l0_2.length : Int) x70_2 x81_30 a0_0 a0_1 l0_2 a0_3 = some r) ∧ qq (kq ≤ k2) ∧ qq (wc.heap[gb101]? = some (.cells #[.int .i64 a0_0,.int .i64 a0_1,(.slice (some ad102) l0_2.length c0_2),.int .i64 a0_3] 53 (0,0))) ∧ qq (Below w.heap.size w wc))
         case first =>
          have H := HC31.out
          clear HC31
          by_cases c32 : ((rdOf ByteArray.empty l0_2 x70_2).size : Int) < 1
          ·rw [if_pos c32] at H
           have c32b0 : decide (((rdOf ByteArray.empty l0_2 x70_2).size : Int) < 1) = true := decide_eq_true c32
           have c32b1 : decide ((rdOf ByteArray.empty l0_2 x70_2).size < 1) = true := decide_eq_true (by omega)
           clear c32
           (first | rw [c32b0] | (simp only [i64_w,i32_w];rw [c32b0]) | skip)
           have H' := qq.mk H
           clear H
           go_wp2
           go_meet
           case rel => exact ⟨_,(true),(by first | rfl | (simp;done) | (simp [*];done)),H',⟨by have := HJ4.out;have := HK2.out;first | omega | exact Nat.le_refl _⟩,⟨by (with_reducible repeat (first | refine zz ?_ _ | refine zj ?_ | refine zq ?_ _));exact BK101.out⟩,⟨by repeat (first | (with_reducible first | exact HB.out | apply qj | apply qz | apply qk | refine qx ?_ GE101.out) | exact HB.out)⟩⟩
          ·rw [if_neg c32] at H
           have c32b0 : decide (((rdOf ByteArray.empty l0_2 x70_2).size : Int) < 1) = false := decide_eq_false c32
           have c32b1 : decide ((rdOf ByteArray.empty l0_2 x70_2).size < 1) = false := decide_eq_false (by omega)
           clear c32
           (first | rw [c32b0] | (simp only [i64_w,i32_w];rw [c32b0]) | skip)
           have H' := qq.mk H
           clear H
           go_wp2
           go_meet
           case rel => exact ⟨_,(decide (((rdOf ByteArray.empty l0_2 x70_2).size : Int) > 64)),(by first | rfl | (simp;done) | (simp [*];done)),H',⟨by have := HJ4.out;have := HK2.out;first | omega | exact Nat.le_refl _⟩,⟨by (with_reducible repeat (first | refine zz ?_ _ | refine zj ?_ | refine zq ?_ _));exact BK101.out⟩,⟨by repeat (first | (with_reducible first | exact HB.out | apply qj | apply qz | apply qk | refine qx ?_ GE101.out) | exact HB.out)⟩⟩
         case rest =>
          clear HC31
          try clear c1
          try clear p1
          try clear q1
          try clear hx1
          try clear c2
          try clear p2
          try clear c3
          try clear c7
          try clear c7b0
          try clear c9
          try clear c9b0
          try clear p10
          try clear q10
          try clear hx10
          try clear c11
          try clear c11b0
          try clear c13
          try clear c13b0
          try clear c15
          try clear c15b0
          try clear c15b1
          try clear c17
          try clear c17b0
          try clear c19
          try clear c19b0
          try clear c21
          try clear c21b0
          try clear c21b1
          try clear c23
          try clear c23b0
          try clear c23b1
          try clear c26
          try clear c28
          try clear c28b0
          try clear c29
          try clear c29b0
          try clear c30
          try clear c30b0
          try clear c32
          try clear c32b0
          try clear c32b1
          try clear hcz10_0
          try clear hcz10_1
          try clear hcz10_2
          try clear hcz10_3
          try clear hcz12_0
          try clear hcz12_1
          try clear hcz12_2
          try clear hcz12_3
          try clear hcz14_0
          try clear hcz14_1
          try clear hcz14_2
          try clear hcz14_3
          try clear hcz16_0
          try clear hcz16_1
          try clear hcz16_2
          try clear hcz16_3
          try clear hcz18_0
          try clear hcz18_1
          try clear hcz18_2
          try clear hcz18_3
          try clear hcz20_0
          try clear hcz20_1
          try clear hcz20_2
          try clear hcz20_3
          try clear hcz22_0
          try clear hcz22_1
          try clear hcz22_2
          try clear hcz22_3
          try clear hcz24_0
          try clear hcz24_1
          try clear hcz24_2
          try clear hcz24_3
          try clear hcz25_0
          try clear hcz25_1
          try clear hcz25_2
          try clear hcz25_3
          try clear hcz27_0
          try clear hcz27_1
          try clear hcz27_2
          try clear hcz27_3
          try clear hcz8_0
          try clear hcz8_1
          try clear hcz8_2
          try clear hcz8_3
          try clear hfz10_0
          try clear hfz10_1
          try clear hfz10_2
          try clear hfz10_3
          try clear hfz12_0
          try clear hfz12_1
          try clear hfz12_2
          try clear hfz12_3
          try clear hfz14_0
          try clear hfz14_1
          try clear hfz14_2
          try clear hfz14_3
          try clear hfz16_0
          try clear hfz16_1
          try clear hfz16_2
          try clear hfz16_3
          try clear hfz18_0
          try clear hfz18_1
          try clear hfz18_2
          try clear hfz18_3
          try clear hfz20_0
          try clear hfz20_1
          try clear hfz20_2
          try clear hfz20_3
          try clear hfz22_0
          try clear hfz22_1
          try clear hfz22_2
          try clear hfz22_3
          try clear hfz24_0
          try clear hfz24_1
          try clear hfz24_2
          try clear hfz24_3
          try clear hfz25_0
          try clear hfz25_1
          try clear hfz25_2
          try clear hfz25_3
          try clear hfz27_0
          try clear hfz27_1
          try clear hfz27_2
          try clear hfz27_3
          try clear hfz8_0
          try clear hfz8_1
          try clear hfz8_2
          try clear hfz8_3
          try clear hx102_0
          try clear p102
          try clear p2
          try clear q102
          obtain ⟨kq,x81_30,rfl,HA,HJ30,BK101,HB⟩ := hcut
          cases kq with
          | zero => exact absurd HA.out (by simp [qjq.j2])
          | succ kj30 =>
           have H := HA.out
           clear HA
           simp only [qjq.j2] at H
           by_cases c33 : x81_30 = true
           ·subst c33
            have H1 : (some ([] : List Int)) = some r := by rw [if_pos rfl] at H;exact H
            clear H
            have H := H1
            clear H1
            obtain rfl := Option.some.inj H
            go_wp2
            go_ret
            exact ⟨_,by first | rfl | (simp [*,kz,jx] <;> rfl),by first | exact Kd.R_nil _ _ _ _ _ | exact Kd.N_nil _ _ _ _ _ | exact Kd.V_nil _ _ _ _ _ | exact Kd.Q_nil _ _ _ _ _ | exact Kd.S_nil _ _ _ _ _,by repeat (first | (with_reducible first | exact HB.out | apply qj | apply qz | apply qk | refine qx ?_ GE101.out) | exact HB.out)⟩
           ·replace c33 := Bool.eq_false_iff.mpr c33
            subst c33
            have H1 : (if x9_2 = true then (qjq.l0 kj30 a1 a2 l3 true l0_2 (l0_2.length : Int) (wrap64 (x70_2 + 1)) a0_0 a0_1 l0_2 a0_3) else ((qwj.f (rdOf ByteArray.empty l0_2 x70_2)).bind fun t103 => ((qwj.f a2).bind fun t104 => ((qjw.f kj30 t103 t104).bind fun t105 => (qjq.l0 kj30 a1 a2 l3 t105 l0_2 (l0_2.length : Int) (wrap64 (x70_2 + 1)) a0_0 a0_1 l0_2 a0_3))))) = some r := by rw [if_neg (show ¬ (false = true) by decide)] at H;exact H
            clear H
            have H := H1
            clear H1
            by_cases c34 : x9_2 = true
            ·subst c34
             have H1 : (qjq.l0 kj30 a1 a2 l3 true l0_2 (l0_2.length : Int) (wrap64 (x70_2 + 1)) a0_0 a0_1 l0_2 a0_3) = some r := by rw [if_pos rfl] at H;exact H
             clear H
             have H := H1
             clear H1
             have H' := qq.mk H
             clear H
             go_wp2
             go_roundg kj30
             case measure => have := HJ4.out;have := HK2.out;have := HJ30.out;omega
             case rel => exact ⟨(true),(wrap64 (x70_2 + 1)),(by first | rfl | (simp;done) | (simp [*];done)),(by first | rfl | (simp;done) | (simp [*];done)),H',⟨by have := HJ4.out;have := HK2.out;have := HJ30.out;omega⟩,⟨by (with_reducible repeat (first | refine zz ?_ _ | refine zj ?_ | refine zq ?_ _));exact BK101.out⟩,⟨by repeat (first | (with_reducible first | exact HB.out | apply qj | apply qz | apply qk | refine qx ?_ GE101.out) | exact HB.out)⟩⟩
            ·replace c34 := Bool.eq_false_iff.mpr c34
             subst c34
             have H1 : ((qwj.f (rdOf ByteArray.empty l0_2 x70_2)).bind fun t103 => ((qwj.f a2).bind fun t104 => ((qjw.f kj30 t103 t104).bind fun t105 => (qjq.l0 kj30 a1 a2 l3 t105 l0_2 (l0_2.length : Int) (wrap64 (x70_2 + 1)) a0_0 a0_1 l0_2 a0_3)))) = some r := by rw [if_neg (show ¬ (false = true) by decide)] at H;exact H
             clear H
             have H := H1
             clear H1
             replace H := Option.bind_eq_some_iff.mp H
             obtain ⟨t103,A350,H⟩ := H
             replace H : ((qwj.f a2).bind fun t104 => ((qjw.f kj30 t103 t104).bind fun t105 => (qjq.l0 kj30 a1 a2 l3 t105 l0_2 (l0_2.length : Int) (wrap64 (x70_2 + 1)) a0_0 a0_1 l0_2 a0_3))) = some r := H
             have A35 := qq.mk A350
             clear A350
             replace H := Option.bind_eq_some_iff.mp H
             obtain ⟨t104,A360,H⟩ := H
             replace H : ((qjw.f kj30 t103 t104).bind fun t105 => (qjq.l0 kj30 a1 a2 l3 t105 l0_2 (l0_2.length : Int) (wrap64 (x70_2 + 1)) a0_0 a0_1 l0_2 a0_3)) = some r := H
             have A36 := qq.mk A360
             clear A360
             replace H := Option.bind_eq_some_iff.mp H
             obtain ⟨t105,A370,H⟩ := H
             replace H : (qjq.l0 kj30 a1 a2 l3 t105 l0_2 (l0_2.length : Int) (wrap64 (x70_2 + 1)) a0_0 a0_1 l0_2 a0_3) = some r := H
             have A37 := qq.mk A370
             clear A370
             have H' := qq.mk H
             clear H
             go_wp2_with (first | (go_at_call 72;(with_reducible refine (qwj.calls (rdOf ByteArray.empty l0_2 x70_2) t103 _ A35.out).mono ?_);rintro e w38 ⟨rfl,hb⟩;have n0_ := qq.mk (wj (g := gb101) (o := .cells #[.int .i64 a0_0,.int .i64 a0_1,.slice (some ad102) l0_2.length c0_2,.int .i64 a0_3] 53 (0,0)) (by (with_reducible repeat (first | refine zz ?_ _ | refine zj ?_ | refine zq ?_ _));exact BK101.out) hb);have n1_ := qq.mk (zv (by repeat (first | (with_reducible first | exact HB.out | apply qj | apply qz | apply qk | refine qx ?_ GE101.out) | exact HB.out)) hb);clear BK101;clear HB;have BK101 := n0_;have HB := n1_;clear n0_ n1_;(try clear hb);(try clear hb2);(try clear hk);(try clear hi)) | (go_at_call 72;(with_reducible refine (qwj.calls a2 t104 _ A36.out).mono ?_);rintro e w39 ⟨rfl,hb⟩;have n0_ := qq.mk (wj (g := gb101) (o := .cells #[.int .i64 a0_0,.int .i64 a0_1,.slice (some ad102) l0_2.length c0_2,.int .i64 a0_3] 53 (0,0)) (by (with_reducible repeat (first | refine zz ?_ _ | refine zj ?_ | refine zq ?_ _));exact BK101.out) hb);have n1_ := qq.mk (zv (by repeat (first | (with_reducible first | exact HB.out | apply qj | apply qz | apply qk | refine qx ?_ GE101.out) | exact HB.out)) hb);clear BK101;clear HB;have BK101 := n0_;have HB := n1_;clear n0_ n1_;(try clear hb);(try clear hb2);(try clear hk);(try clear hi)) | (go_at_call 71;(with_reducible refine (qjw.calls kj30 t103 t104 t105 _ A37.out).mono ?_);rintro e w' ⟨rfl,⟨nd,rfl⟩⟩))
             go_roundg kj30
             case measure => have := HJ4.out;have := HK2.out;have := HJ30.out;omega
             case rel => exact ⟨(t105),(wrap64 (x70_2 + 1)),(by first | rfl | (simp;done) | (simp [*];done)),(by first | rfl | (simp;done) | (simp [*];done)),H',⟨by have := HJ4.out;have := HK2.out;have := HJ30.out;omega⟩,⟨by (with_reducible repeat (first | refine zz ?_ _ | refine zj ?_ | refine zq ?_ _));exact BK101.out⟩,⟨by repeat (first | (with_reducible first | exact HB.out | apply qj | apply qz | apply qk | refine qx ?_ GE101.out) | exact HB.out)⟩⟩
        ·rw [if_neg c30] at H
         exact absurd H (by simp)
       ·rw [if_neg c29] at H
        exact absurd H (by simp)
      ·rw [if_neg c28] at H
       have c28b0 : decide (x70_2 < (l0_2.length : Int)) = false := decide_eq_false c28
       clear c28
       have H' := qq.mk H
       clear H
       go_wp2
       go_loopg [12,93] k2 (fun kq v12 v93 w' => ∃ (x12_3 : Bool) (x93_3 : Int),v12 = .bool x12_3 ∧ v93 = .int .i64 x93_3 ∧ qq (qjq.l1 kq a1 a2 x9_2 x12_3 l3 (l3.length : Int) x93_3 a0_0 a0_1 l0_2 a0_3 = some r) ∧ qq (kq ≤ k2) ∧ qq (w'.heap[gb101]? = some (.cells #[.int .i64 a0_0,.int .i64 a0_1,(.slice A0_2 l0_2.length c0_2),.int .i64 a0_3] 53 (0,0))) ∧ qq (Below w.heap.size w w'))
       case atStart => exact ⟨(false),(0),(by first | rfl | (simp;done) | (simp [*];done)),(by first | rfl | (simp;done) | (simp [*];done)),H',⟨Nat.le_refl _⟩,⟨by (with_reducible repeat (first | refine zz ?_ _ | refine zj ?_ | refine zq ?_ _));exact BK101.out⟩,⟨by repeat (first | (with_reducible first | exact HB.out | apply qj | apply qz | apply qk | refine qx ?_ GE101.out) | exact HB.out)⟩⟩
       case round =>
        clear H'
        try clear c1
        try clear p1
        try clear q1
        try clear hx1
        try clear c2
        try clear p2
        try clear c3
        try clear p6
        try clear c7
        try clear c7b0
        try clear c9
        try clear c9b0
        try clear p10
        try clear q10
        try clear hx10
        try clear c11
        try clear c11b0
        try clear c13
        try clear c13b0
        try clear c15
        try clear c15b0
        try clear c15b1
        try clear c17
        try clear c17b0
        try clear c19
        try clear c19b0
        try clear c21
        try clear c21b0
        try clear c21b1
        try clear c23
        try clear c23b0
        try clear c23b1
        try clear c26
        try clear c28
        try clear c28b0
        try clear c29
        try clear c29b0
        try clear c30
        try clear c30b0
        try clear c32
        try clear c32b0
        try clear c32b1
        try clear c33
        try clear c34
        try clear hcz10_0
        try clear hcz10_1
        try clear hcz10_2
        try clear hcz10_3
        try clear hcz12_0
        try clear hcz12_1
        try clear hcz12_2
        try clear hcz12_3
        try clear hcz14_0
        try clear hcz14_1
        try clear hcz14_2
        try clear hcz14_3
        try clear hcz16_0
        try clear hcz16_1
        try clear hcz16_2
        try clear hcz16_3
        try clear hcz18_0
        try clear hcz18_1
        try clear hcz18_2
        try clear hcz18_3
        try clear hcz20_0
        try clear hcz20_1
        try clear hcz20_2
        try clear hcz20_3
        try clear hcz22_0
        try clear hcz22_1
        try clear hcz22_2
        try clear hcz22_3
        try clear hcz24_0
        try clear hcz24_1
        try clear hcz24_2
        try clear hcz24_3
        try clear hcz25_0
        try clear hcz25_1
        try clear hcz25_2
        try clear hcz25_3
        try clear hcz27_0
        try clear hcz27_1
        try clear hcz27_2
        try clear hcz27_3
        try clear hcz8_0
        try clear hcz8_1
        try clear hcz8_2
        try clear hcz8_3
        try clear hfz10_0
        try clear hfz10_1
        try clear hfz10_2
        try clear hfz10_3
        try clear hfz12_0
        try clear hfz12_1
        try clear hfz12_2
        try clear hfz12_3
        try clear hfz14_0
        try clear hfz14_1
        try clear hfz14_2
        try clear hfz14_3
        try clear hfz16_0
        try clear hfz16_1
        try clear hfz16_2
        try clear hfz16_3
        try clear hfz18_0
        try clear hfz18_1
        try clear hfz18_2
        try clear hfz18_3
        try clear hfz20_0
        try clear hfz20_1
        try clear hfz20_2
        try clear hfz20_3
        try clear hfz22_0
        try clear hfz22_1
        try clear hfz22_2
        try clear hfz22_3
        try clear hfz24_0
        try clear hfz24_1
        try clear hfz24_2
        try clear hfz24_3
        try clear hfz25_0
        try clear hfz25_1
        try clear hfz25_2
        try clear hfz25_3
        try clear hfz27_0
        try clear hfz27_1
        try clear hfz27_2
        try clear hfz27_3
        try clear hfz8_0
        try clear hfz8_1
        try clear hfz8_2
        try clear hfz8_3
        try clear hx102_0
        try clear p1
        try clear p10
        try clear p102
        try clear p2
        try clear q1
        try clear q10
        try clear q102
        obtain ⟨x12_3,x93_3,rfl,rfl,HA,HK3,BK101,HB⟩ := hrel
        cases gk with
        | zero => exact absurd HA.out (by simp [qjq.l1])
        | succ k3 =>
         have H := HA.out
         clear HA
         simp only [qjq.l1] at H
         by_cases c40 : x93_3 < (l3.length : Int)
         ·rw [if_pos c40] at H
          have c40b0 : decide (x93_3 < (l3.length : Int)) = true := decide_eq_true c40
          clear c40
          by_cases c41 : 0 ≤ x93_3
          ·rw [if_pos c41] at H
           have c41b0 : decide (0 ≤ x93_3) = true := decide_eq_true c41
           clear c41
           by_cases c42 : x93_3 < (l3.length : Int)
           ·rw [if_pos c42] at H
            have c42b0 : decide (x93_3 < (l3.length : Int)) = true := decide_eq_true c42
            clear c42
            by_cases c43 : x12_3 = true
            ·subst c43
             have H1 : (qjq.l1 k3 a1 a2 x9_2 true l3 (l3.length : Int) (wrap64 (x93_3 + 1)) a0_0 a0_1 l0_2 a0_3) = some r := by rw [if_pos rfl] at H;exact H
             clear H
             have H := H1
             clear H1
             have H' := qq.mk H
             clear H
             have p106 : 0 ≤ (x93_3 : Int) := of_decide_eq_true (by assumption)
             have q106 : x93_3 < (l3.length : Int) := of_decide_eq_true (by assumption)
             obtain ⟨ad106,A106_0,c106_0,A106_2,c106_2,e106,hx106_0,hx106_1,hx106_2,hl106_0,hi106_0,hl106_2,hi106_2⟩ := at_T82 HR3.out x93_3 p106 q106
             cases e106
             replace hx106_0 := (HB.out.cell (World.block_lt_of_cell? w _ hx106_0)).trans hx106_0
             replace hx106_1 := (HB.out.cell (World.block_lt_of_cell? w _ hx106_1)).trans hx106_1
             replace hx106_2 := (HB.out.cell (World.block_lt_of_cell? w _ hx106_2)).trans hx106_2
             have HR106_0 := qq.mk hi106_0
             have HC106_0 := qq.mk hl106_0
             clear hi106_0 hl106_0
             have HR106_2 := qq.mk hi106_2
             have HC106_2 := qq.mk hl106_2
             clear hi106_2 hl106_2
             replace p106 := eq_true p106
             replace q106 := eq_true q106
             go_wp2_with (first | ((with_reducible refine gate_dst (N := 14) rfl ?_);(try (refine gate_guard (by rfl) ?_;dsimp only));refine box_event ?hg (N := 14) ?hd (cs := #[.slice none 0 0,.int .i64 0,.slice none 0 0]) (t := 82) ?hr ?_;(case hd => rfl);(case hg => rfl);(case hr => first | (go_simp;done) | (go_simp;rfl));intro gb107 hg w44 hbox hb;have n0_ := qq.mk (wj (g := gb101) (o := .cells #[.int .i64 a0_0,.int .i64 a0_1,.slice A0_2 l0_2.length c0_2,.int .i64 a0_3] 53 (0,0)) (by (with_reducible repeat (first | refine zz ?_ _ | refine zj ?_ | refine zq ?_ _));exact BK101.out) hb);have n1_ := qq.mk (zv (by repeat (first | (with_reducible first | exact HB.out | apply qj | apply qz | apply qk | refine qx ?_ GE101.out) | exact HB.out)) hb);have n2_ := qq.mk (hbox);have n3_ := qq.mk ((by rw [hg];exact (zw (by repeat (first | (with_reducible first | exact HB.out | apply qj | apply qz | apply qk | refine qx ?_ GE101.out) | exact HB.out))) : w.heap.size ≤ gb107));have n4_ := qq.mk ((by rw [hg];exact (zw (by repeat (first | (with_reducible first | exact HB.out | apply qj | apply qz | apply qk | refine qx ?_ GE101.out) | exact HB.out))) : w.heap.size ≤ gb107));have n5_ := qq.mk ((by rw [hg];exact Nat.ne_of_lt (blk_lt (g := gb101) (o := .cells #[.int .i64 a0_0,.int .i64 a0_1,.slice A0_2 l0_2.length c0_2,.int .i64 a0_3] 53 (0,0)) (by (with_reducible repeat (first | refine zz ?_ _ | refine zj ?_ | refine zq ?_ _));exact BK101.out)) : gb101 ≠ gb107));have n6_ := qq.mk ((by rw [hg];exact Nat.ne_of_gt (blk_lt (g := gb101) (o := .cells #[.int .i64 a0_0,.int .i64 a0_1,.slice A0_2 l0_2.length c0_2,.int .i64 a0_3] 53 (0,0)) (by (with_reducible repeat (first | refine zz ?_ _ | refine zj ?_ | refine zq ?_ _));exact BK101.out)) : gb107 ≠ gb101));clear BK101;clear HB;have BK101 := n0_;have HB := n1_;have BK107 := n2_;have GW107 := n3_;have GE107 := n4_;have NB101_107 := n5_;have NB107_101 := n6_;clear n0_ n1_ n2_ n3_ n4_ n5_ n6_;clear hb hbox hg;have hnb45 := NB107_101.out;have hnc45 := NB101_107.out;have hcz46_0 : w44.cell? ⟨gb107,0,none⟩ = some (.slice none 0 0) := (qw BK107.out 0).trans rfl;have hcz46_1 : w44.cell? ⟨gb107,1,none⟩ = some (.int .i64 0) := (qw BK107.out 1).trans rfl;have hcz46_2 : w44.cell? ⟨gb107,2,none⟩ = some (.slice none 0 0) := (qw BK107.out 2).trans rfl;have hfz46_0 := qv BK107.out 0;have hfz46_1 := qv BK107.out 1;have hfz46_2 := qv BK107.out 2))
             go_roundg k3
             case measure => have := HJ4.out;have := HK2.out;have := HK3.out;omega
             case rel => exact ⟨(true),(wrap64 (x93_3 + 1)),(by first | rfl | (simp;done) | (simp [*];done)),(by first | rfl | (simp;done) | (simp [*];done)),H',⟨by have := HJ4.out;have := HK2.out;have := HK3.out;omega⟩,⟨by (with_reducible repeat (first | refine zz ?_ _ | refine zj ?_ | refine zq ?_ _));refine blk_far ?_ NB101_107.out _;(with_reducible repeat (first | refine zz ?_ _ | refine zj ?_ | refine zq ?_ _));refine blk_far ?_ NB101_107.out _;(with_reducible repeat (first | refine zz ?_ _ | refine zj ?_ | refine zq ?_ _));refine blk_far ?_ NB101_107.out _;(with_reducible repeat (first | refine zz ?_ _ | refine zj ?_ | refine zq ?_ _));exact BK101.out⟩,⟨by repeat (first | (with_reducible first | exact HB.out | apply qj | apply qz | apply qk | refine qx ?_ GE101.out | refine qx ?_ GE107.out) | exact HB.out)⟩⟩
            ·replace c43 := Bool.eq_false_iff.mpr c43
             subst c43
             have H1 : (if x93_3 < a0_3 then ((qzx.f k3 ((wx l3 x93_3).f0) ((wx l3 x93_3).f1) ((wx l3 x93_3).f2) a2).bind fun t108 => (qjq.l1 k3 a1 a2 x9_2 t108 l3 (l3.length : Int) (wrap64 (x93_3 + 1)) a0_0 a0_1 l0_2 a0_3)) else (qjq.l1 k3 a1 a2 x9_2 false l3 (l3.length : Int) (wrap64 (x93_3 + 1)) a0_0 a0_1 l0_2 a0_3)) = some r := by rw [if_neg (show ¬ (false = true) by decide)] at H;exact H
             clear H
             have H := H1
             clear H1
             by_cases c47 : x93_3 < a0_3
             ·rw [if_pos c47] at H
              have c47b0 : decide (x93_3 < a0_3) = true := decide_eq_true c47
              clear c47
              replace H := Option.bind_eq_some_iff.mp H
              obtain ⟨t108,A480,H⟩ := H
              replace H : (qjq.l1 k3 a1 a2 x9_2 t108 l3 (l3.length : Int) (wrap64 (x93_3 + 1)) a0_0 a0_1 l0_2 a0_3) = some r := H
              have A48 := qq.mk A480
              clear A480
              have H' := qq.mk H
              clear H
              have p106 : 0 ≤ (x93_3 : Int) := of_decide_eq_true (by assumption)
              have q106 : x93_3 < (l3.length : Int) := of_decide_eq_true (by assumption)
              obtain ⟨ad106,A106_0,c106_0,A106_2,c106_2,e106,hx106_0,hx106_1,hx106_2,hl106_0,hi106_0,hl106_2,hi106_2⟩ := at_T82 HR3.out x93_3 p106 q106
              cases e106
              replace hx106_0 := (HB.out.cell (World.block_lt_of_cell? w _ hx106_0)).trans hx106_0
              replace hx106_1 := (HB.out.cell (World.block_lt_of_cell? w _ hx106_1)).trans hx106_1
              replace hx106_2 := (HB.out.cell (World.block_lt_of_cell? w _ hx106_2)).trans hx106_2
              have HR106_0 := qq.mk hi106_0
              have HC106_0 := qq.mk hl106_0
              clear hi106_0 hl106_0
              have HR106_2 := qq.mk hi106_2
              have HC106_2 := qq.mk hl106_2
              clear hi106_2 hl106_2
              replace p106 := eq_true p106
              replace q106 := eq_true q106
              go_wp2_with (first | ((with_reducible refine gate_dst (N := 14) rfl ?_);(try (refine gate_guard (by rfl) ?_;dsimp only));refine box_event ?hg (N := 14) ?hd (cs := #[.slice none 0 0,.int .i64 0,.slice none 0 0]) (t := 82) ?hr ?_;(case hd => rfl);(case hg => rfl);(case hr => first | (go_simp;done) | (go_simp;rfl));intro gb107 hg w49 hbox hb;have n0_ := qq.mk (wj (g := gb101) (o := .cells #[.int .i64 a0_0,.int .i64 a0_1,.slice A0_2 l0_2.length c0_2,.int .i64 a0_3] 53 (0,0)) (by (with_reducible repeat (first | refine zz ?_ _ | refine zj ?_ | refine zq ?_ _));exact BK101.out) hb);have n1_ := qq.mk (zv (by repeat (first | (with_reducible first | exact HB.out | apply qj | apply qz | apply qk | refine qx ?_ GE101.out) | exact HB.out)) hb);have n2_ := qq.mk (hbox);have n3_ := qq.mk ((by rw [hg];exact (zw (by repeat (first | (with_reducible first | exact HB.out | apply qj | apply qz | apply qk | refine qx ?_ GE101.out) | exact HB.out))) : w.heap.size ≤ gb107));have n4_ := qq.mk ((by rw [hg];exact (zw (by repeat (first | (with_reducible first | exact HB.out | apply qj | apply qz | apply qk | refine qx ?_ GE101.out) | exact HB.out))) : w.heap.size ≤ gb107));have n5_ := qq.mk ((by rw [hg];exact Nat.ne_of_lt (blk_lt (g := gb101) (o := .cells #[.int .i64 a0_0,.int .i64 a0_1,.slice A0_2 l0_2.length c0_2,.int .i64 a0_3] 53 (0,0)) (by (with_reducible repeat (first | refine zz ?_ _ | refine zj ?_ | refine zq ?_ _));exact BK101.out)) : gb101 ≠ gb107));have n6_ := qq.mk ((by rw [hg];exact Nat.ne_of_gt (blk_lt (g := gb101) (o := .cells #[.int .i64 a0_0,.int .i64 a0_1,.slice A0_2 l0_2.length c0_2,.int .i64 a0_3] 53 (0,0)) (by (with_reducible repeat (first | refine zz ?_ _ | refine zj ?_ | refine zq ?_ _));exact BK101.out)) : gb107 ≠ gb101));clear BK101;clear HB;have BK101 := n0_;have HB := n1_;have BK107 := n2_;have GW107 := n3_;have GE107 := n4_;have NB101_107 := n5_;have NB107_101 := n6_;clear n0_ n1_ n2_ n3_ n4_ n5_ n6_;clear hb hbox hg;have hnb50 := NB107_101.out;have hnc50 := NB101_107.out;have hcz51_0 : w49.cell? ⟨gb107,0,none⟩ = some (.slice none 0 0) := (qw BK107.out 0).trans rfl;have hcz51_1 : w49.cell? ⟨gb107,1,none⟩ = some (.int .i64 0) := (qw BK107.out 1).trans rfl;have hcz51_2 : w49.cell? ⟨gb107,2,none⟩ = some (.slice none 0 0) := (qw BK107.out 2).trans rfl;have hfz51_0 := qv BK107.out 0;have hfz51_1 := qv BK107.out 1;have hfz51_2 := qv BK107.out 2;have hcz52_0 : w49.cell? ⟨gb101,0,none⟩ = some (.int .i64 a0_0) := (qw BK101.out 0).trans rfl;have hcz52_1 : w49.cell? ⟨gb101,1,none⟩ = some (.int .i64 a0_1) := (qw BK101.out 1).trans rfl;have hcz52_2 : w49.cell? ⟨gb101,2,none⟩ = some (.slice A0_2 l0_2.length c0_2) := (qw BK101.out 2).trans rfl;have hcz52_3 : w49.cell? ⟨gb101,3,none⟩ = some (.int .i64 a0_3) := (qw BK101.out 3).trans rfl;have hfz52_0 := qv BK101.out 0;have hfz52_1 := qv BK101.out 1;have hfz52_2 := qv BK101.out 2;have hfz52_3 := qv BK101.out 3) | (go_at_call 73;(with_reducible refine (qzx.calls k3 _ _ ((wx l3 x93_3).f0) ((wx l3 x93_3).f1) _ _ ((wx l3 x93_3).f2) a2 t108 _ ?side1 ?side2 ?side3 ?side4 A48.out).mono ?_);(case side1 => exact Kd.C_below HR106_0.out (by repeat (first | (with_reducible first | exact HB.out | apply qj | apply qz | apply qk | refine qx ?_ GE101.out | refine qx ?_ GE107.out) | exact HB.out)));(case side2 => exact HC106_0.out);(case side3 => exact Kd.C_below HR106_2.out (by repeat (first | (with_reducible first | exact HB.out | apply qj | apply qz | apply qk | refine qx ?_ GE101.out | refine qx ?_ GE107.out) | exact HB.out)));(case side4 => exact HC106_2.out);rintro e w53 ⟨rfl,hb⟩;have n0_ := qq.mk (wj (g := gb101) (o := .cells #[.int .i64 a0_0,.int .i64 a0_1,.slice A0_2 l0_2.length c0_2,.int .i64 a0_3] 53 (0,0)) (by (with_reducible repeat (first | refine zz ?_ _ | refine zj ?_ | refine zq ?_ _));refine blk_far ?_ NB101_107.out _;(with_reducible repeat (first | refine zz ?_ _ | refine zj ?_ | refine zq ?_ _));refine blk_far ?_ NB101_107.out _;(with_reducible repeat (first | refine zz ?_ _ | refine zj ?_ | refine zq ?_ _));refine blk_far ?_ NB101_107.out _;(with_reducible repeat (first | refine zz ?_ _ | refine zj ?_ | refine zq ?_ _));exact BK101.out) hb);have n1_ := qq.mk (wj (g := gb107) (o := .cells #[.slice A106_0 ((wx l3 x93_3).f0).length c106_0,.int .i64 ((wx l3 x93_3).f1),.slice A106_2 ((wx l3 x93_3).f2).length c106_2] 82 (0,0)) (by (with_reducible repeat (first | refine zz ?_ _ | refine zj ?_ | refine zq ?_ _));refine blk_put (cs := #[.slice A106_0 ((wx l3 x93_3).f0).length c106_0,.int .i64 ((wx l3 x93_3).f1),.slice none 0 0]) ?_ 2 _ rfl;(with_reducible repeat (first | refine zz ?_ _ | refine zj ?_ | refine zq ?_ _));refine blk_put (cs := #[.slice A106_0 ((wx l3 x93_3).f0).length c106_0,.int .i64 0,.slice none 0 0]) ?_ 1 _ rfl;(with_reducible repeat (first | refine zz ?_ _ | refine zj ?_ | refine zq ?_ _));refine blk_put (cs := #[.slice none 0 0,.int .i64 0,.slice none 0 0]) ?_ 0 _ rfl;(with_reducible repeat (first | refine zz ?_ _ | refine zj ?_ | refine zq ?_ _));exact BK107.out) hb);have n2_ := qq.mk (zv (by repeat (first | (with_reducible first | exact HB.out | apply qj | apply qz | apply qk | refine qx ?_ GE101.out | refine qx ?_ GE107.out) | exact HB.out)) hb);clear BK101;clear BK107;clear HB;have BK101 := n0_;have BK107 := n1_;have HB := n2_;clear n0_ n1_ n2_;(try clear hb);(try clear hb2);(try clear hk);(try clear hi)))
              go_roundg k3
              case measure => have := HJ4.out;have := HK2.out;have := HK3.out;omega
              case rel => exact ⟨(t108),(wrap64 (x93_3 + 1)),(by first | rfl | (simp;done) | (simp [*];done)),(by first | rfl | (simp;done) | (simp [*];done)),H',⟨by have := HJ4.out;have := HK2.out;have := HK3.out;omega⟩,⟨by (with_reducible repeat (first | refine zz ?_ _ | refine zj ?_ | refine zq ?_ _));exact BK101.out⟩,⟨by repeat (first | (with_reducible first | exact HB.out | apply qj | apply qz | apply qk | refine qx ?_ GE101.out | refine qx ?_ GE107.out) | exact HB.out)⟩⟩
             ·rw [if_neg c47] at H
              have c47b0 : decide (x93_3 < a0_3) = false := decide_eq_false c47
              clear c47
              have H' := qq.mk H
              clear H
              have p106 : 0 ≤ (x93_3 : Int) := of_decide_eq_true (by assumption)
              have q106 : x93_3 < (l3.length : Int) := of_decide_eq_true (by assumption)
              obtain ⟨ad106,A106_0,c106_0,A106_2,c106_2,e106,hx106_0,hx106_1,hx106_2,hl106_0,hi106_0,hl106_2,hi106_2⟩ := at_T82 HR3.out x93_3 p106 q106
              cases e106
              replace hx106_0 := (HB.out.cell (World.block_lt_of_cell? w _ hx106_0)).trans hx106_0
              replace hx106_1 := (HB.out.cell (World.block_lt_of_cell? w _ hx106_1)).trans hx106_1
              replace hx106_2 := (HB.out.cell (World.block_lt_of_cell? w _ hx106_2)).trans hx106_2
              have HR106_0 := qq.mk hi106_0
              have HC106_0 := qq.mk hl106_0
              clear hi106_0 hl106_0
              have HR106_2 := qq.mk hi106_2
              have HC106_2 := qq.mk hl106_2
              clear hi106_2 hl106_2
              replace p106 := eq_true p106
              replace q106 := eq_true q106
              go_wp2_with (first | ((with_reducible refine gate_dst (N := 14) rfl ?_);(try (refine gate_guard (by rfl) ?_;dsimp only));refine box_event ?hg (N := 14) ?hd (cs := #[.slice none 0 0,.int .i64 0,.slice none 0 0]) (t := 82) ?hr ?_;(case hd => rfl);(case hg => rfl);(case hr => first | (go_simp;done) | (go_simp;rfl));intro gb107 hg w54 hbox hb;have n0_ := qq.mk (wj (g := gb101) (o := .cells #[.int .i64 a0_0,.int .i64 a0_1,.slice A0_2 l0_2.length c0_2,.int .i64 a0_3] 53 (0,0)) (by (with_reducible repeat (first | refine zz ?_ _ | refine zj ?_ | refine zq ?_ _));exact BK101.out) hb);have n1_ := qq.mk (zv (by repeat (first | (with_reducible first | exact HB.out | apply qj | apply qz | apply qk | refine qx ?_ GE101.out) | exact HB.out)) hb);have n2_ := qq.mk (hbox);have n3_ := qq.mk ((by rw [hg];exact (zw (by repeat (first | (with_reducible first | exact HB.out | apply qj | apply qz | apply qk | refine qx ?_ GE101.out) | exact HB.out))) : w.heap.size ≤ gb107));have n4_ := qq.mk ((by rw [hg];exact (zw (by repeat (first | (with_reducible first | exact HB.out | apply qj | apply qz | apply qk | refine qx ?_ GE101.out) | exact HB.out))) : w.heap.size ≤ gb107));have n5_ := qq.mk ((by rw [hg];exact Nat.ne_of_lt (blk_lt (g := gb101) (o := .cells #[.int .i64 a0_0,.int .i64 a0_1,.slice A0_2 l0_2.length c0_2,.int .i64 a0_3] 53 (0,0)) (by (with_reducible repeat (first | refine zz ?_ _ | refine zj ?_ | refine zq ?_ _));exact BK101.out)) : gb101 ≠ gb107));have n6_ := qq.mk ((by rw [hg];exact Nat.ne_of_gt (blk_lt (g := gb101) (o := .cells #[.int .i64 a0_0,.int .i64 a0_1,.slice A0_2 l0_2.length c0_2,.int .i64 a0_3] 53 (0,0)) (by (with_reducible repeat (first | refine zz ?_ _ | refine zj ?_ | refine zq ?_ _));exact BK101.out)) : gb107 ≠ gb101));clear BK101;clear HB;have BK101 := n0_;have HB := n1_;have BK107 := n2_;have GW107 := n3_;have GE107 := n4_;have NB101_107 := n5_;have NB107_101 := n6_;clear n0_ n1_ n2_ n3_ n4_ n5_ n6_;clear hb hbox hg;have hnb55 := NB107_101.out;have hnc55 := NB101_107.out;have hcz56_0 : w54.cell? ⟨gb107,0,none⟩ = some (.slice none 0 0) := (qw BK107.out 0).trans rfl;have hcz56_1 : w54.cell? ⟨gb107,1,none⟩ = some (.int .i64 0) := (qw BK107.out 1).trans rfl;have hcz56_2 : w54.cell? ⟨gb107,2,none⟩ = some (.slice none 0 0) := (qw BK107.out 2).trans rfl;have hfz56_0 := qv BK107.out 0;have hfz56_1 := qv BK107.out 1;have hfz56_2 := qv BK107.out 2;have hcz57_0 : w54.cell? ⟨gb101,0,none⟩ = some (.int .i64 a0_0) := (qw BK101.out 0).trans rfl;have hcz57_1 : w54.cell? ⟨gb101,1,none⟩ = some (.int .i64 a0_1) := (qw BK101.out 1).trans rfl;have hcz57_2 : w54.cell? ⟨gb101,2,none⟩ = some (.slice A0_2 l0_2.length c0_2) := (qw BK101.out 2).trans rfl;have hcz57_3 : w54.cell? ⟨gb101,3,none⟩ = some (.int .i64 a0_3) := (qw BK101.out 3).trans rfl;have hfz57_0 := qv BK101.out 0;have hfz57_1 := qv BK101.out 1;have hfz57_2 := qv BK101.out 2;have hfz57_3 := qv BK101.out 3))
              go_roundg k3
              case measure => have := HJ4.out;have := HK2.out;have := HK3.out;omega
              case rel => exact ⟨(false),(wrap64 (x93_3 + 1)),(by first | rfl | (simp;done) | (simp [*];done)),(by first | rfl | (simp;done) | (simp [*];done)),H',⟨by have := HJ4.out;have := HK2.out;have := HK3.out;omega⟩,⟨by (with_reducible repeat (first | refine zz ?_ _ | refine zj ?_ | refine zq ?_ _));refine blk_far ?_ NB101_107.out _;(with_reducible repeat (first | refine zz ?_ _ | refine zj ?_ | refine zq ?_ _));refine blk_far ?_ NB101_107.out _;(with_reducible repeat (first | refine zz ?_ _ | refine zj ?_ | refine zq ?_ _));refine blk_far ?_ NB101_107.out _;(with_reducible repeat (first | refine zz ?_ _ | refine zj ?_ | refine zq ?_ _));exact BK101.out⟩,⟨by repeat (first | (with_reducible first | exact HB.out | apply qj | apply qz | apply qk | refine qx ?_ GE101.out | refine qx ?_ GE107.out) | exact HB.out)⟩⟩
           ·rw [if_neg c42] at H
            exact absurd H (by simp)
          ·rw [if_neg c41] at H
           exact absurd H (by simp)
         ·rw [if_neg c40] at H
          have c40b0 : decide (x93_3 < (l3.length : Int)) = false := decide_eq_false c40
          clear c40
          have HC58 := qq.mk H
          clear H
          go_upto_region 18 with (fail)
          go_cut [139,140,141] (fun v139 v140 v141 wc => ∃ (kq : Nat) (x139_57 : List Bool) (x140_57 : Int) (x141_57 : Int),v140 = .int .i64 x140_57 ∧ v141 = .int .i64 x141_57 ∧ qq (qjq.j4 kq ([] : List Int) x139_57 x140_57 x141_57 = some r) ∧ qq (kq ≤ k3) ∧ qq (Kd.R (Kd.int .i64) 3 wc w.heap.size (fun _ => True) (.slice none 0 0) ([] : List Int)) ∧ qq (Kd.R Kd.bool 4 wc w.heap.size (fun _ => True) v139 x139_57) ∧ qq (wc.heap[gb101]? = some (.cells #[.int .i64 a0_0,.int .i64 a0_1,(.slice A0_2 l0_2.length c0_2),.int .i64 a0_3] 53 (0,0))) ∧ qq (Below w.heap.size w wc))
          case first =>
           have H := HC58.out
           clear HC58
           replace H := Option.bind_eq_some_iff.mp H
           obtain ⟨t109,A590,H⟩ := H
           replace H : ((qjx.f a2).bind fun t110 => (if (a1.size : Int) ≥ 3 then ((qwj.f a1).bind fun t111 => ((qwj.f a2).bind fun t112 => ((qjw.f k3 t111 t112).bind fun t113 => ((some (([decide ((a2.size : Int) < a0_0),decide ((a2.size : Int) > 64),!t109,decide (t110 < a0_1),t113,x9_2,x12_3] : List Bool) : List Bool)).bind fun y114 => (qjq.j4 k3 ([] : List Int) y114 (y114.length : Int) 0))))) else ((some (([decide ((a2.size : Int) < a0_0),decide ((a2.size : Int) > 64),!t109,decide (t110 < a0_1),false,x9_2,x12_3] : List Bool) : List Bool)).bind fun y117 => (qjq.j4 k3 ([] : List Int) y117 (y117.length : Int) 0)))) = some r := H
           have A59 := qq.mk A590
           clear A590
           replace H := Option.bind_eq_some_iff.mp H
           obtain ⟨t110,A600,H⟩ := H
           replace H : (if (a1.size : Int) ≥ 3 then ((qwj.f a1).bind fun t111 => ((qwj.f a2).bind fun t112 => ((qjw.f k3 t111 t112).bind fun t113 => ((some (([decide ((a2.size : Int) < a0_0),decide ((a2.size : Int) > 64),!t109,decide (t110 < a0_1),t113,x9_2,x12_3] : List Bool) : List Bool)).bind fun y114 => (qjq.j4 k3 ([] : List Int) y114 (y114.length : Int) 0))))) else ((some (([decide ((a2.size : Int) < a0_0),decide ((a2.size : Int) > 64),!t109,decide (t110 < a0_1),false,x9_2,x12_3] : List Bool) : List Bool)).bind fun y117 => (qjq.j4 k3 ([] : List Int) y117 (y117.length : Int) 0))) = some r := H
           have A60 := qq.mk A600
           clear A600
           by_cases c61 : (a1.size : Int) ≥ 3
           ·rw [if_pos c61] at H
            have c61b0 : decide (3 ≤ (a1.size : Int)) = true := decide_eq_true c61
            have c61b1 : decide (3 ≤ a1.size) = true := decide_eq_true (by omega)
            clear c61
            (first | rw [c61b0] | (simp only [i64_w,i32_w];rw [c61b0]) | skip)
            replace H := Option.bind_eq_some_iff.mp H
            obtain ⟨t111,A620,H⟩ := H
            replace H : ((qwj.f a2).bind fun t112 => ((qjw.f k3 t111 t112).bind fun t113 => ((some (([decide ((a2.size : Int) < a0_0),decide ((a2.size : Int) > 64),!t109,decide (t110 < a0_1),t113,x9_2,x12_3] : List Bool) : List Bool)).bind fun y114 => (qjq.j4 k3 ([] : List Int) y114 (y114.length : Int) 0)))) = some r := H
            have A62 := qq.mk A620
            clear A620
            replace H := Option.bind_eq_some_iff.mp H
            obtain ⟨t112,A630,H⟩ := H
            replace H : ((qjw.f k3 t111 t112).bind fun t113 => ((some (([decide ((a2.size : Int) < a0_0),decide ((a2.size : Int) > 64),!t109,decide (t110 < a0_1),t113,x9_2,x12_3] : List Bool) : List Bool)).bind fun y114 => (qjq.j4 k3 ([] : List Int) y114 (y114.length : Int) 0))) = some r := H
            have A63 := qq.mk A630
            clear A630
            replace H := Option.bind_eq_some_iff.mp H
            obtain ⟨t113,A640,H⟩ := H
            replace H : ((some (([decide ((a2.size : Int) < a0_0),decide ((a2.size : Int) > 64),!t109,decide (t110 < a0_1),t113,x9_2,x12_3] : List Bool) : List Bool)).bind fun y114 => (qjq.j4 k3 ([] : List Int) y114 (y114.length : Int) 0)) = some r := H
            have A64 := qq.mk A640
            clear A640
            obtain ⟨y114,hy114⟩ : ∃ y_ : List Bool,y_ = (([decide ((a2.size : Int) < a0_0),decide ((a2.size : Int) > 64),!t109,decide (t110 < a0_1),t113,x9_2,x12_3] : List Bool)) := ⟨_,rfl⟩
            replace H : (qjq.j4 k3 ([] : List Int) y114 (y114.length : Int) 0) = some r := by first | (rw [hy114];with_reducible exact H) | (have H2_ := (Option.bind_some _ _).symm.trans H;rw [hy114];with_reducible exact H2_) | (have H2_ := (Option.bind_some _ _).symm.trans H;with_reducible exact H2_) | with_reducible exact H | (rw [hy114];exact H) | exact H
            have Ny114 := qq.mk hy114
            clear hy114
            have H' := qq.mk H
            clear H
            try go_wp2
            have n0_ := qq.mk (zj BK101.out)
            have n1_ := qq.mk (qk HB.out)
            clear BK101
            clear HB
            have BK101 := n0_
            have HB := n1_
            clear n0_ n1_
            refine start_ (n := 31) (S := fun w' => w'.cell? ⟨gb101,0,none⟩ = some (.int .i64 a0_0) ∧ w'.cell? ⟨gb101,1,none⟩ = some (.int .i64 a0_1) ∧ w'.cell? ⟨gb101,2,none⟩ = some (.slice A0_2 l0_2.length c0_2) ∧ w'.cell? ⟨gb101,3,none⟩ = some (.int .i64 a0_3)) (ds := []) #[false,false,false,false,false,false,false,false,false,false,false,false,false,false,false,false,false,false,false,false,false,false,false,false,false,false,false,false,false,false,false] (by kernel_rfl) rfl rfl ⟨(qw BK101.out 0).trans rfl,(qw BK101.out 1).trans rfl,(qw BK101.out 2).trans rfl,(qw BK101.out 3).trans rfl⟩ (fun hHeld => ?_);refine with_tabW qjq.tab18 qjq.bits18 (fun HT_ HW_ => ?_)
            generalize wr.drew = w65 at BK101 HB hHeld ⊢
            refine pure_ (i := 0) (N := some 111) (v := ?_) (a' := ?_) #[true,false,false,false,false,false,false,false,false,false,false,false,false,false,false,false,false,false,false,false,false,false,false,false,false,false,false,false,false,false,false] rfl rfl (any_of HT_.out (by kernel_rfl)) (fun _ _ _ h => h) (Or.inl ⟨by rfl,?_⟩) ?_ ?_
            rotate_left
            ·intro w'
             go_simp
             with_reducible rfl
            rotate_left
            ·simp only [Act.put,List.setIfInBounds_toArray,List.set_cons_zero,List.set_cons_succ,i64_w,i32_w]
             rfl
            refine pure_ (i := 1) (N := some 112) (v := ?_) (a' := ?_) #[true,true,false,false,false,false,false,false,false,false,false,false,false,false,false,false,false,false,false,false,false,false,false,false,false,false,false,false,false,false,false] rfl rfl (any_of HT_.out (by kernel_rfl)) (fun _ _ _ h => h) (Or.inl ⟨by rfl,?_⟩) ?_ ?_
            rotate_left
            ·intro w'
             go_simp
             with_reducible rfl
            rotate_left
            ·simp only [Act.put,List.setIfInBounds_toArray,List.set_cons_zero,List.set_cons_succ,i64_w,i32_w]
             rfl
            refine pure_ (i := 2) (N := some 113) (v := ?_) (a' := ?_) #[true,true,true,false,false,false,false,false,false,false,false,false,false,false,false,false,false,false,false,false,false,false,false,false,false,false,false,false,false,false,false] rfl rfl (any_of HT_.out (by kernel_rfl)) (fun _ _ _ h => h) (Or.inl ⟨by rfl,?_⟩) ?_ ?_
            rotate_left
            ·intro w'
             go_simp
             with_reducible rfl
            rotate_left
            ·simp only [Act.put,List.setIfInBounds_toArray,List.set_cons_zero,List.set_cons_succ,i64_w,i32_w]
             rfl
            refine pure_ (i := 5) (N := some 116) (v := ?_) (a' := ?_) #[true,true,true,false,false,true,false,false,false,false,false,false,false,false,false,false,false,false,false,false,false,false,false,false,false,false,false,false,false,false,false] rfl rfl (any_of HT_.out (by kernel_rfl)) (fun _ _ _ h => h) (Or.inl ⟨by rfl,?_⟩) ?_ ?_
            rotate_left
            ·intro w'
             go_simp
             with_reducible rfl
            rotate_left
            ·simp only [Act.put,List.setIfInBounds_toArray,List.set_cons_zero,List.set_cons_succ,i64_w,i32_w]
             rfl
            refine pure_ (i := 6) (N := some 117) (v := ?_) (a' := ?_) #[true,true,true,false,false,true,true,false,false,false,false,false,false,false,false,false,false,false,false,false,false,false,false,false,false,false,false,false,false,false,false] rfl rfl (any_of HT_.out (by kernel_rfl)) (fun _ _ _ h => h) (Or.inl ⟨by rfl,?_⟩) ?_ ?_
            rotate_left
            ·intro w'
             go_simp
             with_reducible rfl
            rotate_left
            ·simp only [Act.put,List.setIfInBounds_toArray,List.set_cons_zero,List.set_cons_succ,i64_w,i32_w]
             rfl
            refine pure_ (i := 7) (N := some 118) (v := ?_) (a' := ?_) #[true,true,true,false,false,true,true,true,false,false,false,false,false,false,false,false,false,false,false,false,false,false,false,false,false,false,false,false,false,false,false] rfl rfl (any_of HT_.out (by kernel_rfl)) (fun _ _ _ h => h) (Or.inl ⟨by rfl,?_⟩) ?_ ?_
            rotate_left
            ·intro w'
             go_simp
             with_reducible rfl
            rotate_left
            ·simp only [Act.put,List.setIfInBounds_toArray,List.set_cons_zero,List.set_cons_succ,i64_w,i32_w]
             rfl
            refine pure_ (i := 8) (N := some 119) (v := ?_) (a' := ?_) #[true,true,true,false,false,true,true,true,true,false,false,false,false,false,false,false,false,false,false,false,false,false,false,false,false,false,false,false,false,false,false] rfl rfl (any_of HT_.out (by kernel_rfl)) (fun _ _ _ h => h) (Or.inl ⟨by rfl,?_⟩) ?_ ?_
            rotate_left
            ·intro w'
             go_simp
             with_reducible rfl
            rotate_left
            ·simp only [Act.put,List.setIfInBounds_toArray,List.set_cons_zero,List.set_cons_succ,i64_w,i32_w]
             rfl
            refine pure_ (i := 11) (N := some 122) (v := ?_) (a' := ?_) #[true,true,true,false,false,true,true,true,true,false,false,true,false,false,false,false,false,false,false,false,false,false,false,false,false,false,false,false,false,false,false] rfl rfl (any_of HT_.out (by kernel_rfl)) (fun _ _ _ h => h) (Or.inl ⟨by rfl,?_⟩) ?_ ?_
            rotate_left
            ·intro w'
             go_simp
             with_reducible rfl
            rotate_left
            ·simp only [Act.put,List.setIfInBounds_toArray,List.set_cons_zero,List.set_cons_succ,i64_w,i32_w]
             rfl
            refine pure_ (i := 13) (N := some 124) (v := ?_) (a' := ?_) #[true,true,true,false,false,true,true,true,true,false,false,true,false,true,false,false,false,false,false,false,false,false,false,false,false,false,false,false,false,false,false] rfl rfl (any_of HT_.out (by kernel_rfl)) (fun _ _ _ h => h) (Or.inl ⟨by rfl,?_⟩) ?_ ?_
            rotate_left
            ·intro w'
             go_simp
             with_reducible rfl
            rotate_left
            ·simp only [Act.put,List.setIfInBounds_toArray,List.set_cons_zero,List.set_cons_succ,i64_w,i32_w]
             rfl
            refine pure_ (i := 16) (N := some 127) (v := ?_) (a' := ?_) #[true,true,true,false,false,true,true,true,true,false,false,true,false,true,false,false,true,false,false,false,false,false,false,false,false,false,false,false,false,false,false] rfl rfl (any_of HT_.out (by kernel_rfl)) (fun _ _ _ h => h) (Or.inl ⟨by rfl,?_⟩) ?_ ?_
            rotate_left
            ·intro w'
             go_simp
             with_reducible rfl
            rotate_left
            ·simp only [Act.put,List.setIfInBounds_toArray,List.set_cons_zero,List.set_cons_succ,i64_w,i32_w]
             rfl
            refine pure_ (i := 17) (N := some 128) (v := ?_) (a' := ?_) #[true,true,true,false,false,true,true,true,true,false,false,true,false,true,false,false,true,true,false,false,false,false,false,false,false,false,false,false,false,false,false] rfl rfl (any_of HT_.out (by kernel_rfl)) (fun _ _ _ h => h) (Or.inl ⟨by rfl,?_⟩) ?_ ?_
            rotate_left
            ·intro w'
             go_simp
             with_reducible rfl
            rotate_left
            ·simp only [Act.put,List.setIfInBounds_toArray,List.set_cons_zero,List.set_cons_succ,i64_w,i32_w]
             rfl
            refine pure_ (i := 18) (N := some 129) (v := ?_) (a' := ?_) #[true,true,true,false,false,true,true,true,true,false,false,true,false,true,false,false,true,true,true,false,false,false,false,false,false,false,false,false,false,false,false] rfl rfl (any_of HT_.out (by kernel_rfl)) (fun _ _ _ h => h) (Or.inl ⟨by rfl,?_⟩) ?_ ?_
            rotate_left
            ·intro w'
             go_simp
             with_reducible rfl
            rotate_left
            ·simp only [Act.put,List.setIfInBounds_toArray,List.set_cons_zero,List.set_cons_succ,i64_w,i32_w]
             rfl
            refine pure_ (i := 26) (N := some 137) (v := ?_) (a' := ?_) #[true,true,true,false,false,true,true,true,true,false,false,true,false,true,false,false,true,true,true,false,false,false,false,false,false,false,true,false,false,false,false] rfl rfl (any_of HT_.out (by kernel_rfl)) (fun _ _ _ h => h) (Or.inl ⟨by rfl,?_⟩) ?_ ?_
            rotate_left
            ·intro w'
             go_simp
             with_reducible rfl
            rotate_left
            ·simp only [Act.put,List.setIfInBounds_toArray,List.set_cons_zero,List.set_cons_succ,i64_w,i32_w]
             rfl
            refine pure_ (i := 27) (N := some 138) (v := ?_) (a' := ?_) #[true,true,true,false,false,true,true,true,true,false,false,true,false,true,false,false,true,true,true,false,false,false,false,false,false,false,true,true,false,false,false] rfl rfl (any_of HT_.out (by kernel_rfl)) (fun _ _ _ h => h) (Or.inl ⟨by rfl,?_⟩) ?_ ?_
            rotate_left
            ·intro w'
             go_simp
             with_reducible rfl
            rotate_left
            ·simp only [Act.put,List.setIfInBounds_toArray,List.set_cons_zero,List.set_cons_succ,i64_w,i32_w]
             rfl
            refine pure_ (i := 30) (N := some 141) (v := ?_) (a' := ?_) #[true,true,true,false,false,true,true,true,true,false,false,true,false,true,false,false,true,true,true,false,false,false,false,false,false,false,true,true,false,false,true] rfl rfl (any_of HT_.out (by kernel_rfl)) (fun _ _ _ h => h) (Or.inl ⟨by rfl,?_⟩) ?_ ?_
            rotate_left
            ·intro w'
             go_simp
             with_reducible rfl
            rotate_left
            ·simp only [Act.put,List.setIfInBounds_toArray,List.set_cons_zero,List.set_cons_succ,i64_w,i32_w]
             rfl
            refine take_ (i := 3) (N := some 114) (v := ?_) (a' := ?_) #[true,true,true,true,false,true,true,true,true,false,false,true,false,true,false,false,true,true,true,false,false,false,false,false,false,false,true,true,false,false,true] rfl rfl (take_ofW HT_.out HW_.out (by kernel_rfl)) (fun _ _ _ h => h) (Or.inl ⟨by rfl,?_⟩) hHeld ?_ ?_
            rotate_left
            ·rintro w' ⟨s0,s1,s2,s3⟩
             go_simp
             with_reducible rfl
            rotate_left
            ·simp only [Act.put,List.setIfInBounds_toArray,List.set_cons_zero,List.set_cons_succ,i64_w,i32_w]
             rfl
            refine pure_ (i := 4) (N := some 115) (v := ?_) (a' := ?_) #[true,true,true,true,true,true,true,true,true,false,false,true,false,true,false,false,true,true,true,false,false,false,false,false,false,false,true,true,false,false,true] rfl rfl (any_of HT_.out (by kernel_rfl)) (fun _ _ _ h => h) (Or.inl ⟨by rfl,?_⟩) ?_ ?_
            rotate_left
            ·intro w'
             go_simp
             with_reducible rfl
            rotate_left
            ·simp only [Act.put,List.setIfInBounds_toArray,List.set_cons_zero,List.set_cons_succ,i64_w,i32_w]
             rfl
            refine take_ (i := 14) (N := some 125) (v := ?_) (a' := ?_) #[true,true,true,true,true,true,true,true,true,false,false,true,false,true,true,false,true,true,true,false,false,false,false,false,false,false,true,true,false,false,true] rfl rfl (take_ofW HT_.out HW_.out (by kernel_rfl)) (fun _ _ _ h => h) (Or.inl ⟨by rfl,?_⟩) hHeld ?_ ?_
            rotate_left
            ·rintro w' ⟨s0,s1,s2,s3⟩
             go_simp
             with_reducible rfl
            rotate_left
            ·simp only [Act.put,List.setIfInBounds_toArray,List.set_cons_zero,List.set_cons_succ,i64_w,i32_w]
             rfl
            refine one_ (i := 9) (N := some 120) #[true,true,true,true,true,true,true,true,true,true,false,true,false,true,true,false,true,true,true,false,false,false,false,false,false,false,true,true,false,false,true] rfl rfl (one_of HT_.out (by kernel_rfl)) (by decide) (fun K hK => ?_)
            refine goes_ Try.func74 (by kernel_rfl) rfl #[.string a2] (by rfl) rfl rfl (by (try simp only [List.map_toArray,List.map_cons,List.map_nil]);first | done | rfl | (simp only [List.length_drop,List.length_take];rfl)) ?_
            with_reducible refine (qvk.calls k3 a2 t109 _ A59.out).mono ?_
            rintro e w' ⟨rfl,⟨nd,rfl⟩⟩
            refine ⟨_,rfl,?_⟩
            refine hK.out _ _ ⟨(qw BK101.out 0).trans rfl,(qw BK101.out 1).trans rfl,(qw BK101.out 2).trans rfl,(qw BK101.out 3).trans rfl⟩ (fun hHeld => ?_)
            clear hK K
            refine norm_ (a' := ?_) ?_ ?_
            rotate_left
            ·show Act.put _ (some 120) _ = _
             simp only [Act.put,List.setIfInBounds_toArray,List.set_cons_zero,List.set_cons_succ,i64_w,i32_w]
             rfl
            refine pure_ (i := 10) (N := some 121) (v := ?_) (a' := ?_) #[true,true,true,true,true,true,true,true,true,true,true,true,false,true,true,false,true,true,true,false,false,false,false,false,false,false,true,true,false,false,true] rfl rfl (any_of HT_.out (by kernel_rfl)) (fun _ _ _ h => h) (Or.inl ⟨by rfl,?_⟩) ?_ ?_
            rotate_left
            ·intro w'
             go_simp
             with_reducible rfl
            rotate_left
            ·simp only [Act.put,List.setIfInBounds_toArray,List.set_cons_zero,List.set_cons_succ,i64_w,i32_w]
             rfl
            refine one_ (i := 12) (N := some 123) #[true,true,true,true,true,true,true,true,true,true,true,true,true,true,true,false,true,true,true,false,false,false,false,false,false,false,true,true,false,false,true] rfl rfl (one_of HT_.out (by kernel_rfl)) (by decide) (fun K hK => ?_)
            refine goes_ Try.func75 (by kernel_rfl) rfl #[.string a2] (by rfl) rfl rfl (by (try simp only [List.map_toArray,List.map_cons,List.map_nil]);first | done | rfl | (simp only [List.length_drop,List.length_take];rfl)) ?_
            with_reducible refine (qjx.calls a2 t110 _ A60.out).mono ?_
            rintro e w66 ⟨rfl,hb⟩
            refine ⟨_,rfl,?_⟩
            have n0_ := qq.mk (wj (g := gb101) (o := .cells #[.int .i64 a0_0,.int .i64 a0_1,.slice A0_2 l0_2.length c0_2,.int .i64 a0_3] 53 (0,0)) (by (with_reducible repeat (first | refine zz ?_ _ | refine zj ?_ | refine zq ?_ _));exact BK101.out) hb)
            have n1_ := qq.mk (zv (by repeat (first | (with_reducible first | exact HB.out | apply qj | apply qz | apply qk | refine qx ?_ GE101.out) | exact HB.out)) hb)
            clear BK101
            clear HB
            have BK101 := n0_
            have HB := n1_
            clear n0_ n1_
            (try clear hb)
            (try clear hb2)
            (try clear hk)
            (try clear hi)
            refine hK.out _ _ ⟨(qw BK101.out 0).trans rfl,(qw BK101.out 1).trans rfl,(qw BK101.out 2).trans rfl,(qw BK101.out 3).trans rfl⟩ (fun hHeld => ?_)
            clear hK K
            refine norm_ (a' := ?_) ?_ ?_
            rotate_left
            ·show Act.put _ (some 123) _ = _
             simp only [Act.put,List.setIfInBounds_toArray,List.set_cons_zero,List.set_cons_succ,i64_w,i32_w]
             rfl
            refine pure_ (i := 15) (N := some 126) (v := ?_) (a' := ?_) #[true,true,true,true,true,true,true,true,true,true,true,true,true,true,true,true,true,true,true,false,false,false,false,false,false,false,true,true,false,false,true] rfl rfl (any_of HT_.out (by kernel_rfl)) (fun _ _ _ h => h) (Or.inl ⟨by rfl,?_⟩) ?_ ?_
            rotate_left
            ·intro w'
             go_simp
             with_reducible rfl
            rotate_left
            ·simp only [Act.put,List.setIfInBounds_toArray,List.set_cons_zero,List.set_cons_succ,i64_w,i32_w]
             rfl
            refine pure_ (i := 19) (N := some 130) (v := ?_) (a' := ?_) #[true,true,true,true,true,true,true,true,true,true,true,true,true,true,true,true,true,true,true,true,false,false,false,false,false,false,true,true,false,false,true] rfl rfl (any_of HT_.out (by kernel_rfl)) (fun _ _ _ h => h) (Or.inl ⟨by rfl,?_⟩) ?_ ?_
            rotate_left
            ·intro w'
             go_simp
             with_reducible rfl
            rotate_left
            ·simp only [Act.put,List.setIfInBounds_toArray,List.set_cons_zero,List.set_cons_succ,i64_w,i32_w]
             rfl
            refine pure_ (i := 20) (N := some 131) (v := ?_) (a' := ?_) #[true,true,true,true,true,true,true,true,true,true,true,true,true,true,true,true,true,true,true,true,true,false,false,false,false,false,true,true,false,false,true] rfl rfl (any_of HT_.out (by kernel_rfl)) (fun _ _ _ h => h) (Or.inl ⟨by rfl,?_⟩) ?_ ?_
            rotate_left
            ·intro w'
             go_simp
             with_reducible rfl
            rotate_left
            ·simp only [Act.put,List.setIfInBounds_toArray,List.set_cons_zero,List.set_cons_succ,i64_w,i32_w]
             rfl
            refine pure_ (i := 22) (N := some 133) (v := ?_) (a' := ?_) #[true,true,true,true,true,true,true,true,true,true,true,true,true,true,true,true,true,true,true,true,true,false,true,false,false,false,true,true,false,false,true] rfl rfl (any_of HT_.out (by kernel_rfl)) (fun _ _ _ h => h) (Or.inl ⟨by rfl,?_⟩) ?_ ?_
            rotate_left
            ·intro w'
             go_simp
             with_reducible rfl
            rotate_left
            ·simp only [Act.put,List.setIfInBounds_toArray,List.set_cons_zero,List.set_cons_succ,i64_w,i32_w]
             rfl
            refine one_ (i := 21) (N := some 132) #[true,true,true,true,true,true,true,true,true,true,true,true,true,true,true,true,true,true,true,true,true,true,true,false,false,false,true,true,false,false,true] rfl rfl (one_of HT_.out (by kernel_rfl)) (by decide) (fun K hK => ?_)
            refine goes_ Try.func72 (by kernel_rfl) rfl #[.string a1] (by rfl) rfl rfl (by (try simp only [List.map_toArray,List.map_cons,List.map_nil]);first | done | rfl | (simp only [List.length_drop,List.length_take];rfl)) ?_
            with_reducible refine (qwj.calls a1 t111 _ A62.out).mono ?_
            rintro e w67 ⟨rfl,hb⟩
            refine ⟨_,rfl,?_⟩
            have n0_ := qq.mk (wj (g := gb101) (o := .cells #[.int .i64 a0_0,.int .i64 a0_1,.slice A0_2 l0_2.length c0_2,.int .i64 a0_3] 53 (0,0)) (by (with_reducible repeat (first | refine zz ?_ _ | refine zj ?_ | refine zq ?_ _));exact BK101.out) hb)
            have n1_ := qq.mk (zv (by repeat (first | (with_reducible first | exact HB.out | apply qj | apply qz | apply qk | refine qx ?_ GE101.out) | exact HB.out)) hb)
            clear BK101
            clear HB
            have BK101 := n0_
            have HB := n1_
            clear n0_ n1_
            (try clear hb)
            (try clear hb2)
            (try clear hk)
            (try clear hi)
            refine hK.out _ _ ⟨(qw BK101.out 0).trans rfl,(qw BK101.out 1).trans rfl,(qw BK101.out 2).trans rfl,(qw BK101.out 3).trans rfl⟩ (fun hHeld => ?_)
            clear hK K
            refine norm_ (a' := ?_) ?_ ?_
            rotate_left
            ·show Act.put _ (some 132) _ = _
             simp only [Act.put,List.setIfInBounds_toArray,List.set_cons_zero,List.set_cons_succ,i64_w,i32_w]
             rfl
            refine one_ (i := 23) (N := some 134) #[true,true,true,true,true,true,true,true,true,true,true,true,true,true,true,true,true,true,true,true,true,true,true,true,false,false,true,true,false,false,true] rfl rfl (one_of HT_.out (by kernel_rfl)) (by decide) (fun K hK => ?_)
            refine goes_ Try.func72 (by kernel_rfl) rfl #[.string a2] (by rfl) rfl rfl (by (try simp only [List.map_toArray,List.map_cons,List.map_nil]);first | done | rfl | (simp only [List.length_drop,List.length_take];rfl)) ?_
            with_reducible refine (qwj.calls a2 t112 _ A63.out).mono ?_
            rintro e w68 ⟨rfl,hb⟩
            refine ⟨_,rfl,?_⟩
            have n0_ := qq.mk (wj (g := gb101) (o := .cells #[.int .i64 a0_0,.int .i64 a0_1,.slice A0_2 l0_2.length c0_2,.int .i64 a0_3] 53 (0,0)) (by (with_reducible repeat (first | refine zz ?_ _ | refine zj ?_ | refine zq ?_ _));exact BK101.out) hb)
            have n1_ := qq.mk (zv (by repeat (first | (with_reducible first | exact HB.out | apply qj | apply qz | apply qk | refine qx ?_ GE101.out) | exact HB.out)) hb)
            clear BK101
            clear HB
            have BK101 := n0_
            have HB := n1_
            clear n0_ n1_
            (try clear hb)
            (try clear hb2)
            (try clear hk)
            (try clear hi)
            refine hK.out _ _ ⟨(qw BK101.out 0).trans rfl,(qw BK101.out 1).trans rfl,(qw BK101.out 2).trans rfl,(qw BK101.out 3).trans rfl⟩ (fun hHeld => ?_)
            clear hK K
            refine norm_ (a' := ?_) ?_ ?_
            rotate_left
            ·show Act.put _ (some 134) _ = _
             simp only [Act.put,List.setIfInBounds_toArray,List.set_cons_zero,List.set_cons_succ,i64_w,i32_w]
             rfl
            refine one_ (i := 24) (N := some 135) #[true,true,true,true,true,true,true,true,true,true,true,true,true,true,true,true,true,true,true,true,true,true,true,true,true,false,true,true,false,false,true] rfl rfl (one_of HT_.out (by kernel_rfl)) (by decide) (fun K hK => ?_)
            refine goes_ Try.func71 (by kernel_rfl) rfl #[.string t111,.string t112] (by rfl) rfl rfl (by (try simp only [List.map_toArray,List.map_cons,List.map_nil]);first | done | rfl | (simp only [List.length_drop,List.length_take];rfl)) ?_
            with_reducible refine (qjw.calls k3 t111 t112 t113 _ A64.out).mono ?_
            rintro e w' ⟨rfl,⟨nd,rfl⟩⟩
            refine ⟨_,rfl,?_⟩
            refine hK.out _ _ ⟨(qw BK101.out 0).trans rfl,(qw BK101.out 1).trans rfl,(qw BK101.out 2).trans rfl,(qw BK101.out 3).trans rfl⟩ (fun hHeld => ?_)
            clear hK K
            refine norm_ (a' := ?_) ?_ ?_
            rotate_left
            ·show Act.put _ (some 135) _ = _
             simp only [Act.put,List.setIfInBounds_toArray,List.set_cons_zero,List.set_cons_succ,i64_w,i32_w]
             rfl
            refine pure_ (i := 25) (N := some 136) (v := ?_) (a' := ?_) #[true,true,true,true,true,true,true,true,true,true,true,true,true,true,true,true,true,true,true,true,true,true,true,true,true,true,true,true,false,false,true] rfl rfl (any_of HT_.out (by kernel_rfl)) (fun _ _ _ h => h) (Or.inl ⟨by rfl,?_⟩) ?_ ?_
            rotate_left
            ·intro w'
             go_simp
             with_reducible rfl
            rotate_left
            ·simp only [Act.put,List.setIfInBounds_toArray,List.set_cons_zero,List.set_cons_succ,i64_w,i32_w]
             rfl
            refine one_ (i := 28) (N := some 139) #[true,true,true,true,true,true,true,true,true,true,true,true,true,true,true,true,true,true,true,true,true,true,true,true,true,true,true,true,true,false,true] rfl rfl (one_of HT_.out (by kernel_rfl)) (by decide) (fun K hK => ?_)
            refine Kd.R_lit_step Kd.bool _ 4 ?hg (N := 139) ?hd (xs := ([decide ((a2.size : Int) < a0_0),decide ((a2.size : Int) > 64),!t109,decide (t110 < a0_1),t113,x9_2,x12_3] : List Bool)) (inner := [.bool (decide ((a2.size : Int) < a0_0)),.bool (decide ((a2.size : Int) > 64)),.bool (!t109),.bool (decide (t110 < a0_1)),.bool t113,.bool x9_2,.bool x12_3]) (ok := fun _ => True) (okp := fun _ => True) ?hr ?hp (fun _ hk => hk) trivial (Below.refl _ _) (Nat.le_refl _) (by simp) ?_;(case hd => rfl);(case hg => rfl);(case hr => first | (go_simp;done) | (go_simp;rfl));(case hp => exact (Reps.one (show Kd.M Kd.bool _ _ _ (decide ((a2.size : Int) < a0_0)) [.bool (decide ((a2.size : Int) < a0_0))] from rfl) (Reps.one (show Kd.M Kd.bool _ _ _ (decide ((a2.size : Int) > 64)) [.bool (decide ((a2.size : Int) > 64))] from rfl) (Reps.one (show Kd.M Kd.bool _ _ _ (!t109) [.bool (!t109)] from rfl) (Reps.one (show Kd.M Kd.bool _ _ _ (decide (t110 < a0_1)) [.bool (decide (t110 < a0_1))] from rfl) (Reps.one (show Kd.M Kd.bool _ _ _ t113 [.bool t113] from rfl) (Reps.one (show Kd.M Kd.bool _ _ _ x9_2 [.bool x9_2] from rfl) (Reps.one (show Kd.M Kd.bool _ _ _ x12_3 [.bool x12_3] from rfl) (Reps.none _ _)))))))))
            intro v115 w69 ho70 hb hg_ hnew_
            clear hg_ hnew_
            (first | rw [← Ny114.out] at ho70 | (simp only [Int.reduceToNat] at ho70;rw [← Ny114.out] at ho70))
            have n0_ := qq.mk (Kd.R_lower ho70 (zw (by repeat (first | (with_reducible first | exact HB.out | apply qj | apply qz | apply qk | refine qx ?_ GE101.out) | exact HB.out))))
            have n1_ := qq.mk (wj (g := gb101) (o := .cells #[.int .i64 a0_0,.int .i64 a0_1,.slice A0_2 l0_2.length c0_2,.int .i64 a0_3] 53 (0,0)) (by (with_reducible repeat (first | refine zz ?_ _ | refine zj ?_ | refine zq ?_ _));exact BK101.out) hb)
            have n2_ := qq.mk (zv (by repeat (first | (with_reducible first | exact HB.out | apply qj | apply qz | apply qk | refine qx ?_ GE101.out) | exact HB.out)) hb)
            clear BK101
            clear HB
            have HO116 := n0_
            have BK101 := n1_
            have HB := n2_
            clear n0_ n1_ n2_
            clear hb ho70
            obtain ⟨Ao71,co71,eo71⟩ := Kd.R_slice HO116.out
            (first | subst eo71 | (injection eo71 with f1_ f2_ f3_;have f4_ := f1_.symm;have f5_ := f3_.symm;clear f1_ f2_ f3_;subst f4_;subst f5_))
            refine hK.out _ _ ⟨(qw BK101.out 0).trans rfl,(qw BK101.out 1).trans rfl,(qw BK101.out 2).trans rfl,(qw BK101.out 3).trans rfl⟩ (fun hHeld => ?_)
            clear hK K
            refine norm_ (a' := ?_) ?_ ?_
            rotate_left
            ·show Act.put _ (some 139) _ = _
             simp only [Act.put,List.setIfInBounds_toArray,List.set_cons_zero,List.set_cons_succ,i64_w,i32_w]
             rfl
            refine pure_ (i := 29) (N := some 140) (v := ?_) (a' := ?_) #[true,true,true,true,true,true,true,true,true,true,true,true,true,true,true,true,true,true,true,true,true,true,true,true,true,true,true,true,true,true,true] rfl rfl (any_of HT_.out (by kernel_rfl)) (fun _ _ _ h => h) (Or.inl ⟨by rfl,?_⟩) ?_ ?_
            rotate_left
            ·intro w'
             go_simp
             with_reducible rfl
            rotate_left
            ·simp only [Act.put,List.setIfInBounds_toArray,List.set_cons_zero,List.set_cons_succ,i64_w,i32_w]
             rfl
            refine done_ (done_of HT_.out (by kernel_rfl)) ?_
            try go_wp2
            go_meet
            case rel => exact ⟨_,(y114),((y114.length : Int)),(0),(by first | rfl | (simp;done) | (simp [*];done)),(by first | rfl | (simp;done) | (simp [*];done)),H',⟨by have := HJ4.out;have := HK2.out;have := HK3.out;first | omega | exact Nat.le_refl _⟩,⟨by first | exact Kd.R_nil _ _ _ _ _ | exact Kd.N_nil _ _ _ _ _ | exact Kd.V_nil _ _ _ _ _ | exact Kd.Q_nil _ _ _ _ _ | exact Kd.S_nil _ _ _ _ _⟩,⟨by (with_reducible repeat (first | apply Kd.jq | apply Kd.zx | apply Kd.jz));exact HO116.out⟩,⟨by (with_reducible repeat (first | refine zz ?_ _ | refine zj ?_ | refine zq ?_ _));exact BK101.out⟩,⟨by repeat (first | (with_reducible first | exact HB.out | apply qj | apply qz | apply qk | refine qx ?_ GE101.out) | exact HB.out)⟩⟩
           ·rw [if_neg c61] at H
            have c61b0 : decide (3 ≤ (a1.size : Int)) = false := decide_eq_false c61
            have c61b1 : decide (3 ≤ a1.size) = false := decide_eq_false (by omega)
            clear c61
            (first | rw [c61b0] | (simp only [i64_w,i32_w];rw [c61b0]) | skip)
            obtain ⟨y117,hy117⟩ : ∃ y_ : List Bool,y_ = (([decide ((a2.size : Int) < a0_0),decide ((a2.size : Int) > 64),!t109,decide (t110 < a0_1),false,x9_2,x12_3] : List Bool)) := ⟨_,rfl⟩
            replace H : (qjq.j4 k3 ([] : List Int) y117 (y117.length : Int) 0) = some r := by first | (rw [hy117];with_reducible exact H) | (have H2_ := (Option.bind_some _ _).symm.trans H;rw [hy117];with_reducible exact H2_) | (have H2_ := (Option.bind_some _ _).symm.trans H;with_reducible exact H2_) | with_reducible exact H | (rw [hy117];exact H) | exact H
            have Ny117 := qq.mk hy117
            clear hy117
            have H' := qq.mk H
            clear H
            try go_wp2
            have n0_ := qq.mk (zj BK101.out)
            have n1_ := qq.mk (qk HB.out)
            clear BK101
            clear HB
            have BK101 := n0_
            have HB := n1_
            clear n0_ n1_
            refine start_ (n := 31) (S := fun w' => w'.cell? ⟨gb101,0,none⟩ = some (.int .i64 a0_0) ∧ w'.cell? ⟨gb101,1,none⟩ = some (.int .i64 a0_1) ∧ w'.cell? ⟨gb101,2,none⟩ = some (.slice A0_2 l0_2.length c0_2) ∧ w'.cell? ⟨gb101,3,none⟩ = some (.int .i64 a0_3)) (ds := []) #[false,false,false,false,false,false,false,false,false,false,false,false,false,false,false,false,false,false,false,false,false,false,false,false,false,false,false,false,false,false,false] (by kernel_rfl) rfl rfl ⟨(qw BK101.out 0).trans rfl,(qw BK101.out 1).trans rfl,(qw BK101.out 2).trans rfl,(qw BK101.out 3).trans rfl⟩ (fun hHeld => ?_);refine with_tabW qjq.tab18 qjq.bits18 (fun HT_ HW_ => ?_)
            generalize wr.drew = w72 at BK101 HB hHeld ⊢
            refine pure_ (i := 0) (N := some 111) (v := ?_) (a' := ?_) #[true,false,false,false,false,false,false,false,false,false,false,false,false,false,false,false,false,false,false,false,false,false,false,false,false,false,false,false,false,false,false] rfl rfl (any_of HT_.out (by kernel_rfl)) (fun _ _ _ h => h) (Or.inl ⟨by rfl,?_⟩) ?_ ?_
            rotate_left
            ·intro w'
             go_simp
             with_reducible rfl
            rotate_left
            ·simp only [Act.put,List.setIfInBounds_toArray,List.set_cons_zero,List.set_cons_succ,i64_w,i32_w]
             rfl
            refine pure_ (i := 1) (N := some 112) (v := ?_) (a' := ?_) #[true,true,false,false,false,false,false,false,false,false,false,false,false,false,false,false,false,false,false,false,false,false,false,false,false,false,false,false,false,false,false] rfl rfl (any_of HT_.out (by kernel_rfl)) (fun _ _ _ h => h) (Or.inl ⟨by rfl,?_⟩) ?_ ?_
            rotate_left
            ·intro w'
             go_simp
             with_reducible rfl
            rotate_left
            ·simp only [Act.put,List.setIfInBounds_toArray,List.set_cons_zero,List.set_cons_succ,i64_w,i32_w]
             rfl
            refine pure_ (i := 2) (N := some 113) (v := ?_) (a' := ?_) #[true,true,true,false,false,false,false,false,false,false,false,false,false,false,false,false,false,false,false,false,false,false,false,false,false,false,false,false,false,false,false] rfl rfl (any_of HT_.out (by kernel_rfl)) (fun _ _ _ h => h) (Or.inl ⟨by rfl,?_⟩) ?_ ?_
            rotate_left
            ·intro w'
             go_simp
             with_reducible rfl
            rotate_left
            ·simp only [Act.put,List.setIfInBounds_toArray,List.set_cons_zero,List.set_cons_succ,i64_w,i32_w]
             rfl
            refine pure_ (i := 5) (N := some 116) (v := ?_) (a' := ?_) #[true,true,true,false,false,true,false,false,false,false,false,false,false,false,false,false,false,false,false,false,false,false,false,false,false,false,false,false,false,false,false] rfl rfl (any_of HT_.out (by kernel_rfl)) (fun _ _ _ h => h) (Or.inl ⟨by rfl,?_⟩) ?_ ?_
            rotate_left
            ·intro w'
             go_simp
             with_reducible rfl
            rotate_left
            ·simp only [Act.put,List.setIfInBounds_toArray,List.set_cons_zero,List.set_cons_succ,i64_w,i32_w]
             rfl
            refine pure_ (i := 6) (N := some 117) (v := ?_) (a' := ?_) #[true,true,true,false,false,true,true,false,false,false,false,false,false,false,false,false,false,false,false,false,false,false,false,false,false,false,false,false,false,false,false] rfl rfl (any_of HT_.out (by kernel_rfl)) (fun _ _ _ h => h) (Or.inl ⟨by rfl,?_⟩) ?_ ?_
            rotate_left
            ·intro w'
             go_simp
             with_reducible rfl
            rotate_left
            ·simp only [Act.put,List.setIfInBounds_toArray,List.set_cons_zero,List.set_cons_succ,i64_w,i32_w]
             rfl
            refine pure_ (i := 7) (N := some 118) (v := ?_) (a' := ?_) #[true,true,true,false,false,true,true,true,false,false,false,false,false,false,false,false,false,false,false,false,false,false,false,false,false,false,false,false,false,false,false] rfl rfl (any_of HT_.out (by kernel_rfl)) (fun _ _ _ h => h) (Or.inl ⟨by rfl,?_⟩) ?_ ?_
            rotate_left
            ·intro w'
             go_simp
             with_reducible rfl
            rotate_left
            ·simp only [Act.put,List.setIfInBounds_toArray,List.set_cons_zero,List.set_cons_succ,i64_w,i32_w]
             rfl
            refine pure_ (i := 8) (N := some 119) (v := ?_) (a' := ?_) #[true,true,true,false,false,true,true,true,true,false,false,false,false,false,false,false,false,false,false,false,false,false,false,false,false,false,false,false,false,false,false] rfl rfl (any_of HT_.out (by kernel_rfl)) (fun _ _ _ h => h) (Or.inl ⟨by rfl,?_⟩) ?_ ?_
            rotate_left
            ·intro w'
             go_simp
             with_reducible rfl
            rotate_left
            ·simp only [Act.put,List.setIfInBounds_toArray,List.set_cons_zero,List.set_cons_succ,i64_w,i32_w]
             rfl
            refine pure_ (i := 11) (N := some 122) (v := ?_) (a' := ?_) #[true,true,true,false,false,true,true,true,true,false,false,true,false,false,false,false,false,false,false,false,false,false,false,false,false,false,false,false,false,false,false] rfl rfl (any_of HT_.out (by kernel_rfl)) (fun _ _ _ h => h) (Or.inl ⟨by rfl,?_⟩) ?_ ?_
            rotate_left
            ·intro w'
             go_simp
             with_reducible rfl
            rotate_left
            ·simp only [Act.put,List.setIfInBounds_toArray,List.set_cons_zero,List.set_cons_succ,i64_w,i32_w]
             rfl
            refine pure_ (i := 13) (N := some 124) (v := ?_) (a' := ?_) #[true,true,true,false,false,true,true,true,true,false,false,true,false,true,false,false,false,false,false,false,false,false,false,false,false,false,false,false,false,false,false] rfl rfl (any_of HT_.out (by kernel_rfl)) (fun _ _ _ h => h) (Or.inl ⟨by rfl,?_⟩) ?_ ?_
            rotate_left
            ·intro w'
             go_simp
             with_reducible rfl
            rotate_left
            ·simp only [Act.put,List.setIfInBounds_toArray,List.set_cons_zero,List.set_cons_succ,i64_w,i32_w]
             rfl
            refine pure_ (i := 16) (N := some 127) (v := ?_) (a' := ?_) #[true,true,true,false,false,true,true,true,true,false,false,true,false,true,false,false,true,false,false,false,false,false,false,false,false,false,false,false,false,false,false] rfl rfl (any_of HT_.out (by kernel_rfl)) (fun _ _ _ h => h) (Or.inl ⟨by rfl,?_⟩) ?_ ?_
            rotate_left
            ·intro w'
             go_simp
             with_reducible rfl
            rotate_left
            ·simp only [Act.put,List.setIfInBounds_toArray,List.set_cons_zero,List.set_cons_succ,i64_w,i32_w]
             rfl
            refine pure_ (i := 17) (N := some 128) (v := ?_) (a' := ?_) #[true,true,true,false,false,true,true,true,true,false,false,true,false,true,false,false,true,true,false,false,false,false,false,false,false,false,false,false,false,false,false] rfl rfl (any_of HT_.out (by kernel_rfl)) (fun _ _ _ h => h) (Or.inl ⟨by rfl,?_⟩) ?_ ?_
            rotate_left
            ·intro w'
             go_simp
             with_reducible rfl
            rotate_left
            ·simp only [Act.put,List.setIfInBounds_toArray,List.set_cons_zero,List.set_cons_succ,i64_w,i32_w]
             rfl
            refine pure_ (i := 18) (N := some 129) (v := ?_) (a' := ?_) #[true,true,true,false,false,true,true,true,true,false,false,true,false,true,false,false,true,true,true,false,false,false,false,false,false,false,false,false,false,false,false] rfl rfl (any_of HT_.out (by kernel_rfl)) (fun _ _ _ h => h) (Or.inl ⟨by rfl,?_⟩) ?_ ?_
            rotate_left
            ·intro w'
             go_simp
             with_reducible rfl
            rotate_left
            ·simp only [Act.put,List.setIfInBounds_toArray,List.set_cons_zero,List.set_cons_succ,i64_w,i32_w]
             rfl
            refine pure_ (i := 26) (N := some 137) (v := ?_) (a' := ?_) #[true,true,true,false,false,true,true,true,true,false,false,true,false,true,false,false,true,true,true,false,false,false,false,false,false,false,true,false,false,false,false] rfl rfl (any_of HT_.out (by kernel_rfl)) (fun _ _ _ h => h) (Or.inl ⟨by rfl,?_⟩) ?_ ?_
            rotate_left
            ·intro w'
             go_simp
             with_reducible rfl
            rotate_left
            ·simp only [Act.put,List.setIfInBounds_toArray,List.set_cons_zero,List.set_cons_succ,i64_w,i32_w]
             rfl
            refine pure_ (i := 27) (N := some 138) (v := ?_) (a' := ?_) #[true,true,true,false,false,true,true,true,true,false,false,true,false,true,false,false,true,true,true,false,false,false,false,false,false,false,true,true,false,false,false] rfl rfl (any_of HT_.out (by kernel_rfl)) (fun _ _ _ h => h) (Or.inl ⟨by rfl,?_⟩) ?_ ?_
            rotate_left
            ·intro w'
             go_simp
             with_reducible rfl
            rotate_left
            ·simp only [Act.put,List.setIfInBounds_toArray,List.set_cons_zero,List.set_cons_succ,i64_w,i32_w]
             rfl
            refine pure_ (i := 30) (N := some 141) (v := ?_) (a' := ?_) #[true,true,true,false,false,true,true,true,true,false,false,true,false,true,false,false,true,true,true,false,false,false,false,false,false,false,true,true,false,false,true] rfl rfl (any_of HT_.out (by kernel_rfl)) (fun _ _ _ h => h) (Or.inl ⟨by rfl,?_⟩) ?_ ?_
            rotate_left
            ·intro w'
             go_simp
             with_reducible rfl
            rotate_left
            ·simp only [Act.put,List.setIfInBounds_toArray,List.set_cons_zero,List.set_cons_succ,i64_w,i32_w]
             rfl
            refine take_ (i := 3) (N := some 114) (v := ?_) (a' := ?_) #[true,true,true,true,false,true,true,true,true,false,false,true,false,true,false,false,true,true,true,false,false,false,false,false,false,false,true,true,false,false,true] rfl rfl (take_ofW HT_.out HW_.out (by kernel_rfl)) (fun _ _ _ h => h) (Or.inl ⟨by rfl,?_⟩) hHeld ?_ ?_
            rotate_left
            ·rintro w' ⟨s0,s1,s2,s3⟩
             go_simp
             with_reducible rfl
            rotate_left
            ·simp only [Act.put,List.setIfInBounds_toArray,List.set_cons_zero,List.set_cons_succ,i64_w,i32_w]
             rfl
            refine pure_ (i := 4) (N := some 115) (v := ?_) (a' := ?_) #[true,true,true,true,true,true,true,true,true,false,false,true,false,true,false,false,true,true,true,false,false,false,false,false,false,false,true,true,false,false,true] rfl rfl (any_of HT_.out (by kernel_rfl)) (fun _ _ _ h => h) (Or.inl ⟨by rfl,?_⟩) ?_ ?_
            rotate_left
            ·intro w'
             go_simp
             with_reducible rfl
            rotate_left
            ·simp only [Act.put,List.setIfInBounds_toArray,List.set_cons_zero,List.set_cons_succ,i64_w,i32_w]
             rfl
            refine take_ (i := 14) (N := some 125) (v := ?_) (a' := ?_) #[true,true,true,true,true,true,true,true,true,false,false,true,false,true,true,false,true,true,true,false,false,false,false,false,false,false,true,true,false,false,true] rfl rfl (take_ofW HT_.out HW_.out (by kernel_rfl)) (fun _ _ _ h => h) (Or.inl ⟨by rfl,?_⟩) hHeld ?_ ?_
            rotate_left
            ·rintro w' ⟨s0,s1,s2,s3⟩
             go_simp
             with_reducible rfl
            rotate_left
            ·simp only [Act.put,List.setIfInBounds_toArray,List.set_cons_zero,List.set_cons_succ,i64_w,i32_w]
             rfl
            refine one_ (i := 9) (N := some 120) #[true,true,true,true,true,true,true,true,true,true,false,true,false,true,true,false,true,true,true,false,false,false,false,false,false,false,true,true,false,false,true] rfl rfl (one_of HT_.out (by kernel_rfl)) (by decide) (fun K hK => ?_)
            refine goes_ Try.func74 (by kernel_rfl) rfl #[.string a2] (by rfl) rfl rfl (by (try simp only [List.map_toArray,List.map_cons,List.map_nil]);first | done | rfl | (simp only [List.length_drop,List.length_take];rfl)) ?_
            with_reducible refine (qvk.calls k3 a2 t109 _ A59.out).mono ?_
            rintro e w' ⟨rfl,⟨nd,rfl⟩⟩
            refine ⟨_,rfl,?_⟩
            refine hK.out _ _ ⟨(qw BK101.out 0).trans rfl,(qw BK101.out 1).trans rfl,(qw BK101.out 2).trans rfl,(qw BK101.out 3).trans rfl⟩ (fun hHeld => ?_)
            clear hK K
            refine norm_ (a' := ?_) ?_ ?_
            rotate_left
            ·show Act.put _ (some 120) _ = _
             simp only [Act.put,List.setIfInBounds_toArray,List.set_cons_zero,List.set_cons_succ,i64_w,i32_w]
             rfl
            refine pure_ (i := 10) (N := some 121) (v := ?_) (a' := ?_) #[true,true,true,true,true,true,true,true,true,true,true,true,false,true,true,false,true,true,true,false,false,false,false,false,false,false,true,true,false,false,true] rfl rfl (any_of HT_.out (by kernel_rfl)) (fun _ _ _ h => h) (Or.inl ⟨by rfl,?_⟩) ?_ ?_
            rotate_left
            ·intro w'
             go_simp
             with_reducible rfl
            rotate_left
            ·simp only [Act.put,List.setIfInBounds_toArray,List.set_cons_zero,List.set_cons_succ,i64_w,i32_w]
             rfl
            refine one_ (i := 12) (N := some 123) #[true,true,true,true,true,true,true,true,true,true,true,true,true,true,true,false,true,true,true,false,false,false,false,false,false,false,true,true,false,false,true] rfl rfl (one_of HT_.out (by kernel_rfl)) (by decide) (fun K hK => ?_)
            refine goes_ Try.func75 (by kernel_rfl) rfl #[.string a2] (by rfl) rfl rfl (by (try simp only [List.map_toArray,List.map_cons,List.map_nil]);first | done | rfl | (simp only [List.length_drop,List.length_take];rfl)) ?_
            with_reducible refine (qjx.calls a2 t110 _ A60.out).mono ?_
            rintro e w73 ⟨rfl,hb⟩
            refine ⟨_,rfl,?_⟩
            have n0_ := qq.mk (wj (g := gb101) (o := .cells #[.int .i64 a0_0,.int .i64 a0_1,.slice A0_2 l0_2.length c0_2,.int .i64 a0_3] 53 (0,0)) (by (with_reducible repeat (first | refine zz ?_ _ | refine zj ?_ | refine zq ?_ _));exact BK101.out) hb)
            have n1_ := qq.mk (zv (by repeat (first | (with_reducible first | exact HB.out | apply qj | apply qz | apply qk | refine qx ?_ GE101.out) | exact HB.out)) hb)
            clear BK101
            clear HB
            have BK101 := n0_
            have HB := n1_
            clear n0_ n1_
            (try clear hb)
            (try clear hb2)
            (try clear hk)
            (try clear hi)
            refine hK.out _ _ ⟨(qw BK101.out 0).trans rfl,(qw BK101.out 1).trans rfl,(qw BK101.out 2).trans rfl,(qw BK101.out 3).trans rfl⟩ (fun hHeld => ?_)
            clear hK K
            refine norm_ (a' := ?_) ?_ ?_
            rotate_left
            ·show Act.put _ (some 123) _ = _
             simp only [Act.put,List.setIfInBounds_toArray,List.set_cons_zero,List.set_cons_succ,i64_w,i32_w]
             rfl
            refine pure_ (i := 15) (N := some 126) (v := ?_) (a' := ?_) #[true,true,true,true,true,true,true,true,true,true,true,true,true,true,true,true,true,true,true,false,false,false,false,false,false,false,true,true,false,false,true] rfl rfl (any_of HT_.out (by kernel_rfl)) (fun _ _ _ h => h) (Or.inl ⟨by rfl,?_⟩) ?_ ?_
            rotate_left
            ·intro w'
             go_simp
             with_reducible rfl
            rotate_left
            ·simp only [Act.put,List.setIfInBounds_toArray,List.set_cons_zero,List.set_cons_succ,i64_w,i32_w]
             rfl
            refine pure_ (i := 19) (N := some 130) (v := ?_) (a' := ?_) #[true,true,true,true,true,true,true,true,true,true,true,true,true,true,true,true,true,true,true,true,false,false,false,false,false,false,true,true,false,false,true] rfl rfl (any_of HT_.out (by kernel_rfl)) (fun _ _ _ h => h) (Or.inl ⟨by rfl,?_⟩) ?_ ?_
            rotate_left
            ·intro w'
             go_simp
             with_reducible rfl
            rotate_left
            ·simp only [Act.put,List.setIfInBounds_toArray,List.set_cons_zero,List.set_cons_succ,i64_w,i32_w]
             rfl
            refine pure_ (i := 20) (N := some 131) (v := undef) (a' := ?_) #[true,true,true,true,true,true,true,true,true,true,true,true,true,true,true,true,true,true,true,true,true,false,false,false,false,false,true,true,false,false,true] rfl rfl (any_of HT_.out (by kernel_rfl)) (fun _ _ _ h => h) (Or.inr ⟨by rfl,rfl⟩) ?_ ?_
            rotate_left
            ·simp only [Act.put,List.setIfInBounds_toArray,List.set_cons_zero,List.set_cons_succ,i64_w,i32_w]
             rfl
            refine pure_ (i := 21) (N := some 132) (v := undef) (a' := ?_) #[true,true,true,true,true,true,true,true,true,true,true,true,true,true,true,true,true,true,true,true,true,true,false,false,false,false,true,true,false,false,true] rfl rfl (any_of HT_.out (by kernel_rfl)) (fun _ _ _ h => h) (Or.inr ⟨by rfl,rfl⟩) ?_ ?_
            rotate_left
            ·simp only [Act.put,List.setIfInBounds_toArray,List.set_cons_zero,List.set_cons_succ,i64_w,i32_w]
             rfl
            refine pure_ (i := 22) (N := some 133) (v := undef) (a' := ?_) #[true,true,true,true,true,true,true,true,true,true,true,true,true,true,true,true,true,true,true,true,true,true,true,false,false,false,true,true,false,false,true] rfl rfl (any_of HT_.out (by kernel_rfl)) (fun _ _ _ h => h) (Or.inr ⟨by rfl,rfl⟩) ?_ ?_
            rotate_left
            ·simp only [Act.put,List.setIfInBounds_toArray,List.set_cons_zero,List.set_cons_succ,i64_w,i32_w]
             rfl
            refine pure_ (i := 23) (N := some 134) (v := undef) (a' := ?_) #[true,true,true,true,true,true,true,true,true,true,true,true,true,true,true,true,true,true,true,true,true,true,true,true,false,false,true,true,false,false,true] rfl rfl (any_of HT_.out (by kernel_rfl)) (fun _ _ _ h => h) (Or.inr ⟨by rfl,rfl⟩) ?_ ?_
            rotate_left
            ·simp only [Act.put,List.setIfInBounds_toArray,List.set_cons_zero,List.set_cons_succ,i64_w,i32_w]
             rfl
            refine pure_ (i := 24) (N := some 135) (v := undef) (a' := ?_) #[true,true,true,true,true,true,true,true,true,true,true,true,true,true,true,true,true,true,true,true,true,true,true,true,true,false,true,true,false,false,true] rfl rfl (any_of HT_.out (by kernel_rfl)) (fun _ _ _ h => h) (Or.inr ⟨by rfl,rfl⟩) ?_ ?_
            rotate_left
            ·simp only [Act.put,List.setIfInBounds_toArray,List.set_cons_zero,List.set_cons_succ,i64_w,i32_w]
             rfl
            refine pure_ (i := 25) (N := some 136) (v := ?_) (a' := ?_) #[true,true,true,true,true,true,true,true,true,true,true,true,true,true,true,true,true,true,true,true,true,true,true,true,true,true,true,true,false,false,true] rfl rfl (any_of HT_.out (by kernel_rfl)) (fun _ _ _ h => h) (Or.inl ⟨by rfl,?_⟩) ?_ ?_
            rotate_left
            ·intro w'
             go_simp
             with_reducible rfl
            rotate_left
            ·simp only [Act.put,List.setIfInBounds_toArray,List.set_cons_zero,List.set_cons_succ,i64_w,i32_w]
             rfl
            refine one_ (i := 28) (N := some 139) #[true,true,true,true,true,true,true,true,true,true,true,true,true,true,true,true,true,true,true,true,true,true,true,true,true,true,true,true,true,false,true] rfl rfl (one_of HT_.out (by kernel_rfl)) (by decide) (fun K hK => ?_)
            refine Kd.R_lit_step Kd.bool _ 4 ?hg (N := 139) ?hd (xs := ([decide ((a2.size : Int) < a0_0),decide ((a2.size : Int) > 64),!t109,decide (t110 < a0_1),false,x9_2,x12_3] : List Bool)) (inner := [.bool (decide ((a2.size : Int) < a0_0)),.bool (decide ((a2.size : Int) > 64)),.bool (!t109),.bool (decide (t110 < a0_1)),.bool false,.bool x9_2,.bool x12_3]) (ok := fun _ => True) (okp := fun _ => True) ?hr ?hp (fun _ hk => hk) trivial (Below.refl _ _) (Nat.le_refl _) (by simp) ?_;(case hd => rfl);(case hg => rfl);(case hr => first | (go_simp;done) | (go_simp;rfl));(case hp => exact (Reps.one (show Kd.M Kd.bool _ _ _ (decide ((a2.size : Int) < a0_0)) [.bool (decide ((a2.size : Int) < a0_0))] from rfl) (Reps.one (show Kd.M Kd.bool _ _ _ (decide ((a2.size : Int) > 64)) [.bool (decide ((a2.size : Int) > 64))] from rfl) (Reps.one (show Kd.M Kd.bool _ _ _ (!t109) [.bool (!t109)] from rfl) (Reps.one (show Kd.M Kd.bool _ _ _ (decide (t110 < a0_1)) [.bool (decide (t110 < a0_1))] from rfl) (Reps.one (show Kd.M Kd.bool _ _ _ false [.bool false] from rfl) (Reps.one (show Kd.M Kd.bool _ _ _ x9_2 [.bool x9_2] from rfl) (Reps.one (show Kd.M Kd.bool _ _ _ x12_3 [.bool x12_3] from rfl) (Reps.none _ _)))))))))
            intro v118 w74 ho75 hb hg_ hnew_
            clear hg_ hnew_
            (first | rw [← Ny117.out] at ho75 | (simp only [Int.reduceToNat] at ho75;rw [← Ny117.out] at ho75))
            have n0_ := qq.mk (Kd.R_lower ho75 (zw (by repeat (first | (with_reducible first | exact HB.out | apply qj | apply qz | apply qk | refine qx ?_ GE101.out) | exact HB.out))))
            have n1_ := qq.mk (wj (g := gb101) (o := .cells #[.int .i64 a0_0,.int .i64 a0_1,.slice A0_2 l0_2.length c0_2,.int .i64 a0_3] 53 (0,0)) (by (with_reducible repeat (first | refine zz ?_ _ | refine zj ?_ | refine zq ?_ _));exact BK101.out) hb)
            have n2_ := qq.mk (zv (by repeat (first | (with_reducible first | exact HB.out | apply qj | apply qz | apply qk | refine qx ?_ GE101.out) | exact HB.out)) hb)
            clear BK101
            clear HB
            have HO119 := n0_
            have BK101 := n1_
            have HB := n2_
            clear n0_ n1_ n2_
            clear hb ho75
            obtain ⟨Ao76,co76,eo76⟩ := Kd.R_slice HO119.out
            (first | subst eo76 | (injection eo76 with f1_ f2_ f3_;have f4_ := f1_.symm;have f5_ := f3_.symm;clear f1_ f2_ f3_;subst f4_;subst f5_))
            refine hK.out _ _ ⟨(qw BK101.out 0).trans rfl,(qw BK101.out 1).trans rfl,(qw BK101.out 2).trans rfl,(qw BK101.out 3).trans rfl⟩ (fun hHeld => ?_)
            clear hK K
            refine norm_ (a' := ?_) ?_ ?_
            rotate_left
            ·show Act.put _ (some 139) _ = _
             simp only [Act.put,List.setIfInBounds_toArray,List.set_cons_zero,List.set_cons_succ,i64_w,i32_w]
             rfl
            refine pure_ (i := 29) (N := some 140) (v := ?_) (a' := ?_) #[true,true,true,true,true,true,true,true,true,true,true,true,true,true,true,true,true,true,true,true,true,true,true,true,true,true,true,true,true,true,true] rfl rfl (any_of HT_.out (by kernel_rfl)) (fun _ _ _ h => h) (Or.inl ⟨by rfl,?_⟩) ?_ ?_
            rotate_left
            ·intro w'
             go_simp
             with_reducible rfl
            rotate_left
            ·simp only [Act.put,List.setIfInBounds_toArray,List.set_cons_zero,List.set_cons_succ,i64_w,i32_w]
             rfl
            refine done_ (done_of HT_.out (by kernel_rfl)) ?_
            try go_wp2
            go_meet
            case rel => exact ⟨_,(y117),((y117.length : Int)),(0),(by first | rfl | (simp;done) | (simp [*];done)),(by first | rfl | (simp;done) | (simp [*];done)),H',⟨by have := HJ4.out;have := HK2.out;have := HK3.out;first | omega | exact Nat.le_refl _⟩,⟨by first | exact Kd.R_nil _ _ _ _ _ | exact Kd.N_nil _ _ _ _ _ | exact Kd.V_nil _ _ _ _ _ | exact Kd.Q_nil _ _ _ _ _ | exact Kd.S_nil _ _ _ _ _⟩,⟨by (with_reducible repeat (first | apply Kd.jq | apply Kd.zx | apply Kd.jz));exact HO119.out⟩,⟨by (with_reducible repeat (first | refine zz ?_ _ | refine zj ?_ | refine zq ?_ _));exact BK101.out⟩,⟨by repeat (first | (with_reducible first | exact HB.out | apply qj | apply qz | apply qk | refine qx ?_ GE101.out) | exact HB.out)⟩⟩
          case rest =>
           clear HC58
           try clear p2
           try clear c6
           try clear c7
           try clear c61
           try clear c61b0
           try clear c61b1
           try clear c71
           try clear c72
           try clear c74
           try clear c75
           obtain ⟨kq,x139_57,x140_57,x141_57,rfl,rfl,HA,HJ57,HO_15,HO_139,BK101,HB⟩ := hcut
           cases kq with
           | zero => exact absurd HA.out (by simp [qjq.j4])
           | succ kj57 =>
            have H := HA.out
            clear HA
            simp only [qjq.j4] at H
            have H' := qq.mk H
            clear H
            go_wp2
            go_loopg [15,141] kj57 (fun kq v15 v141 w' => ∃ (x15_5 : List Int) (x141_5 : Int),v141 = .int .i64 x141_5 ∧ qq (qjq.l2 kq x15_5 x139_57 x140_57 x141_5 = some r) ∧ qq (kq ≤ kj57) ∧ qq (Kd.R (Kd.int .i64) 3 w' w.heap.size (fun _ => True) v15 x15_5) ∧ qq (Kd.R Kd.bool 4 w' w.heap.size (fun _ => True) u139 x139_57) ∧ qq (w'.heap[gb101]? = some (.cells #[.int .i64 a0_0,.int .i64 a0_1,(.slice A0_2 l0_2.length c0_2),.int .i64 a0_3] 53 (0,0))) ∧ qq (Below w.heap.size w w'))
            case atStart => exact ⟨(([] : List Int)),(x141_57),(by first | rfl | (simp;done) | (simp [*];done)),H',⟨Nat.le_refl _⟩,⟨by (with_reducible repeat (first | apply Kd.jq | apply Kd.zx | apply Kd.jz));exact HO_15.out⟩,⟨by (with_reducible repeat (first | apply Kd.jq | apply Kd.zx | apply Kd.jz));exact HO_139.out⟩,⟨by (with_reducible repeat (first | refine zz ?_ _ | refine zj ?_ | refine zq ?_ _));exact BK101.out⟩,⟨by repeat (first | (with_reducible first | exact HB.out | apply qj | apply qz | apply qk | refine qx ?_ GE101.out) | exact HB.out)⟩⟩
            case round =>
             clear H'
             try clear p2
             try clear c6
             try clear c7
             try clear c61
             try clear c61b0
             try clear c61b1
             try clear c71
             try clear c72
             try clear c74
             try clear c75
             try clear p2
             obtain ⟨x15_5,x141_5,rfl,HA,HK5,HO_15,HO_139,BK101,HB⟩ := hrel
             cases gk with
             | zero => exact absurd HA.out (by simp [qjq.l2])
             | succ k5 =>
              have H := HA.out
              clear HA
              simp only [qjq.l2] at H
              by_cases c77 : x141_5 < x140_57
              ·rw [if_pos c77] at H
               have c77b0 : decide (x141_5 < x140_57) = true := decide_eq_true c77
               clear c77
               by_cases c78 : 0 ≤ x141_5
               ·rw [if_pos c78] at H
                have c78b0 : decide (0 ≤ x141_5) = true := decide_eq_true c78
                clear c78
                by_cases c79 : x141_5 < (x139_57.length : Int)
                ·rw [if_pos c79] at H
                 have c79b0 : decide (x141_5 < (x139_57.length : Int)) = true := decide_eq_true c79
                 clear c79
                 obtain ⟨bq80,hbq80⟩ : ∃ b_ : Bool,b_ = (rdOf false x139_57 x141_5) := ⟨_,rfl⟩
                 replace H : (if bq80 = true then (if x15_5.length < 17592186044416 then (qjq.l2 k5 (x15_5 ++ [wrap64 (1 + x141_5)]) x139_57 x140_57 (wrap64 (x141_5 + 1))) else (none)) else (qjq.l2 k5 x15_5 x139_57 x140_57 (wrap64 (x141_5 + 1)))) = some r := by rw [← hbq80] at H;exact H
                 have Nbq80 := qq.mk hbq80
                 clear hbq80
                 by_cases c81 : bq80 = true
                 ·subst c81
                  have H1 : (if x15_5.length < 17592186044416 then (qjq.l2 k5 (x15_5 ++ [wrap64 (1 + x141_5)]) x139_57 x140_57 (wrap64 (x141_5 + 1))) else (none)) = some r := by rw [if_pos rfl] at H;exact H
                  clear H
                  have H := H1
                  clear H1
                  by_cases c82 : x15_5.length < 17592186044416
                  ·rw [if_pos c82] at H
                   have LMc82 := qq.mk c82
                   clear c82
                   obtain ⟨y121,hy121⟩ : ∃ y_ : List Int,y_ = (x15_5 ++ [wrap64 (1 + x141_5)]) := ⟨_,rfl⟩
                   replace H : (qjq.l2 k5 y121 x139_57 x140_57 (wrap64 (x141_5 + 1))) = some r := by first | (rw [hy121];with_reducible exact H) | (have H2_ := (Option.bind_some _ _).symm.trans H;rw [hy121];with_reducible exact H2_) | (have H2_ := (Option.bind_some _ _).symm.trans H;with_reducible exact H2_) | with_reducible exact H | (rw [hy121];exact H) | exact H
                   have Ny121 := qq.mk hy121
                   clear hy121
                   have H' := qq.mk H
                   clear H
                   obtain ⟨Ao83,co83,eo83⟩ := Kd.R_slice HO_139.out
                   subst eo83
                   have p120 : 0 ≤ (x141_5 : Int) := of_decide_eq_true (by assumption)
                   have q120 : x141_5 < (x139_57.length : Int) := of_decide_eq_true (by assumption)
                   obtain ⟨ad120,e120,hx120_0⟩ := Kd.at_bool (Kd.R_reads' HO_139.out).2.2 x141_5 p120 q120
                   (try rw [← Nbq80.out] at hx120_0)
                   cases e120
                   replace p120 := eq_true p120
                   replace q120 := eq_true q120
                   go_wp2_with (first | ((with_reducible refine gate_builtin (b := .append) (xs := #[.tmp 147,.tmp 150]) rfl ?_);(try (refine gate_guard (by rfl) ?_;dsimp only));at_builtin;refine Kd.R_append (Kd.int .i64) (w0 := w) w.heap.size rfl (.tmp 147) (.tmp 150) 51 3 (.int .i64 0) 8 rfl Try.underlying51 info3 rfl (by decide) (by omega) u15 x15_5 (wrap64 (1 + x141_5)) [.int .i64 (wrap64 (1 + x141_5))] (fun _ => True) (fun _ => False) rfl rfl ?aP (fun _ hk => hk.elim) ?aF ?aO ?aB ?aS ?aL ?_;(case aP => exact rfl);(case aB => exact (by repeat (first | (with_reducible first | exact HB.out | apply qj | apply qz | apply qk | refine qx ?_ GE101.out) | exact HB.out)));(case aF => exact (fun _ _ => trivial));(case aO => exact (by (with_reducible repeat (first | apply Kd.jq | apply Kd.zx | apply Kd.jz));exact HO_15.out));(case aS => exact (zw (by repeat (first | (with_reducible first | exact HB.out | apply qj | apply qz | apply qk | refine qx ?_ GE101.out) | exact HB.out))));(case aL => have := LMc82.out;omega);intro v122 w84 ho hb hg hat;rw [← Ny121.out] at ho;have n0_ := qq.mk (Kd.R_over' (by (with_reducible repeat (first | apply Kd.jq | apply Kd.zx | apply Kd.jz));exact HO_139.out) (Kd.R_typed (by (with_reducible repeat (first | apply Kd.jq | apply Kd.zx | apply Kd.jz));exact HO_15.out)) (by decide) hg);have n1_ := qq.mk (blk_grown (g := gb101) (o := .cells #[.int .i64 a0_0,.int .i64 a0_1,.slice A0_2 l0_2.length c0_2,.int .i64 a0_3] 53 (0,0)) (by (with_reducible repeat (first | refine zz ?_ _ | refine zj ?_ | refine zq ?_ _));exact BK101.out) hg (Kd.R_ne HO_15.out BK101.out (by decide)));have n2_ := qq.mk (hb);have n3_ := qq.mk (ho);clear HO_139;clear BK101;clear HB;clear HO_15;have HO_139 := n0_;have BK101 := n1_;have HB := n2_;have HO123 := n3_;clear n0_ n1_ n2_ n3_;clear ho hb hg hat))
                   go_roundg k5
                   case measure => have := HJ4.out;have := HK2.out;have := HK3.out;have := HJ57.out;have := HK5.out;omega
                   case rel => exact ⟨(y121),(wrap64 (x141_5 + 1)),(by first | rfl | (simp;done) | (simp [*];done)),H',⟨by have := HJ4.out;have := HK2.out;have := HK3.out;have := HJ57.out;have := HK5.out;omega⟩,⟨by (with_reducible repeat (first | apply Kd.jq | apply Kd.zx | apply Kd.jz));exact HO123.out⟩,⟨by (with_reducible repeat (first | apply Kd.jq | apply Kd.zx | apply Kd.jz));exact HO_139.out⟩,⟨by (with_reducible repeat (first | refine zz ?_ _ | refine zj ?_ | refine zq ?_ _));exact BK101.out⟩,⟨by repeat (first | (with_reducible first | exact HB.out | apply qj | apply qz | apply qk | refine qx ?_ GE101.out) | exact HB.out)⟩⟩
                  ·rw [if_neg c82] at H
                   exact absurd H (by simp)
                 ·replace c81 := Bool.eq_false_iff.mpr c81
                  subst c81
                  have H1 : (qjq.l2 k5 x15_5 x139_57 x140_57 (wrap64 (x141_5 + 1))) = some r := by rw [if_neg (show ¬ (false = true) by decide)] at H;exact H
                  clear H
                  have H := H1
                  clear H1
                  have H' := qq.mk H
                  clear H
                  obtain ⟨Ao85,co85,eo85⟩ := Kd.R_slice HO_139.out
                  subst eo85
                  have p120 : 0 ≤ (x141_5 : Int) := of_decide_eq_true (by assumption)
                  have q120 : x141_5 < (x139_57.length : Int) := of_decide_eq_true (by assumption)
                  obtain ⟨ad120,e120,hx120_0⟩ := Kd.at_bool (Kd.R_reads' HO_139.out).2.2 x141_5 p120 q120
                  (try rw [← Nbq80.out] at hx120_0)
                  cases e120
                  replace p120 := eq_true p120
                  replace q120 := eq_true q120
                  go_wp2
                  go_roundg k5
                  case measure => have := HJ4.out;have := HK2.out;have := HK3.out;have := HJ57.out;have := HK5.out;omega
                  case rel => exact ⟨(x15_5),(wrap64 (x141_5 + 1)),(by first | rfl | (simp;done) | (simp [*];done)),H',⟨by have := HJ4.out;have := HK2.out;have := HK3.out;have := HJ57.out;have := HK5.out;omega⟩,⟨by (with_reducible repeat (first | apply Kd.jq | apply Kd.zx | apply Kd.jz));exact HO_15.out⟩,⟨by (with_reducible repeat (first | apply Kd.jq | apply Kd.zx | apply Kd.jz));exact HO_139.out⟩,⟨by (with_reducible repeat (first | refine zz ?_ _ | refine zj ?_ | refine zq ?_ _));exact BK101.out⟩,⟨by repeat (first | (with_reducible first | exact HB.out | apply qj | apply qz | apply qk | refine qx ?_ GE101.out) | exact HB.out)⟩⟩
                ·rw [if_neg c79] at H
                 exact absurd H (by simp)
               ·rw [if_neg c78] at H
                exact absurd H (by simp)
              ·rw [if_neg c77] at H
               have c77b0 : decide (x141_5 < x140_57) = false := decide_eq_false c77
               clear c77
               obtain rfl := Option.some.inj H
               go_wp2
               go_ret
               exact ⟨_,by first | rfl | (simp [*,kz,jx] <;> rfl),by (with_reducible repeat (first | apply Kd.jq | apply Kd.zx | apply Kd.jz));exact HO_15.out,by repeat (first | (with_reducible first | exact HB.out | apply qj | apply qz | apply qk | refine qx ?_ GE101.out) | exact HB.out)⟩
end Go.Proofs.Ytgolcojhnklfdaa.Pr
namespace Go.Proofs.Ytgolcojhnklfdaa.Pr
open Go.RowKit Go.Proofs.YtgolcojhnklfdaaW.PrintWords Go.Proofs.YtgolcojhnklfdaaW.PrintLast Go.Proofs.YtgolcojhnklfdaaW.PrintMore
attribute [local go_sem] max2_int min2_int max_two min_two max_three min_three max_four min_four
set_option linter.unusedVariables false
set_option linter.unusedSimpArgs false
def qzj.l0 : Nat → List Int → List Int → Int → Int → Option (Bool)
 | 0,_,_,_,_ => none
 | k + 1,x0,x1,x12,x13 => if x13 < x12 then (if 0 ≤ x13 then (if x13 < (x0.length : Int) then (if x13 < (x1.length : Int) then (if (rd x0 x13) = (rd x1 x13) then (qzj.l0 k x0 x1 x12 (wrap64 (x13 + 1))) else (some false)) else (none)) else (none)) else (none)) else (some true)
def qzj.f (k : Nat) (l0 : List Int) (l1 : List Int) : Option (Bool) := if (l0.length : Int) = (l1.length : Int) then (qzj.l0 k l0 l1 (l0.length : Int) 0) else (some false)
set_option maxHeartbeats 8000000 in
set_option maxRecDepth 100000 in
theorem qzj.calls (k : Nat) (A0 : Option Addr) (c0 : Nat) (l0 : List Int) (A1 : Option Addr) (c1 : Nat) (l1 : List Int) (r : Bool) (w : World) (hr0 : Kd.C (Kd.int .i64) w A0 l0.length l0) (hc0 : l0.length ≤ c0) (hr1 : Kd.C (Kd.int .i64) w A1 l1.length l1) (hc1 : l1.length ≤ c1) (h : qzj.f k l0 l1 = some r) :
  Calls Try.prog 36 #[.slice A0 l0.length c0,.slice A1 l1.length c1] w fun e w' => e = .returned (.bool r) ∧ Drawn0 w w' := by
 have HR0 := qq.mk hr0
 have HC0 := qq.mk hc0
 clear hr0 hc0
 have HR1 := qq.mk hr1
 have HC1 := qq.mk hc1
 clear hr1 hc1
 have H : (if (l0.length : Int) = (l1.length : Int) then (qzj.l0 k l0 l1 (l0.length : Int) 0) else (some false)) = some r := h
 clear h
 by_cases c3 : (l0.length : Int) = (l1.length : Int)
 ·rw [if_pos c3] at H
  have c3b0 : ((l0.length : Int) == (l1.length : Int)) = true := beq_iff_eq.mpr c3
  have c3b1 : ((l0.length : Int) != (l1.length : Int)) = false := bne_eq_false_iff_eq.mpr c3
  have c3b2 : (l0.length == l1.length) = true := by first | simpa using c3 | (simp at c3 ⊢;omega)
  clear c3
  have H' := qq.mk H
  clear H
  go_enter Try.func36,Try.ntmps36
  go_wp2
  repeat (go_quiet (fail);try go_wp2)
  go_loopg [13] k (fun kq v13 w' => ∃ (x13_1 : Int),v13 = .int .i64 x13_1 ∧ qq (qzj.l0 kq l0 l1 (l0.length : Int) x13_1 = some r) ∧ qq (kq ≤ k) ∧ Drawn0 w w')
  case atStart => exact ⟨(0),(by first | rfl | (simp;done) | (simp [*];done)),H',⟨Nat.le_refl _⟩,by repeat (first | exact Drawn0.refl _ | apply Drawn0.step)⟩
  case round =>
   clear H'
   try clear c1
   try clear p2
   try clear c3
   try clear c3b0
   try clear c3b1
   try clear c3b2
   obtain ⟨x13_1,rfl,HA,HK1,⟨m1,rfl⟩⟩ := hrel
   cases gk with
   | zero => exact absurd HA.out (by simp [qzj.l0])
   | succ k1 =>
    have H := HA.out
    clear HA
    simp only [qzj.l0] at H
    by_cases c4 : x13_1 < (l0.length : Int)
    ·rw [if_pos c4] at H
     have c4b0 : decide (x13_1 < (l0.length : Int)) = true := decide_eq_true c4
     clear c4
     by_cases c5 : 0 ≤ x13_1
     ·rw [if_pos c5] at H
      have c5b0 : decide (0 ≤ x13_1) = true := decide_eq_true c5
      clear c5
      by_cases c6 : x13_1 < (l0.length : Int)
      ·rw [if_pos c6] at H
       have c6b0 : decide (x13_1 < (l0.length : Int)) = true := decide_eq_true c6
       clear c6
       by_cases c7 : x13_1 < (l1.length : Int)
       ·rw [if_pos c7] at H
        have c7b0 : decide (x13_1 < (l1.length : Int)) = true := decide_eq_true c7
        clear c7
        by_cases c8 : (rd l0 x13_1) = (rd l1 x13_1)
        ·rw [if_pos c8] at H
         have c8b0 : ((rd l0 x13_1) == (rd l1 x13_1)) = true := beq_iff_eq.mpr c8
         have c8b1 : ((rd l0 x13_1) != (rd l1 x13_1)) = false := bne_eq_false_iff_eq.mpr c8
         clear c8
         have H' := qq.mk H
         clear H
         have p101 : 0 ≤ (x13_1 : Int) := of_decide_eq_true (by assumption)
         have q101 : x13_1 < (l0.length : Int) := of_decide_eq_true (by assumption)
         obtain ⟨ad101,e101,hx101_0⟩ := Kd.at_int HR0.out x13_1 p101 q101
         cases e101
         replace p101 := eq_true p101
         replace q101 := eq_true q101
         have p102 : 0 ≤ (x13_1 : Int) := of_decide_eq_true (by assumption)
         have q102 : x13_1 < (l1.length : Int) := of_decide_eq_true (by assumption)
         obtain ⟨ad102,e102,hx102_0⟩ := Kd.at_int HR1.out x13_1 p102 q102
         cases e102
         replace p102 := eq_true p102
         replace q102 := eq_true q102
         go_wp2
         repeat (go_quiet (fail);try go_wp2)
         go_roundg k1
         case measure => have := HK1.out;omega
         case rel => exact ⟨(wrap64 (x13_1 + 1)),(by first | rfl | (simp;done) | (simp [*];done)),H',⟨by have := HK1.out;omega⟩,by repeat (first | exact Drawn0.refl _ | apply Drawn0.step)⟩
        ·rw [if_neg c8] at H
         have c8b0 : ((rd l0 x13_1) == (rd l1 x13_1)) = false := beq_eq_false_iff_ne.mpr c8
         have c8b1 : ((rd l0 x13_1) != (rd l1 x13_1)) = true := bne_iff_ne.mpr c8
         obtain rfl := Option.some.inj H
         have p101 : 0 ≤ (x13_1 : Int) := of_decide_eq_true (by assumption)
         have q101 : x13_1 < (l0.length : Int) := of_decide_eq_true (by assumption)
         obtain ⟨ad101,e101,hx101_0⟩ := Kd.at_int HR0.out x13_1 p101 q101
         cases e101
         replace p101 := eq_true p101
         replace q101 := eq_true q101
         have p102 : 0 ≤ (x13_1 : Int) := of_decide_eq_true (by assumption)
         have q102 : x13_1 < (l1.length : Int) := of_decide_eq_true (by assumption)
         obtain ⟨ad102,e102,hx102_0⟩ := Kd.at_int HR1.out x13_1 p102 q102
         cases e102
         replace p102 := eq_true p102
         replace q102 := eq_true q102
         go_wp2
         repeat (go_quiet (fail);try go_wp2)
         go_ret
         exact ⟨by first | rfl | (simp;done) | (simp [*];done),by repeat (first | exact Drawn0.refl _ | apply Drawn0.step)⟩
       ·rw [if_neg c7] at H
        exact absurd H (by simp)
      ·rw [if_neg c6] at H
       exact absurd H (by simp)
     ·rw [if_neg c5] at H
      exact absurd H (by simp)
    ·rw [if_neg c4] at H
     have c4b0 : decide (x13_1 < (l0.length : Int)) = false := decide_eq_false c4
     clear c4
     obtain rfl := Option.some.inj H
     go_wp2
     repeat (go_quiet (fail);try go_wp2)
     go_ret
     exact ⟨by first | rfl | (simp;done) | (simp [*];done),by repeat (first | exact Drawn0.refl _ | apply Drawn0.step)⟩
 ·rw [if_neg c3] at H
  have c3b0 : ((l0.length : Int) == (l1.length : Int)) = false := beq_eq_false_iff_ne.mpr c3
  have c3b1 : ((l0.length : Int) != (l1.length : Int)) = true := bne_iff_ne.mpr c3
  have c3b2 : (l0.length == l1.length) = false := by first | simpa using c3 | (simp at c3 ⊢;omega)
  obtain rfl := Option.some.inj H
  go_enter Try.func36,Try.ntmps36
  go_wp2
  repeat (go_quiet (fail);try go_wp2)
  go_ret
  exact ⟨by first | rfl | (simp;done) | (simp [*];done),by repeat (first | exact Drawn0.refl _ | apply Drawn0.step)⟩
end Go.Proofs.Ytgolcojhnklfdaa.Pr
namespace Go.Proofs.Ytgolcojhnklfdaa.Pr
open Go.RowKit Go.Proofs.YtgolcojhnklfdaaW.PrintWords Go.Proofs.YtgolcojhnklfdaaW.PrintLast Go.Proofs.YtgolcojhnklfdaaW.PrintMore
attribute [local go_sem] max2_int min2_int max_two min_two max_three min_three max_four min_four
set_option linter.unusedVariables false
set_option linter.unusedSimpArgs false
def ww (w0 W : World) (g : Nat) (f0 : List Int) (f1 : Int) (f2 : Int) : Prop := ∃ A0 c0,W.heap[g]? = some (.cells #[.slice A0 f0.length c0,.int .i64 f1,.int .u64 f2] 119 (0,0)) ∧ w0.heap.size ≤ g ∧ Kd.C (Kd.int .u8) w0 A0 f0.length f0
theorem ww.grown {w0 W : World} {g : Nat} {f0 : List Int} {f1 : Int} {f2 : Int} {W1 : World} {row : Option Nat} (h : ww w0 W g f0 f1 f2) (hw : W.grownBy W1 row) (hne : some g ≠ row) : ww w0 W1 g f0 f1 f2 := by
 obtain ⟨A0,c0,hb,hg,hr0⟩ := h
 exact ⟨A0,c0,blk_grown hb hw hne,hg,hr0⟩
theorem ww.fresh {w0 W : World} {g : Nat} {f0 : List Int} {f1 : Int} {f2 : Int} (h : ww w0 W g f0 f1 f2) : ∀ k,W.heap.size ≤ k → k ≠ g := by
 obtain ⟨A0,c0,hb,hg,hr0⟩ := h
 exact Kd.freshB hb
theorem ww.kept {w0 W : World} {g : Nat} {f0 : List Int} {f1 : Int} {f2 : Int} {W1 : World} {S : Nat → Prop} (h : ww w0 W g f0 f1 f2) (hk : kw W W1 S) (hne : ¬ S g) : ww w0 W1 g f0 f1 f2 := by
 obtain ⟨A0,c0,hb,hg,hr0⟩ := h
 exact ⟨A0,c0,blk_kept hb hk hne,hg,hr0⟩
theorem ww.below {w0 W : World} {g : Nat} {f0 : List Int} {f1 : Int} {f2 : Int} {W1 : World} (h : ww w0 W g f0 f1 f2) (hw : Below W.heap.size W W1) : ww w0 W1 g f0 f1 f2 := h.grown (grown_of_below hw none) (by simp)
theorem ww.alloc {w0 W : World} {g : Nat} {f0 : List Int} {f1 : Int} {f2 : Int} (h : ww w0 W g f0 f1 f2) (o : Obj) : ww w0 (W.alloc o) g f0 f1 f2 := h.below (qj (Below.refl _ _) o)
theorem ww.drewN {w0 W : World} {g : Nat} {f0 : List Int} {f1 : Int} {f2 : Int} (h : ww w0 W g f0 f1 f2) (m : Nat) : ww w0 (W.drewN m) g f0 f1 f2 := h
theorem ww.drew {w0 W : World} {g : Nat} {f0 : List Int} {f1 : Int} {f2 : Int} (h : ww w0 W g f0 f1 f2) : ww w0 W.drew g f0 f1 f2 := h
theorem ww.at_ {w0 W : World} {g : Nat} {f0 : List Int} {f1 : Int} {f2 : Int} {w' : World} {m : Nat} (hq : W.drewN m = w') (h : ww w0 W g f0 f1 f2) : ww w0 w' g f0 f1 f2 := by subst hq;exact ww.drewN h m
theorem ww.apart {w0 W : World} {g : Nat} {f0 : List Int} {f1 : Int} {f2 : Int} {α : Type} {d : Kd α} {e : Nat} {base : Nat} {ok : Nat → Prop} {v : Value} {xs : List α} (h : ww w0 W g f0 f1 f2) (ho : d.R e W base ok v xs) (ht : ∀ q,q ∈ e :: d.E → q ≠ 119) : d.R e W base (fun k => ok k ∧ k ≠ g) v xs := by
 obtain ⟨A0,c0,hb,hg,hr0⟩ := h
 exact Kd.R_types ho hb ht
theorem ww.own_ne {w0 W : World} {g : Nat} {f0 : List Int} {f1 : Int} {f2 : Int} {α : Type} {d : Kd α} {e : Nat} {base : Nat} {ok : Nat → Prop} {v : Value} {xs : List α} (h : ww w0 W g f0 f1 f2) (ho : d.R e W base ok v xs) (ht : e ≠ 119) : some g ≠ v.ownBlock := by
 obtain ⟨A0,c0,hb,hg,hr0⟩ := h
 exact Kd.R_ne ho hb ht
theorem ww.apartS {w0 W : World} {g : Nat} {f0 : List Int} {f1 : Int} {f2 : Int} {α : Type} {d : Kd α} {e : Nat} {base : Nat} {ok : Nat → Prop} {v : Value} {xs : List α} (h : ww w0 W g f0 f1 f2) (ho : d.S e W base ok v xs) (ht : ∀ q,q ∈ e :: d.E → q ≠ 119) : d.S e W base (fun k => ok k ∧ k ≠ g) v xs := by
 obtain ⟨A0,c0,hb,hg,hr0⟩ := h
 exact Kd.S_types ho hb ht
theorem ww.own_neS {w0 W : World} {g : Nat} {f0 : List Int} {f1 : Int} {f2 : Int} {α : Type} {d : Kd α} {e : Nat} {base : Nat} {ok : Nat → Prop} {v : Value} {xs : List α} (h : ww w0 W g f0 f1 f2) (ho : d.S e W base ok v xs) (ht : e ≠ 119) : some g ≠ v.ownBlock := by
 obtain ⟨A0,c0,hb,hg,hr0⟩ := h
 exact Kd.S_ne ho hb ht
theorem ww.lt {w0 W : World} {g : Nat} {f0 : List Int} {f1 : Int} {f2 : Int} (h : ww w0 W g f0 f1 f2) : g < W.heap.size := by
 obtain ⟨A0,c0,hb,hg,hr0⟩ := h
 exact blk_lt hb
theorem ww.ge {w0 W : World} {g : Nat} {f0 : List Int} {f1 : Int} {f2 : Int} (h : ww w0 W g f0 f1 f2) : w0.heap.size ≤ g := by
 obtain ⟨A0,c0,hb,hg,hr0⟩ := h
 exact hg
theorem ww.ne_blk {w0 W : World} {g : Nat} {f0 : List Int} {f1 : Int} {f2 : Int} {a : Nat} {cs : Array Value} {t : TypeId} {fr : Nat × Nat} (h : ww w0 W g f0 f1 f2) (hb2 : W.heap[a]? = some (.cells cs t fr)) (ht : t ≠ 119) : g ≠ a := by
 obtain ⟨A0,c0,hb,hg,hr0⟩ := h
 rintro rfl
 rw [hb] at hb2
 injection hb2 with hb2
 injection hb2 with _ ht2
 exact ht ht2.symm
theorem ww.far {w0 W : World} {g : Nat} {f0 : List Int} {f1 : Int} {f2 : Int} {p : Addr} (h : ww w0 W g f0 f1 f2) (hne : g ≠ p.block) (u : Value) : ww w0 (W.setCell p u) g f0 f1 f2 := by
 obtain ⟨A0,c0,hb,hg,hr0⟩ := h
 exact ⟨A0,c0,blk_far hb hne u,hg,hr0⟩
theorem cellS119_0 {W : World} {g : Nat} {A0 : Option Addr} {c0 : Nat} {f0 : List Int} {f1 : Int} {f2 : Int} (h : W.heap[g]? = some (.cells #[.slice A0 f0.length c0,.int .i64 f1,.int .u64 f2] 119 (0,0))) : W.cell? ⟨g,0,none⟩ = some (.slice A0 f0.length c0) := (qw h 0).trans rfl
theorem cellS119_1 {W : World} {g : Nat} {A0 : Option Addr} {c0 : Nat} {f0 : List Int} {f1 : Int} {f2 : Int} (h : W.heap[g]? = some (.cells #[.slice A0 f0.length c0,.int .i64 f1,.int .u64 f2] 119 (0,0))) : W.cell? ⟨g,1,none⟩ = some (.int .i64 f1) := (qw h 1).trans rfl
theorem ww.set_1 {w0 W : World} {g : Nat} {f0 : List Int} {f1 : Int} {f2 : Int} (h : ww w0 W g f0 f1 f2) (x : Int) : ww w0 (W.setCell ⟨g,1,none⟩ (.int .i64 x)) g f0 x f2 := by
 obtain ⟨A0,c0,hb,hg,hr0⟩ := h
 exact ⟨A0,c0,by simpa using blk_set hb 1 (.int .i64 x),hg,hr0⟩
theorem cellS119_2 {W : World} {g : Nat} {A0 : Option Addr} {c0 : Nat} {f0 : List Int} {f1 : Int} {f2 : Int} (h : W.heap[g]? = some (.cells #[.slice A0 f0.length c0,.int .i64 f1,.int .u64 f2] 119 (0,0))) : W.cell? ⟨g,2,none⟩ = some (.int .u64 f2) := (qw h 2).trans rfl
theorem ww.set_2 {w0 W : World} {g : Nat} {f0 : List Int} {f1 : Int} {f2 : Int} (h : ww w0 W g f0 f1 f2) (x : Int) : ww w0 (W.setCell ⟨g,2,none⟩ (.int .u64 x)) g f0 f1 x := by
 obtain ⟨A0,c0,hb,hg,hr0⟩ := h
 exact ⟨A0,c0,by simpa using blk_set hb 2 (.int .u64 x),hg,hr0⟩
theorem ww.new (w0 W : World) (A0 : Option Addr) (c0 : Nat) (f0 : List Int) (f1 : Int) (f2 : Int) (hB : Below w0.heap.size w0 W) (hr0 : Kd.C (Kd.int .u8) w0 A0 f0.length f0) : ww w0 (W.alloc (.cells #[.slice A0 f0.length c0,.int .i64 f1,.int .u64 f2] 119)) W.heap.size f0 f1 f2 := ⟨A0,c0,by simpa using heap_alloc_new W _,hB.size,hr0⟩
def newCur.f (l0_0 : List Int) (a0_1 : Int) (a0_2 : Int) : Option (List Int × Int × Int) := some (l0_0,a0_1,a0_2)
set_option maxHeartbeats 8000000 in
set_option maxRecDepth 100000 in
theorem newCur.calls (A0_0 : Option Addr) (c0_0 : Nat) (l0_0 : List Int) (a0_1 : Int) (a0_2 : Int) (r1 : List Int) (r2 : Int) (r3 : Int) (w0 w : World) (hB : Below w0.heap.size w0 w) (hr0_0 : Kd.C (Kd.int .u8) w0 A0_0 l0_0.length l0_0) (hc0_0 : l0_0.length ≤ c0_0) (h : newCur.f l0_0 a0_1 a0_2 = some (r1,r2,r3)) :
  BoxCalls 119 #[.slice A0_0 l0_0.length c0_0,.int .i64 a0_1,.int .u64 a0_2] w fun e w' => ∃ g_ : Nat,e = .returned (.pointer (some ⟨g_,0,none⟩)) ∧ ww w0 w' g_ r1 r2 r3 ∧ Below w0.heap.size w0 w' ∧ Below w.heap.size w w' := by
 unfold newCur.f at h
 simp only [Option.some.injEq,Prod.mk.injEq] at h
 obtain ⟨rfl,rfl,rfl⟩ := h
 exact ⟨_,rfl,ww.new w0 w A0_0 c0_0 l0_0 a0_1 a0_2 hB hr0_0,hB.alloc hB.size _,qj (Below.refl _ _) _⟩
end Go.Proofs.Ytgolcojhnklfdaa.Pr
namespace Go.Proofs.Ytgolcojhnklfdaa.Pr
open Go.RowKit Go.Proofs.YtgolcojhnklfdaaW.PrintWords Go.Proofs.YtgolcojhnklfdaaW.PrintLast Go.Proofs.YtgolcojhnklfdaaW.PrintMore
attribute [local go_sem] max2_int min2_int max_two min_two max_three min_three max_four min_four
set_option linter.unusedVariables false
set_option linter.unusedSimpArgs false
def qkj.f (s0_0 : List Int) (s0_1 : Int) (s0_2 : Int) : Option (Int × Int × Int) := if s0_1 < (s0_0.length : Int) then (if 0 ≤ s0_1 then (if (wrap64 (s0_1 + 1)) ≤ (s0_0.length : Int) then (some (wrap64 (rd s0_0 s0_1),wrap64 (s0_1 + 1),IntKind.u64.wrap ((IntKind.u64.wrap ((IntKind.u64.wrap (s0_2 * 6364136223846793005)) + (IntKind.u64.wrap (wrap64 (rd s0_0 s0_1))))) + 1442695040888963407))) else (some (wrap64 (Go.bits .and .u64 ((IntKind.u64.wrap ((IntKind.u64.wrap ((IntKind.u64.wrap (s0_2 * 6364136223846793005)) + (IntKind.u64.wrap (wrap64 (rd s0_0 s0_1))))) + 1442695040888963407)) / 1099511627776) 255),wrap64 (s0_1 + 1),IntKind.u64.wrap ((IntKind.u64.wrap ((IntKind.u64.wrap (s0_2 * 6364136223846793005)) + (IntKind.u64.wrap (wrap64 (rd s0_0 s0_1))))) + 1442695040888963407)))) else (none)) else (if (wrap64 (s0_1 + 1)) ≤ (s0_0.length : Int) then (some (0,wrap64 (s0_1 + 1),IntKind.u64.wrap ((IntKind.u64.wrap (IntKind.u64.wrap (s0_2 * 6364136223846793005))) + 1442695040888963407))) else (some (wrap64 (Go.bits .and .u64 ((IntKind.u64.wrap ((IntKind.u64.wrap (IntKind.u64.wrap (s0_2 * 6364136223846793005))) + 1442695040888963407)) / 1099511627776) 255),wrap64 (s0_1 + 1),IntKind.u64.wrap ((IntKind.u64.wrap (IntKind.u64.wrap (s0_2 * 6364136223846793005))) + 1442695040888963407))))
set_option maxHeartbeats 8000000 in
set_option maxRecDepth 100000 in
theorem qkj.calls (g : Nat) (s0_0 : List Int) (s0_1 : Int) (s0_2 : Int) (r1 : Int) (r2 : Int) (r3 : Int) (w0 w : World) (hI : ww w0 w g s0_0 s0_1 s0_2) (hB : Below w0.heap.size w0 w) (h : qkj.f s0_0 s0_1 s0_2 = some (r1,r2,r3)) :
  Calls Try.prog 130 #[.pointer (some ⟨g,0,none⟩)] w fun e w' => e = .returned (.int .i64 r1) ∧ ww w0 w' g s0_0 r2 r3 ∧ Below w0.heap.size w0 w' ∧ zk w w' g none := by
 have HI0 := qq.mk hI
 have HK := qq.mk (zk.refl w g none)
 have HL := qq.mk hB.size
 clear hI
 have HW0 := qq.mk hB.size
 have HB := qq.mk hB
 clear hB
 have H : (if s0_1 < (s0_0.length : Int) then (if 0 ≤ s0_1 then (if (wrap64 (s0_1 + 1)) ≤ (s0_0.length : Int) then (some (wrap64 (rd s0_0 s0_1),wrap64 (s0_1 + 1),IntKind.u64.wrap ((IntKind.u64.wrap ((IntKind.u64.wrap (s0_2 * 6364136223846793005)) + (IntKind.u64.wrap (wrap64 (rd s0_0 s0_1))))) + 1442695040888963407))) else (some (wrap64 (Go.bits .and .u64 ((IntKind.u64.wrap ((IntKind.u64.wrap ((IntKind.u64.wrap (s0_2 * 6364136223846793005)) + (IntKind.u64.wrap (wrap64 (rd s0_0 s0_1))))) + 1442695040888963407)) / 1099511627776) 255),wrap64 (s0_1 + 1),IntKind.u64.wrap ((IntKind.u64.wrap ((IntKind.u64.wrap (s0_2 * 6364136223846793005)) + (IntKind.u64.wrap (wrap64 (rd s0_0 s0_1))))) + 1442695040888963407)))) else (none)) else (if (wrap64 (s0_1 + 1)) ≤ (s0_0.length : Int) then (some (0,wrap64 (s0_1 + 1),IntKind.u64.wrap ((IntKind.u64.wrap (IntKind.u64.wrap (s0_2 * 6364136223846793005))) + 1442695040888963407))) else (some (wrap64 (Go.bits .and .u64 ((IntKind.u64.wrap ((IntKind.u64.wrap (IntKind.u64.wrap (s0_2 * 6364136223846793005))) + 1442695040888963407)) / 1099511627776) 255),wrap64 (s0_1 + 1),IntKind.u64.wrap ((IntKind.u64.wrap (IntKind.u64.wrap (s0_2 * 6364136223846793005))) + 1442695040888963407))))) = some (r1,r2,r3) := h
 clear h
 by_cases c2 : s0_1 < (s0_0.length : Int)
 ·rw [if_pos c2] at H
  have c2b0 : decide (s0_1 < (s0_0.length : Int)) = true := decide_eq_true c2
  clear c2
  by_cases c3 : 0 ≤ s0_1
  ·rw [if_pos c3] at H
   have c3b0 : decide (0 ≤ s0_1) = true := decide_eq_true c3
   clear c3
   by_cases c4 : (wrap64 (s0_1 + 1)) ≤ (s0_0.length : Int)
   ·rw [if_pos c4] at H
    have c4b0 : decide ((wrap64 (s0_1 + 1)) ≤ (s0_0.length : Int)) = true := decide_eq_true c4
    clear c4
    simp only [Option.some.injEq,Prod.mk.injEq] at H
    obtain ⟨rfl,rfl,rfl⟩ := H
    obtain ⟨ASz5_0,cSz5_0,HGz5,hgz5,HSz5_0⟩ := HI0.out
    have hcz5_0 := cellS119_0 HGz5
    have hcz5_1 := cellS119_1 HGz5
    have hcz5_2 := cellS119_2 HGz5
    have hfz5_1 := qv HGz5 1
    have hfz5_2 := qv HGz5 2
    clear HGz5 hgz5
    have p101 : 0 ≤ (s0_1 : Int) := of_decide_eq_true (by assumption)
    have q101 : s0_1 < (s0_0.length : Int) := of_decide_eq_true (by assumption)
    obtain ⟨ad101,e101,hx101_0⟩ := Kd.at_int HSz5_0 s0_1 p101 q101
    cases e101
    replace hx101_0 := pw_cell_below HB.out hx101_0
    replace p101 := eq_true p101
    replace q101 := eq_true q101
    go_enter Try.func130,Try.ntmps130
    go_wp2
    repeat (go_quiet (fail);try go_wp2)
    go_ret
    exact ⟨by first | rfl | (simp [*,kz,jx] <;> rfl),by repeat (first | (with_reducible first | exact HI0.out | apply ww.alloc | apply ww.drewN | apply ww.drew | apply ww.set_1 | apply ww.set_2) | exact HI0.out),by repeat (first | (with_reducible first | exact HB.out | apply qj | apply qz | apply qk | refine qx ?_ (ww.ge HI0.out)) | exact HB.out),by repeat (first | (with_reducible first | exact HK.out | apply zk.set_ | apply jj | apply jv | apply jk) | exact HK.out)⟩
   ·rw [if_neg c4] at H
    have c4b0 : decide ((wrap64 (s0_1 + 1)) ≤ (s0_0.length : Int)) = false := decide_eq_false c4
    clear c4
    simp only [Option.some.injEq,Prod.mk.injEq] at H
    obtain ⟨rfl,rfl,rfl⟩ := H
    obtain ⟨ASz6_0,cSz6_0,HGz6,hgz6,HSz6_0⟩ := HI0.out
    have hcz6_0 := cellS119_0 HGz6
    have hcz6_1 := cellS119_1 HGz6
    have hcz6_2 := cellS119_2 HGz6
    have hfz6_1 := qv HGz6 1
    have hfz6_2 := qv HGz6 2
    clear HGz6 hgz6
    have p101 : 0 ≤ (s0_1 : Int) := of_decide_eq_true (by assumption)
    have q101 : s0_1 < (s0_0.length : Int) := of_decide_eq_true (by assumption)
    obtain ⟨ad101,e101,hx101_0⟩ := Kd.at_int HSz6_0 s0_1 p101 q101
    cases e101
    replace hx101_0 := pw_cell_below HB.out hx101_0
    replace p101 := eq_true p101
    replace q101 := eq_true q101
    go_enter Try.func130,Try.ntmps130
    go_wp2
    repeat (go_quiet (fail);try go_wp2)
    go_ret
    exact ⟨by first | rfl | (simp [*,kz,jx] <;> rfl),by repeat (first | (with_reducible first | exact HI0.out | apply ww.alloc | apply ww.drewN | apply ww.drew | apply ww.set_1 | apply ww.set_2) | exact HI0.out),by repeat (first | (with_reducible first | exact HB.out | apply qj | apply qz | apply qk | refine qx ?_ (ww.ge HI0.out)) | exact HB.out),by repeat (first | (with_reducible first | exact HK.out | apply zk.set_ | apply jj | apply jv | apply jk) | exact HK.out)⟩
  ·rw [if_neg c3] at H
   exact absurd H (by simp)
 ·rw [if_neg c2] at H
  have c2b0 : decide (s0_1 < (s0_0.length : Int)) = false := decide_eq_false c2
  clear c2
  by_cases c7 : (wrap64 (s0_1 + 1)) ≤ (s0_0.length : Int)
  ·rw [if_pos c7] at H
   have c7b0 : decide ((wrap64 (s0_1 + 1)) ≤ (s0_0.length : Int)) = true := decide_eq_true c7
   clear c7
   simp only [Option.some.injEq,Prod.mk.injEq] at H
   obtain ⟨rfl,rfl,rfl⟩ := H
   obtain ⟨ASz8_0,cSz8_0,HGz8,hgz8,HSz8_0⟩ := HI0.out
   have hcz8_0 := cellS119_0 HGz8
   have hcz8_1 := cellS119_1 HGz8
   have hcz8_2 := cellS119_2 HGz8
   have hfz8_1 := qv HGz8 1
   have hfz8_2 := qv HGz8 2
   clear HGz8 hgz8
   go_enter Try.func130,Try.ntmps130
   go_wp2
   repeat (go_quiet (fail);try go_wp2)
   go_ret
   exact ⟨by first | rfl | (simp [*,kz,jx] <;> rfl),by repeat (first | (with_reducible first | exact HI0.out | apply ww.alloc | apply ww.drewN | apply ww.drew | apply ww.set_1 | apply ww.set_2) | exact HI0.out),by repeat (first | (with_reducible first | exact HB.out | apply qj | apply qz | apply qk | refine qx ?_ (ww.ge HI0.out)) | exact HB.out),by repeat (first | (with_reducible first | exact HK.out | apply zk.set_ | apply jj | apply jv | apply jk) | exact HK.out)⟩
  ·rw [if_neg c7] at H
   have c7b0 : decide ((wrap64 (s0_1 + 1)) ≤ (s0_0.length : Int)) = false := decide_eq_false c7
   clear c7
   simp only [Option.some.injEq,Prod.mk.injEq] at H
   obtain ⟨rfl,rfl,rfl⟩ := H
   obtain ⟨ASz9_0,cSz9_0,HGz9,hgz9,HSz9_0⟩ := HI0.out
   have hcz9_0 := cellS119_0 HGz9
   have hcz9_1 := cellS119_1 HGz9
   have hcz9_2 := cellS119_2 HGz9
   have hfz9_1 := qv HGz9 1
   have hfz9_2 := qv HGz9 2
   clear HGz9 hgz9
   go_enter Try.func130,Try.ntmps130
   go_wp2
   repeat (go_quiet (fail);try go_wp2)
   go_ret
   exact ⟨by first | rfl | (simp [*,kz,jx] <;> rfl),by repeat (first | (with_reducible first | exact HI0.out | apply ww.alloc | apply ww.drewN | apply ww.drew | apply ww.set_1 | apply ww.set_2) | exact HI0.out),by repeat (first | (with_reducible first | exact HB.out | apply qj | apply qz | apply qk | refine qx ?_ (ww.ge HI0.out)) | exact HB.out),by repeat (first | (with_reducible first | exact HK.out | apply zk.set_ | apply jj | apply jv | apply jk) | exact HK.out)⟩
end Go.Proofs.Ytgolcojhnklfdaa.Pr
namespace Go.Proofs.Ytgolcojhnklfdaa.Pr
open Go.RowKit Go.Proofs.YtgolcojhnklfdaaW.PrintWords Go.Proofs.YtgolcojhnklfdaaW.PrintLast Go.Proofs.YtgolcojhnklfdaaW.PrintMore
attribute [local go_sem] max2_int min2_int max_two min_two max_three min_three max_four min_four
set_option linter.unusedVariables false
set_option linter.unusedSimpArgs false
def qkx.f (s0_0 : List Int) (s0_1 : Int) (s0_2 : Int) (a1 : Int) : Option (Int × Int × Int) := if a1 ≤ 1 then (some (0,s0_1,s0_2)) else ((qkj.f s0_0 s0_1 s0_2).bind fun bt101 => (if a1 > 200 then ((qkj.f s0_0 bt101.2.1 bt101.2.2).bind fun bt104 => (if a1 = 0 then (none) else (some (Int.tmod (wrap64 ((wrap64 (bt101.1 * 256)) + bt104.1)) a1,bt104.2.1,bt104.2.2)))) else (if a1 = 0 then (none) else (some (Int.tmod bt101.1 a1,bt101.2.1,bt101.2.2)))))
set_option maxHeartbeats 8000000 in
set_option maxRecDepth 100000 in
theorem qkx.calls (g : Nat) (s0_0 : List Int) (s0_1 : Int) (s0_2 : Int) (a1 : Int) (r1 : Int) (r2 : Int) (r3 : Int) (w0 w : World) (hI : ww w0 w g s0_0 s0_1 s0_2) (hB : Below w0.heap.size w0 w) (h : qkx.f s0_0 s0_1 s0_2 a1 = some (r1,r2,r3)) :
  Calls Try.prog 88 #[.pointer (some ⟨g,0,none⟩),.int .i64 a1] w fun e w' => e = .returned (.int .i64 r1) ∧ ww w0 w' g s0_0 r2 r3 ∧ Below w0.heap.size w0 w' ∧ zk w w' g none := by
 have HI0 := qq.mk hI
 have HK := qq.mk (zk.refl w g none)
 have HL := qq.mk hB.size
 clear hI
 have HW0 := qq.mk hB.size
 have HB := qq.mk hB
 clear hB
 have H : (if a1 ≤ 1 then (some (0,s0_1,s0_2)) else ((qkj.f s0_0 s0_1 s0_2).bind fun bt101 => (if a1 > 200 then ((qkj.f s0_0 bt101.2.1 bt101.2.2).bind fun bt104 => (if a1 = 0 then (none) else (some (Int.tmod (wrap64 ((wrap64 (bt101.1 * 256)) + bt104.1)) a1,bt104.2.1,bt104.2.2)))) else (if a1 = 0 then (none) else (some (Int.tmod bt101.1 a1,bt101.2.1,bt101.2.2)))))) = some (r1,r2,r3) := h
 clear h
 by_cases c3 : a1 ≤ 1
 ·rw [if_pos c3] at H
  have c3b0 : decide (a1 ≤ 1) = true := decide_eq_true c3
  clear c3
  simp only [Option.some.injEq,Prod.mk.injEq] at H
  obtain ⟨rfl,rfl,rfl⟩ := H
  go_enter Try.func88,Try.ntmps88
  go_wp2
  go_ret
  exact ⟨by first | rfl | (simp [*,kz,jx] <;> rfl),by repeat (first | (with_reducible first | exact HI0.out | apply ww.alloc | apply ww.drewN | apply ww.drew | apply ww.set_1 | apply ww.set_2) | exact HI0.out),by repeat (first | (with_reducible first | exact HB.out | apply qj | apply qz | apply qk | refine qx ?_ (ww.ge HI0.out)) | exact HB.out),by repeat (first | (with_reducible first | exact HK.out | apply zk.set_ | apply jj | apply jv | apply jk) | exact HK.out)⟩
 ·rw [if_neg c3] at H
  have c3b0 : decide (a1 ≤ 1) = false := decide_eq_false c3
  clear c3
  replace H := Option.bind_eq_some_iff.mp H
  obtain ⟨⟨t101,t102,t103⟩,A40,H⟩ := H
  replace H : (if a1 > 200 then ((qkj.f s0_0 t102 t103).bind fun bt104 => (if a1 = 0 then (none) else (some (Int.tmod (wrap64 ((wrap64 (t101 * 256)) + bt104.1)) a1,bt104.2.1,bt104.2.2)))) else (if a1 = 0 then (none) else (some (Int.tmod t101 a1,t102,t103)))) = some (r1,r2,r3) := H
  have A4 := qq.mk A40
  clear A40
  by_cases c5 : a1 > 200
  ·rw [if_pos c5] at H
   have c5b0 : decide (200 < a1) = true := decide_eq_true c5
   clear c5
   replace H := Option.bind_eq_some_iff.mp H
   obtain ⟨⟨t104,t105,t106⟩,A60,H⟩ := H
   replace H : (if a1 = 0 then (none) else (some (Int.tmod (wrap64 ((wrap64 (t101 * 256)) + t104)) a1,t105,t106))) = some (r1,r2,r3) := H
   have A6 := qq.mk A60
   clear A60
   by_cases c7 : a1 = 0
   ·rw [if_pos c7] at H
    exact absurd H (by simp)
   ·rw [if_neg c7] at H
    have c7b0 : (a1 == 0) = false := beq_eq_false_iff_ne.mpr c7
    have c7b1 : (a1 != 0) = true := bne_iff_ne.mpr c7
    simp only [Option.some.injEq,Prod.mk.injEq] at H
    obtain ⟨rfl,rfl,rfl⟩ := H
    go_enter Try.func88,Try.ntmps88
    go_wp2_with (first | ((with_reducible refine kj (f := 130) rfl ?_);refine goesL_ (some 9) rfl rfl Try.func130 (by kernel_rfl) rfl #[.pointer (some ⟨g,0,none⟩)] rfl (by (try simp only [List.map_toArray,List.map_cons,List.map_nil]);first | done | rfl | (simp only [List.length_drop,List.length_take];rfl)) ?_;(with_reducible refine (qkj.calls g s0_0 s0_1 s0_2 t101 t102 t103 w0 _ ?side1 ?side2 A4.out).mono ?_);(case side1 => repeat (first | (with_reducible first | exact HI0.out | apply ww.alloc | apply ww.drewN | apply ww.drew | apply ww.set_1 | apply ww.set_2) | exact HI0.out));(case side2 => repeat (first | (with_reducible first | exact HB.out | apply qj | apply qz | apply qk | refine qx ?_ (ww.ge HI0.out)) | exact HB.out));rintro e w8 ⟨rfl,hi,hb,hk⟩;refine ⟨_,rfl,?_⟩;have n0_ := qq.mk (zk.trans (by repeat (first | (with_reducible first | exact HK.out | apply zk.set_ | apply jj | apply jv | apply jk) | exact HK.out)) hk (.inl rfl));have n1_ := qq.mk (hb);have n2_ := qq.mk (hi);clear HK;clear HB;clear HI0;have HK := n0_;have HB := n1_;have HI0 := n2_;clear n0_ n1_ n2_;(try clear hb);(try clear hb2);(try clear hk);(try clear hi)) | ((with_reducible refine kj (f := 130) rfl ?_);refine goesL_ (some 15) rfl rfl Try.func130 (by kernel_rfl) rfl #[.pointer (some ⟨g,0,none⟩)] rfl (by (try simp only [List.map_toArray,List.map_cons,List.map_nil]);first | done | rfl | (simp only [List.length_drop,List.length_take];rfl)) ?_;(with_reducible refine (qkj.calls g s0_0 t102 t103 t104 t105 t106 w0 _ ?side1 ?side2 A6.out).mono ?_);(case side1 => repeat (first | (with_reducible first | exact HI0.out | apply ww.alloc | apply ww.drewN | apply ww.drew | apply ww.set_1 | apply ww.set_2) | exact HI0.out));(case side2 => repeat (first | (with_reducible first | exact HB.out | apply qj | apply qz | apply qk | refine qx ?_ (ww.ge HI0.out)) | exact HB.out));rintro e w9 ⟨rfl,hi,hb,hk⟩;refine ⟨_,rfl,?_⟩;have n0_ := qq.mk (zk.trans (by repeat (first | (with_reducible first | exact HK.out | apply zk.set_ | apply jj | apply jv | apply jk) | exact HK.out)) hk (.inl rfl));have n1_ := qq.mk (hb);have n2_ := qq.mk (hi);clear HK;clear HB;clear HI0;have HK := n0_;have HB := n1_;have HI0 := n2_;clear n0_ n1_ n2_;(try clear hb);(try clear hb2);(try clear hk);(try clear hi)))
    go_ret
    exact ⟨by first | rfl | (simp [*,kz,jx] <;> rfl),by repeat (first | (with_reducible first | exact HI0.out | apply ww.alloc | apply ww.drewN | apply ww.drew | apply ww.set_1 | apply ww.set_2) | exact HI0.out),by repeat (first | (with_reducible first | exact HB.out | apply qj | apply qz | apply qk | refine qx ?_ (ww.ge HI0.out)) | exact HB.out),by repeat (first | (with_reducible first | exact HK.out | apply zk.set_ | apply jj | apply jv | apply jk) | exact HK.out)⟩
  ·rw [if_neg c5] at H
   have c5b0 : decide (200 < a1) = false := decide_eq_false c5
   clear c5
   by_cases c10 : a1 = 0
   ·rw [if_pos c10] at H
    exact absurd H (by simp)
   ·rw [if_neg c10] at H
    have c10b0 : (a1 == 0) = false := beq_eq_false_iff_ne.mpr c10
    have c10b1 : (a1 != 0) = true := bne_iff_ne.mpr c10
    simp only [Option.some.injEq,Prod.mk.injEq] at H
    obtain ⟨rfl,rfl,rfl⟩ := H
    go_enter Try.func88,Try.ntmps88
    go_wp2_with (first | ((with_reducible refine kj (f := 130) rfl ?_);refine goesL_ (some 9) rfl rfl Try.func130 (by kernel_rfl) rfl #[.pointer (some ⟨g,0,none⟩)] rfl (by (try simp only [List.map_toArray,List.map_cons,List.map_nil]);first | done | rfl | (simp only [List.length_drop,List.length_take];rfl)) ?_;(with_reducible refine (qkj.calls g s0_0 s0_1 s0_2 t101 t102 t103 w0 _ ?side1 ?side2 A4.out).mono ?_);(case side1 => repeat (first | (with_reducible first | exact HI0.out | apply ww.alloc | apply ww.drewN | apply ww.drew | apply ww.set_1 | apply ww.set_2) | exact HI0.out));(case side2 => repeat (first | (with_reducible first | exact HB.out | apply qj | apply qz | apply qk | refine qx ?_ (ww.ge HI0.out)) | exact HB.out));rintro e w11 ⟨rfl,hi,hb,hk⟩;refine ⟨_,rfl,?_⟩;have n0_ := qq.mk (zk.trans (by repeat (first | (with_reducible first | exact HK.out | apply zk.set_ | apply jj | apply jv | apply jk) | exact HK.out)) hk (.inl rfl));have n1_ := qq.mk (hb);have n2_ := qq.mk (hi);clear HK;clear HB;clear HI0;have HK := n0_;have HB := n1_;have HI0 := n2_;clear n0_ n1_ n2_;(try clear hb);(try clear hb2);(try clear hk);(try clear hi)))
    go_ret
    exact ⟨by first | rfl | (simp [*,kz,jx] <;> rfl),by repeat (first | (with_reducible first | exact HI0.out | apply ww.alloc | apply ww.drewN | apply ww.drew | apply ww.set_1 | apply ww.set_2) | exact HI0.out),by repeat (first | (with_reducible first | exact HB.out | apply qj | apply qz | apply qk | refine qx ?_ (ww.ge HI0.out)) | exact HB.out),by repeat (first | (with_reducible first | exact HK.out | apply zk.set_ | apply jj | apply jv | apply jk) | exact HK.out)⟩
end Go.Proofs.Ytgolcojhnklfdaa.Pr
namespace Go.Proofs.Ytgolcojhnklfdaa.Pr
open Go.RowKit Go.Proofs.YtgolcojhnklfdaaW.PrintWords Go.Proofs.YtgolcojhnklfdaaW.PrintLast Go.Proofs.YtgolcojhnklfdaaW.PrintMore
attribute [local go_sem] max2_int min2_int max_two min_two max_three min_three max_four min_four
set_option linter.unusedVariables false
set_option linter.unusedSimpArgs false
def qkk.f (s0_0 : List Int) (s0_1 : Int) (s0_2 : Int) (l1 : List ByteArray) : Option (ByteArray × Int × Int) := (qkx.f s0_0 s0_1 s0_2 (l1.length : Int)).bind fun bt101 => (if 0 ≤ bt101.1 then (if bt101.1 < (l1.length : Int) then (some (rdOf ByteArray.empty l1 bt101.1,bt101.2.1,bt101.2.2)) else (none)) else (none))
set_option maxHeartbeats 8000000 in
set_option maxRecDepth 100000 in
theorem qkk.calls (g : Nat) (s0_0 : List Int) (s0_1 : Int) (s0_2 : Int) (A1 : Option Addr) (c1 : Nat) (l1 : List ByteArray) (r1 : ByteArray) (r2 : Int) (r3 : Int) (w0 w : World) (hI : ww w0 w g s0_0 s0_1 s0_2) (hB : Below w0.heap.size w0 w) (hr1 : Kd.C Kd.string w A1 l1.length l1) (hc1 : l1.length ≤ c1) (hf1 : ∀ ad,A1 = some ad → 0 < l1.length → ad.block ≠ g) (h : qkk.f s0_0 s0_1 s0_2 l1 = some (r1,r2,r3)) :
  Calls Try.prog 93 #[.pointer (some ⟨g,0,none⟩),.slice A1 l1.length c1] w fun e w' => e = .returned (.string r1) ∧ ww w0 w' g s0_0 r2 r3 ∧ Below w0.heap.size w0 w' ∧ zk w w' g none := by
 have HR1 := qq.mk hr1
 have HC1 := qq.mk hc1
 clear hr1 hc1
 have HI0 := qq.mk hI
 have HK := qq.mk (zk.refl w g none)
 have HL := qq.mk hB.size
 clear hI
 have HW0 := qq.mk hB.size
 have HB := qq.mk hB
 clear hB
 have H : ((qkx.f s0_0 s0_1 s0_2 (l1.length : Int)).bind fun bt101 => (if 0 ≤ bt101.1 then (if bt101.1 < (l1.length : Int) then (some (rdOf ByteArray.empty l1 bt101.1,bt101.2.1,bt101.2.2)) else (none)) else (none))) = some (r1,r2,r3) := h
 clear h
 replace H := Option.bind_eq_some_iff.mp H
 obtain ⟨⟨t101,t102,t103⟩,A30,H⟩ := H
 replace H : (if 0 ≤ t101 then (if t101 < (l1.length : Int) then (some (rdOf ByteArray.empty l1 t101,t102,t103)) else (none)) else (none)) = some (r1,r2,r3) := H
 have A3 := qq.mk A30
 clear A30
 by_cases c4 : 0 ≤ t101
 ·rw [if_pos c4] at H
  have c4b0 : decide (0 ≤ t101) = true := decide_eq_true c4
  clear c4
  by_cases c5 : t101 < (l1.length : Int)
  ·rw [if_pos c5] at H
   have c5b0 : decide (t101 < (l1.length : Int)) = true := decide_eq_true c5
   clear c5
   simp only [Option.some.injEq,Prod.mk.injEq] at H
   obtain ⟨rfl,rfl,rfl⟩ := H
   go_enter Try.func93,Try.ntmps93
   go_wp2_with (first | ((with_reducible refine kj (f := 88) rfl ?_);refine goesL_ (some 9) rfl rfl Try.func88 (by kernel_rfl) rfl #[.pointer (some ⟨g,0,none⟩),.int .i64 (l1.length : Int)] rfl (by (try simp only [List.map_toArray,List.map_cons,List.map_nil]);first | done | rfl | (simp only [List.length_drop,List.length_take];rfl)) ?_;(with_reducible refine (qkx.calls g s0_0 s0_1 s0_2 (l1.length : Int) t101 t102 t103 w0 _ ?side1 ?side2 A3.out).mono ?_);(case side1 => repeat (first | (with_reducible first | exact HI0.out | apply ww.alloc | apply ww.drewN | apply ww.drew | apply ww.set_1 | apply ww.set_2) | exact HI0.out));(case side2 => repeat (first | (with_reducible first | exact HB.out | apply qj | apply qz | apply qk | refine qx ?_ (ww.ge HI0.out)) | exact HB.out));rintro e w6 ⟨rfl,hi,hb,hk⟩;refine ⟨_,rfl,?_⟩;have n0_ := qq.mk (zk.trans (by repeat (first | (with_reducible first | exact HK.out | apply zk.set_ | apply jj | apply jv | apply jk) | exact HK.out)) hk (.inl rfl));have n1_ := qq.mk (hb);have n2_ := qq.mk (hi);clear HK;clear HB;clear HI0;have HK := n0_;have HB := n1_;have HI0 := n2_;clear n0_ n1_ n2_;(try clear hb);(try clear hb2);(try clear hk);(try clear hi);have p104 : 0 ≤ (t101 : Int) := of_decide_eq_true (by assumption);have q104 : t101 < (l1.length : Int) := of_decide_eq_true (by assumption);obtain ⟨ad104,e104,hx104_0⟩ := Kd.at_string HR1.out t101 p104 q104;cases e104;replace hx104_0 := keep_cell HK.out hx104_0 (by first | (rw [add_block];exact hf1 _ rfl (by omega)) | exact hf1 _ rfl (by omega) | exact hf1 ad104 rfl (by omega));replace p104 := eq_true p104;replace q104 := eq_true q104))
   go_ret
   exact ⟨by first | rfl | (simp [*,kz,jx] <;> rfl),by repeat (first | (with_reducible first | exact HI0.out | apply ww.alloc | apply ww.drewN | apply ww.drew | apply ww.set_1 | apply ww.set_2) | exact HI0.out),by repeat (first | (with_reducible first | exact HB.out | apply qj | apply qz | apply qk | refine qx ?_ (ww.ge HI0.out)) | exact HB.out),by repeat (first | (with_reducible first | exact HK.out | apply zk.set_ | apply jj | apply jv | apply jk) | exact HK.out)⟩
  ·rw [if_neg c5] at H
   exact absurd H (by simp)
 ·rw [if_neg c4] at H
  exact absurd H (by simp)
end Go.Proofs.Ytgolcojhnklfdaa.Pr
namespace Go.Proofs.Ytgolcojhnklfdaa.Pr
open Go.RowKit Go.Proofs.YtgolcojhnklfdaaW.PrintWords Go.Proofs.YtgolcojhnklfdaaW.PrintLast Go.Proofs.YtgolcojhnklfdaaW.PrintMore
attribute [local go_sem] max2_int min2_int max_two min_two max_three min_three max_four min_four
set_option linter.unusedVariables false
set_option linter.unusedSimpArgs false
def qkw.f (s0_0 : List Int) (s0_1 : Int) (s0_2 : Int) : Option (ByteArray × Int × Int) := (qkk.f s0_0 s0_1 s0_2 (([(⟨#[]⟩ : ByteArray),(⟨#[97,110,110,49]⟩ : ByteArray),(⟨#[83,101,99,114,101,116,45,55]⟩ : ByteArray),(⟨#[99,111,114,114,101,99,116,32,104,111,114,115,101]⟩ : ByteArray),(⟨#[65,78,78,65,39,115,32,112,97,115,115]⟩ : ByteArray),(⟨#[97,9,98]⟩ : ByteArray),(⟨#[112,97,115,115,119,48,114,100,33]⟩ : ByteArray),(⟨#[120,121]⟩ : ByteArray)] : List ByteArray))).bind fun bt104 => (some (bt104.1,bt104.2.1,bt104.2.2))
set_option maxHeartbeats 8000000 in
set_option maxRecDepth 100000 in
theorem qkw.calls (g : Nat) (s0_0 : List Int) (s0_1 : Int) (s0_2 : Int) (r1 : ByteArray) (r2 : Int) (r3 : Int) (w0 w : World) (hI : ww w0 w g s0_0 s0_1 s0_2) (hB : Below w0.heap.size w0 w) (h : qkw.f s0_0 s0_1 s0_2 = some (r1,r2,r3)) :
  Calls Try.prog 101 #[.pointer (some ⟨g,0,none⟩)] w fun e w' => e = .returned (.string r1) ∧ ww w0 w' g s0_0 r2 r3 ∧ Below w0.heap.size w0 w' ∧ zk w w' g none := by
 have HI0 := qq.mk hI
 have HK := qq.mk (zk.refl w g none)
 have HL := qq.mk hB.size
 clear hI
 have HW0 := qq.mk hB.size
 have HB := qq.mk hB
 clear hB
 have H : ((qkk.f s0_0 s0_1 s0_2 (([(⟨#[]⟩ : ByteArray),(⟨#[97,110,110,49]⟩ : ByteArray),(⟨#[83,101,99,114,101,116,45,55]⟩ : ByteArray),(⟨#[99,111,114,114,101,99,116,32,104,111,114,115,101]⟩ : ByteArray),(⟨#[65,78,78,65,39,115,32,112,97,115,115]⟩ : ByteArray),(⟨#[97,9,98]⟩ : ByteArray),(⟨#[112,97,115,115,119,48,114,100,33]⟩ : ByteArray),(⟨#[120,121]⟩ : ByteArray)] : List ByteArray))).bind fun bt104 => (some (bt104.1,bt104.2.1,bt104.2.2))) = some (r1,r2,r3) := h
 clear h
 obtain ⟨y101,hy101⟩ : ∃ y_ : List ByteArray,y_ = (([(⟨#[]⟩ : ByteArray),(⟨#[97,110,110,49]⟩ : ByteArray),(⟨#[83,101,99,114,101,116,45,55]⟩ : ByteArray),(⟨#[99,111,114,114,101,99,116,32,104,111,114,115,101]⟩ : ByteArray),(⟨#[65,78,78,65,39,115,32,112,97,115,115]⟩ : ByteArray),(⟨#[97,9,98]⟩ : ByteArray),(⟨#[112,97,115,115,119,48,114,100,33]⟩ : ByteArray),(⟨#[120,121]⟩ : ByteArray)] : List ByteArray)) := ⟨_,rfl⟩
 replace H : ((qkk.f s0_0 s0_1 s0_2 y101).bind fun bt104 => (some (bt104.1,bt104.2.1,bt104.2.2))) = some (r1,r2,r3) := by first | (rw [hy101];with_reducible exact H) | (have H2_ := (Option.bind_some _ _).symm.trans H;rw [hy101];with_reducible exact H2_) | (have H2_ := (Option.bind_some _ _).symm.trans H;with_reducible exact H2_) | with_reducible exact H | (rw [hy101];exact H) | exact H
 have Ny101 := qq.mk hy101
 clear hy101
 replace H := Option.bind_eq_some_iff.mp H
 obtain ⟨⟨t104,t105,t106⟩,A20,H⟩ := H
 replace H : (some (t104,t105,t106)) = some (r1,r2,r3) := H
 have A2 := qq.mk A20
 clear A20
 simp only [Option.some.injEq,Prod.mk.injEq] at H
 obtain ⟨rfl,rfl,rfl⟩ := H
 go_enter Try.func101,Try.ntmps101
 go_wp2_with (first | ((with_reducible refine gate_dst (N := 4) rfl ?_);refine Kd.R_lit Kd.string _ 9 ?hg (N := 4) ?hd (xs := ([(⟨#[]⟩ : ByteArray),(⟨#[97,110,110,49]⟩ : ByteArray),(⟨#[83,101,99,114,101,116,45,55]⟩ : ByteArray),(⟨#[99,111,114,114,101,99,116,32,104,111,114,115,101]⟩ : ByteArray),(⟨#[65,78,78,65,39,115,32,112,97,115,115]⟩ : ByteArray),(⟨#[97,9,98]⟩ : ByteArray),(⟨#[112,97,115,115,119,48,114,100,33]⟩ : ByteArray),(⟨#[120,121]⟩ : ByteArray)] : List ByteArray)) (inner := [.string (⟨#[]⟩ : ByteArray),.string (⟨#[97,110,110,49]⟩ : ByteArray),.string (⟨#[83,101,99,114,101,116,45,55]⟩ : ByteArray),.string (⟨#[99,111,114,114,101,99,116,32,104,111,114,115,101]⟩ : ByteArray),.string (⟨#[65,78,78,65,39,115,32,112,97,115,115]⟩ : ByteArray),.string (⟨#[97,9,98]⟩ : ByteArray),.string (⟨#[112,97,115,115,119,48,114,100,33]⟩ : ByteArray),.string (⟨#[120,121]⟩ : ByteArray)]) (ok := fun _ => True) (okp := fun _ => True) ?hr ?hp (fun _ hk => hk) trivial (Below.refl _ _) (Nat.le_refl _) (by simp) ?_;(case hd => rfl);(case hg => rfl);(case hr => first | (go_simp;done) | (go_simp;rfl));(case hp => exact (Reps.one (show Kd.M Kd.string _ _ _ (⟨#[]⟩ : ByteArray) [.string (⟨#[]⟩ : ByteArray)] from rfl) (Reps.one (show Kd.M Kd.string _ _ _ (⟨#[97,110,110,49]⟩ : ByteArray) [.string (⟨#[97,110,110,49]⟩ : ByteArray)] from rfl) (Reps.one (show Kd.M Kd.string _ _ _ (⟨#[83,101,99,114,101,116,45,55]⟩ : ByteArray) [.string (⟨#[83,101,99,114,101,116,45,55]⟩ : ByteArray)] from rfl) (Reps.one (show Kd.M Kd.string _ _ _ (⟨#[99,111,114,114,101,99,116,32,104,111,114,115,101]⟩ : ByteArray) [.string (⟨#[99,111,114,114,101,99,116,32,104,111,114,115,101]⟩ : ByteArray)] from rfl) (Reps.one (show Kd.M Kd.string _ _ _ (⟨#[65,78,78,65,39,115,32,112,97,115,115]⟩ : ByteArray) [.string (⟨#[65,78,78,65,39,115,32,112,97,115,115]⟩ : ByteArray)] from rfl) (Reps.one (show Kd.M Kd.string _ _ _ (⟨#[97,9,98]⟩ : ByteArray) [.string (⟨#[97,9,98]⟩ : ByteArray)] from rfl) (Reps.one (show Kd.M Kd.string _ _ _ (⟨#[112,97,115,115,119,48,114,100,33]⟩ : ByteArray) [.string (⟨#[112,97,115,115,119,48,114,100,33]⟩ : ByteArray)] from rfl) (Reps.one (show Kd.M Kd.string _ _ _ (⟨#[120,121]⟩ : ByteArray) [.string (⟨#[120,121]⟩ : ByteArray)] from rfl) (Reps.none _ _))))))))));intro v102 w3 ho4 hb hg_ hnew_;clear hg_ hnew_;(first | rw [← Ny101.out] at ho4 | (simp only [Int.reduceToNat] at ho4;rw [← Ny101.out] at ho4));have n0_ := qq.mk (Kd.R_lower ho4 (keep_size (w := w) (g := g) (row := none) (by repeat (first | (with_reducible first | exact HK.out | apply zk.set_ | apply jj | apply jv | apply jk) | exact HK.out))));have n1_ := qq.mk (ww.below (by repeat (first | (with_reducible first | exact HI0.out | apply ww.alloc | apply ww.drewN | apply ww.drew | apply ww.set_1 | apply ww.set_2) | exact HI0.out)) hb);have n2_ := qq.mk (zk.trans (by repeat (first | (with_reducible first | exact HK.out | apply zk.set_ | apply jj | apply jv | apply jk) | exact HK.out)) (zk.of_below hb g none) (.inl rfl));have n3_ := qq.mk (zv (by repeat (first | (with_reducible first | exact HB.out | apply qj | apply qz | apply qk | refine qx ?_ (ww.ge HI0.out)) | exact HB.out)) hb);clear HI0;clear HK;clear HB;have HO103 := n0_;have HI0 := n1_;have HK := n2_;have HB := n3_;clear n0_ n1_ n2_ n3_;clear hb ho4;obtain ⟨Ao5,co5,eo5⟩ := Kd.R_slice HO103.out;subst eo5) | ((with_reducible refine kj (f := 93) rfl ?_);refine goesL_ (some 5) rfl rfl Try.func93 (by kernel_rfl) rfl #[.pointer (some ⟨g,0,none⟩),.slice Ao5 y101.length co5] rfl (by (try simp only [List.map_toArray,List.map_cons,List.map_nil]);first | done | rfl | (simp only [List.length_drop,List.length_take];rfl)) ?_;(with_reducible refine (qkk.calls g s0_0 s0_1 s0_2 _ _ y101 t104 t105 t106 w0 _ ?side1 ?side2 ?side3 ?side4 ?side5 A2.out).mono ?_);(case side1 => repeat (first | (with_reducible first | exact HI0.out | apply ww.alloc | apply ww.drewN | apply ww.drew | apply ww.set_1 | apply ww.set_2) | exact HI0.out));(case side2 => repeat (first | (with_reducible first | exact HB.out | apply qj | apply qz | apply qk | refine qx ?_ (ww.ge HI0.out)) | exact HB.out));(case side3 => repeat (first | exact (Kd.R_reads' HO103.out).2.2 | (with_reducible refine Kd.C_alloc ?_ _) | (with_reducible refine Kd.C_drewN ?_ _) | (with_reducible refine Kd.C_drew ?_)));(case side4 => exact (Kd.R_reads' HO103.out).2.1);(case side5 => exact far_slice (ww.own_ne HI0.out HO103.out (by decide)));rintro e w6 ⟨rfl,hi,hb,hk⟩;refine ⟨_,rfl,?_⟩;have n0_ := qq.mk (Kd.R_mono (Kd.R_keep (ww.apart (show ww w0 _ g s0_0 s0_1 s0_2 from by repeat (first | (with_reducible first | exact HI0.out | apply ww.alloc | apply ww.drewN | apply ww.drew | apply ww.set_1 | apply ww.set_2) | exact HI0.out)) (by (with_reducible repeat (first | apply Kd.jq | apply Kd.zx | apply Kd.jz));exact HO103.out) (by decide)) hk (fun _ h => h.2)) (fun _ h => h.1));have n1_ := qq.mk (zk.trans (by repeat (first | (with_reducible first | exact HK.out | apply zk.set_ | apply jj | apply jv | apply jk) | exact HK.out)) hk (.inl rfl));have n2_ := qq.mk (hb);have n3_ := qq.mk (hi);clear HO103;clear HK;clear HB;clear HI0;have HO103 := n0_;have HK := n1_;have HB := n2_;have HI0 := n3_;clear n0_ n1_ n2_ n3_;(try clear hb);(try clear hb2);(try clear hk);(try clear hi)))
 go_ret
 exact ⟨by first | rfl | (simp [*,kz,jx] <;> rfl),by repeat (first | (with_reducible first | exact HI0.out | apply ww.alloc | apply ww.drewN | apply ww.drew | apply ww.set_1 | apply ww.set_2) | exact HI0.out),by repeat (first | (with_reducible first | exact HB.out | apply qj | apply qz | apply qk | refine qx ?_ (ww.ge HI0.out)) | exact HB.out),by repeat (first | (with_reducible first | exact HK.out | apply zk.set_ | apply jj | apply jv | apply jk) | exact HK.out)⟩
end Go.Proofs.Ytgolcojhnklfdaa.Pr
