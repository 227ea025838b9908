/- Printed texts, walks and plain facts that the law FnExactCapText leans on, joined. -/
import Derived.Test.YtnbbbjfjkhglhaaGreatDoorFullFnExactCapTextD
namespace Go.Proofs.YtnbbbjfjkhglhaaGreatDoor.Pr
open Go.RowKit Go.Proofs.YtnbbbjfjkhglhaaGreatDoorW.PrintWords Go.Proofs.YtnbbbjfjkhglhaaGreatDoorW.PrintLast Go.Proofs.YtnbbbjfjkhglhaaGreatDoorW.PrintMore
attribute [local go_sem] max2_int min2_int max_two min_two max_three min_three max_four min_four
set_option linter.unusedVariables false
set_option linter.unusedSimpArgs false
theorem qjw.re_ {P : Program} {ops : Array Oper} {Q : Exit → Act → World → Prop} {md : Region.Mode} {S S' : World → Prop} : ∀ {fuel : Nat} {l : Array Bool} {a : Act} {w : World},S' w → (∀ w',S' w' → S w') → (S' w → wpAnyLast P md ops Q S' [] fuel l a w) → wpAnyLast P md ops Q S [] fuel l a w
 | 0,_,_,_,h,_,H => H h
 | _ + 1,_,_,_,h,hi,H => ⟨(H h).1,fun i hm => wpOp_mono (fun a' w' hx => ⟨fun hn _ => hi _ (hx.1 hn h),qjw.re_ (hx.1 (by simp) h) hi (fun _ => hx.2)⟩) ((H h).2 i hm)⟩
def qjw.f (k : Nat) (a0_0 : ByteArray) (a0_1 : Int) (a0_2 : ByteArray) (a0_3 : Int) (a0_4 : Int) (a0_5 : ByteArray) (a0_6 : ByteArray) : Option (ByteArray) := (qkq.f k a0_0 a0_1 a0_2 a0_3 a0_4 a0_5 a0_6).bind fun t102 => (if t102 = true then (if a0_0.size + 1 ≤ 9223372036854775807 then ((qvw.f).bind fun t103 => (if 0 ≤ a0_1 then (if a0_1 < (t103.length : Int) then (if (a0_0 ++ (⟨#[32]⟩ : ByteArray)).size + (rdOf ByteArray.empty t103 a0_1).size ≤ 9223372036854775807 then (if ((a0_0 ++ (⟨#[32]⟩ : ByteArray)) ++ (rdOf ByteArray.empty t103 a0_1)).size + 1 ≤ 9223372036854775807 then ((qvj.f k a0_3 a0_4 a0_5 a0_6).bind fun t107 => (if (((a0_0 ++ (⟨#[32]⟩ : ByteArray)) ++ (rdOf ByteArray.empty t103 a0_1)) ++ (⟨#[32]⟩ : ByteArray)).size + t107.size ≤ 9223372036854775807 then (some ((((a0_0 ++ (⟨#[32]⟩ : ByteArray)) ++ (rdOf ByteArray.empty t103 a0_1)) ++ (⟨#[32]⟩ : ByteArray)) ++ t107)) else (none))) else (none)) else (none)) else (none)) else (none))) else (none)) else (some (⟨#[]⟩ : ByteArray)))
def qjw.T3 : Bool × List (List Nat × List Nat) := (true,[([],[]),([0],[0]),([1],[1]),([],[]),([],[]),([4],[4]),([3,5],[3,5]),([6],[6]),([2,7],[2,7]),([8],[8]),([],[]),([10],[10]),([11,3],[11]),([9,12],[9,12]),([13,12,0,1,2,3,4,5,6,7,8,9,10,11,12,13],[13])])
def qjw.B3 : List Nat := [0,1,3,0,0,16,56,120,255,511,0,1024,3080,8191,16383]
theorem qjw.tab3 : rtab .any (opsOf Tryz.f7 3) = qjw.T3 := by kernel_rfl
theorem qjw.bits3 : waitsOk qjw.T3.2 qjw.B3 = true := by kernel_rfl
set_option maxHeartbeats 8000000 in
set_option maxRecDepth 100000 in
theorem qjw.calls (k : Nat) (a0_0 : ByteArray) (a0_1 : Int) (a0_2 : ByteArray) (a0_3 : Int) (a0_4 : Int) (a0_5 : ByteArray) (a0_6 : ByteArray) (r : ByteArray) (w : World) (h : qjw.f k a0_0 a0_1 a0_2 a0_3 a0_4 a0_5 a0_6 = some r) :
  Calls Tryz.prog 7 #[.agg #[.string a0_0,.int .i64 a0_1,.string a0_2,.int .i64 a0_3,.int .i64 a0_4,.string a0_5,.string a0_6]] w fun e w' => e = .returned (.string r) ∧ Below w.heap.size w w' := by
 have hu30 := Tryz.underlying30
 have hu28 := Tryz.underlying28
 have HB := qq.mk (Below.refl w.heap.size w)
 have H : ((qkq.f k a0_0 a0_1 a0_2 a0_3 a0_4 a0_5 a0_6).bind fun t102 => (if t102 = true then (if a0_0.size + 1 ≤ 9223372036854775807 then ((qvw.f).bind fun t103 => (if 0 ≤ a0_1 then (if a0_1 < (t103.length : Int) then (if (a0_0 ++ (⟨#[32]⟩ : ByteArray)).size + (rdOf ByteArray.empty t103 a0_1).size ≤ 9223372036854775807 then (if ((a0_0 ++ (⟨#[32]⟩ : ByteArray)) ++ (rdOf ByteArray.empty t103 a0_1)).size + 1 ≤ 9223372036854775807 then ((qvj.f k a0_3 a0_4 a0_5 a0_6).bind fun t107 => (if (((a0_0 ++ (⟨#[32]⟩ : ByteArray)) ++ (rdOf ByteArray.empty t103 a0_1)) ++ (⟨#[32]⟩ : ByteArray)).size + t107.size ≤ 9223372036854775807 then (some ((((a0_0 ++ (⟨#[32]⟩ : ByteArray)) ++ (rdOf ByteArray.empty t103 a0_1)) ++ (⟨#[32]⟩ : ByteArray)) ++ t107)) else (none))) else (none)) else (none)) else (none)) else (none))) else (none)) else (some (⟨#[]⟩ : ByteArray)))) = some r := h
 clear h
 replace H := Option.bind_eq_some_iff.mp H
 obtain ⟨t102,A20,H⟩ := H
 replace H : (if t102 = true then (if a0_0.size + 1 ≤ 9223372036854775807 then ((qvw.f).bind fun t103 => (if 0 ≤ a0_1 then (if a0_1 < (t103.length : Int) then (if (a0_0 ++ (⟨#[32]⟩ : ByteArray)).size + (rdOf ByteArray.empty t103 a0_1).size ≤ 9223372036854775807 then (if ((a0_0 ++ (⟨#[32]⟩ : ByteArray)) ++ (rdOf ByteArray.empty t103 a0_1)).size + 1 ≤ 9223372036854775807 then ((qvj.f k a0_3 a0_4 a0_5 a0_6).bind fun t107 => (if (((a0_0 ++ (⟨#[32]⟩ : ByteArray)) ++ (rdOf ByteArray.empty t103 a0_1)) ++ (⟨#[32]⟩ : ByteArray)).size + t107.size ≤ 9223372036854775807 then (some ((((a0_0 ++ (⟨#[32]⟩ : ByteArray)) ++ (rdOf ByteArray.empty t103 a0_1)) ++ (⟨#[32]⟩ : ByteArray)) ++ t107)) else (none))) else (none)) else (none)) else (none)) else (none))) else (none)) else (some (⟨#[]⟩ : ByteArray))) = some r := H
 have A2 := qq.mk A20
 clear A20
 by_cases c3 : t102 = true
 ·subst c3
  have H1 : (if a0_0.size + 1 ≤ 9223372036854775807 then ((qvw.f).bind fun t103 => (if 0 ≤ a0_1 then (if a0_1 < (t103.length : Int) then (if (a0_0 ++ (⟨#[32]⟩ : ByteArray)).size + (rdOf ByteArray.empty t103 a0_1).size ≤ 9223372036854775807 then (if ((a0_0 ++ (⟨#[32]⟩ : ByteArray)) ++ (rdOf ByteArray.empty t103 a0_1)).size + 1 ≤ 9223372036854775807 then ((qvj.f k a0_3 a0_4 a0_5 a0_6).bind fun t107 => (if (((a0_0 ++ (⟨#[32]⟩ : ByteArray)) ++ (rdOf ByteArray.empty t103 a0_1)) ++ (⟨#[32]⟩ : ByteArray)).size + t107.size ≤ 9223372036854775807 then (some ((((a0_0 ++ (⟨#[32]⟩ : ByteArray)) ++ (rdOf ByteArray.empty t103 a0_1)) ++ (⟨#[32]⟩ : ByteArray)) ++ t107)) else (none))) else (none)) else (none)) else (none)) else (none))) else (none)) = some r := by rw [if_pos rfl] at H;exact H
  clear H
  have H := H1
  clear H1
  by_cases c4 : a0_0.size + 1 ≤ 9223372036854775807
  ·rw [if_pos c4] at H
   have c4b0 := eq_true c4
   have c4b1 : decide (a0_0.size + 1 ≤ 9223372036854775807) = true := decide_eq_true c4
   try have c4b2 : (9223372036854775807 < a0_0.size + 1) = False := eq_false (Nat.not_lt.2 c4)
   replace H := Option.bind_eq_some_iff.mp H
   obtain ⟨t103,A50,H⟩ := H
   replace H : (if 0 ≤ a0_1 then (if a0_1 < (t103.length : Int) then (if (a0_0 ++ (⟨#[32]⟩ : ByteArray)).size + (rdOf ByteArray.empty t103 a0_1).size ≤ 9223372036854775807 then (if ((a0_0 ++ (⟨#[32]⟩ : ByteArray)) ++ (rdOf ByteArray.empty t103 a0_1)).size + 1 ≤ 9223372036854775807 then ((qvj.f k a0_3 a0_4 a0_5 a0_6).bind fun t107 => (if (((a0_0 ++ (⟨#[32]⟩ : ByteArray)) ++ (rdOf ByteArray.empty t103 a0_1)) ++ (⟨#[32]⟩ : ByteArray)).size + t107.size ≤ 9223372036854775807 then (some ((((a0_0 ++ (⟨#[32]⟩ : ByteArray)) ++ (rdOf ByteArray.empty t103 a0_1)) ++ (⟨#[32]⟩ : ByteArray)) ++ t107)) else (none))) else (none)) else (none)) else (none)) else (none)) = some r := H
   have A5 := qq.mk A50
   clear A50
   by_cases c6 : 0 ≤ a0_1
   ·rw [if_pos c6] at H
    have c6b0 : decide (0 ≤ a0_1) = true := decide_eq_true c6
    clear c6
    by_cases c7 : a0_1 < (t103.length : Int)
    ·rw [if_pos c7] at H
     have c7b0 : decide (a0_1 < (t103.length : Int)) = true := decide_eq_true c7
     clear c7
     by_cases c8 : (a0_0 ++ (⟨#[32]⟩ : ByteArray)).size + (rdOf ByteArray.empty t103 a0_1).size ≤ 9223372036854775807
     ·rw [if_pos c8] at H
      have c8b0 := eq_true c8
      have c8b1 : decide ((a0_0 ++ (⟨#[32]⟩ : ByteArray)).size + (rdOf ByteArray.empty t103 a0_1).size ≤ 9223372036854775807) = true := decide_eq_true c8
      try have c8b2 : (9223372036854775807 < (a0_0 ++ (⟨#[32]⟩ : ByteArray)).size + (rdOf ByteArray.empty t103 a0_1).size) = False := eq_false (Nat.not_lt.2 c8)
      try (have c8b9 := c8b2;simp only [ByteArray.size_append,show (⟨#[32]⟩ : ByteArray).size = 1 from rfl] at c8b9)
      by_cases c9 : ((a0_0 ++ (⟨#[32]⟩ : ByteArray)) ++ (rdOf ByteArray.empty t103 a0_1)).size + 1 ≤ 9223372036854775807
      ·rw [if_pos c9] at H
       have c9b0 := eq_true c9
       have c9b1 : decide (((a0_0 ++ (⟨#[32]⟩ : ByteArray)) ++ (rdOf ByteArray.empty t103 a0_1)).size + 1 ≤ 9223372036854775807) = true := decide_eq_true c9
       try have c9b2 : (9223372036854775807 < ((a0_0 ++ (⟨#[32]⟩ : ByteArray)) ++ (rdOf ByteArray.empty t103 a0_1)).size + 1) = False := eq_false (Nat.not_lt.2 c9)
       try (have c9b9 := c9b2;simp only [ByteArray.size_append,show (⟨#[32]⟩ : ByteArray).size = 1 from rfl] at c9b9)
       replace H := Option.bind_eq_some_iff.mp H
       obtain ⟨t107,A100,H⟩ := H
       replace H : (if (((a0_0 ++ (⟨#[32]⟩ : ByteArray)) ++ (rdOf ByteArray.empty t103 a0_1)) ++ (⟨#[32]⟩ : ByteArray)).size + t107.size ≤ 9223372036854775807 then (some ((((a0_0 ++ (⟨#[32]⟩ : ByteArray)) ++ (rdOf ByteArray.empty t103 a0_1)) ++ (⟨#[32]⟩ : ByteArray)) ++ t107)) else (none)) = some r := H
       have A10 := qq.mk A100
       clear A100
       by_cases c11 : (((a0_0 ++ (⟨#[32]⟩ : ByteArray)) ++ (rdOf ByteArray.empty t103 a0_1)) ++ (⟨#[32]⟩ : ByteArray)).size + t107.size ≤ 9223372036854775807
       ·rw [if_pos c11] at H
        have c11b0 := eq_true c11
        have c11b1 : decide ((((a0_0 ++ (⟨#[32]⟩ : ByteArray)) ++ (rdOf ByteArray.empty t103 a0_1)) ++ (⟨#[32]⟩ : ByteArray)).size + t107.size ≤ 9223372036854775807) = true := decide_eq_true c11
        try have c11b2 : (9223372036854775807 < (((a0_0 ++ (⟨#[32]⟩ : ByteArray)) ++ (rdOf ByteArray.empty t103 a0_1)) ++ (⟨#[32]⟩ : ByteArray)).size + t107.size) = False := eq_false (Nat.not_lt.2 c11)
        try (have c11b9 := c11b2;simp only [ByteArray.size_append,show (⟨#[32]⟩ : ByteArray).size = 1 from rfl] at c11b9)
        obtain rfl := Option.some.inj H
        go_enter Tryz.func7,Tryz.ntmps7
        try go_wp2_with (first | ((with_reducible refine gate_dst (N := 1) rfl ?_);refine box_event ?hg (N := 1) ?hd (cs := #[.string a0_0,.int .i64 a0_1,.string a0_2,.int .i64 a0_3,.int .i64 a0_4,.string a0_5,.string a0_6]) (t := 30) ?hr ?_;(case hd => rfl);(case hg => rfl);(case hr => first | (go_simp;done) | (go_simp;rfl));intro gb101 hg w12 hbox hb;have n0_ := qq.mk (zv (by repeat (first | (with_reducible first | exact HB.out | apply qj | apply qz | apply qk) | exact HB.out)) hb);have n1_ := qq.mk (hbox);have n2_ := qq.mk ((by rw [hg];exact (zw (by repeat (first | (with_reducible first | exact HB.out | apply qj | apply qz | apply qk) | exact HB.out))) : w.heap.size ≤ gb101));have n3_ := qq.mk ((by rw [hg];exact (zw (by repeat (first | (with_reducible first | exact HB.out | apply qj | apply qz | apply qk) | exact HB.out))) : w.heap.size ≤ gb101));clear HB;have HB := n0_;have BK101 := n1_;have GW101 := n2_;have GE101 := n3_;clear n0_ n1_ n2_ n3_;clear hb hbox hg;have hcz13_0 : w12.cell? ⟨gb101,0,none⟩ = some (.string a0_0) := (qw BK101.out 0).trans rfl;have hcz13_1 : w12.cell? ⟨gb101,1,none⟩ = some (.int .i64 a0_1) := (qw BK101.out 1).trans rfl;have hcz13_2 : w12.cell? ⟨gb101,2,none⟩ = some (.string a0_2) := (qw BK101.out 2).trans rfl;have hcz13_3 : w12.cell? ⟨gb101,3,none⟩ = some (.int .i64 a0_3) := (qw BK101.out 3).trans rfl;have hcz13_4 : w12.cell? ⟨gb101,4,none⟩ = some (.int .i64 a0_4) := (qw BK101.out 4).trans rfl;have hcz13_5 : w12.cell? ⟨gb101,5,none⟩ = some (.string a0_5) := (qw BK101.out 5).trans rfl;have hcz13_6 : w12.cell? ⟨gb101,6,none⟩ = some (.string a0_6) := (qw BK101.out 6).trans rfl;have hfz13_0 := qv BK101.out 0;have hfz13_1 := qv BK101.out 1;have hfz13_2 := qv BK101.out 2;have hfz13_3 := qv BK101.out 3;have hfz13_4 := qv BK101.out 4;have hfz13_5 := qv BK101.out 5;have hfz13_6 := qv BK101.out 6) | ((with_reducible refine jv (f := 20) rfl ?_);refine goesL_ (some 4) rfl rfl Tryz.func20 (by kernel_rfl) rfl #[.agg #[.string a0_0,.int .i64 a0_1,.string a0_2,.int .i64 a0_3,.int .i64 a0_4,.string a0_5,.string a0_6]] rfl (by (try simp only [List.map_toArray,List.map_cons,List.map_nil]);first | done | rfl | (simp only [List.length_drop,List.length_take];rfl)) ?_;(with_reducible refine (qkq.calls k a0_0 a0_1 a0_2 a0_3 a0_4 a0_5 a0_6 true _ A2.out).mono ?_);rintro e w14 ⟨rfl,hb⟩;refine ⟨_,rfl,?_⟩;have n0_ := qq.mk (kw (g := gb101) (o := .cells #[.string a0_0,.int .i64 a0_1,.string a0_2,.int .i64 a0_3,.int .i64 a0_4,.string a0_5,.string a0_6] 30 (0,0)) (by (with_reducible repeat (first | refine zz ?_ _ | refine zj ?_ | refine zq ?_ _));exact BK101.out) hb);have n1_ := qq.mk (zv (by repeat (first | (with_reducible first | exact HB.out | apply qj | apply qz | apply qk | refine qx ?_ GE101.out) | exact HB.out)) hb);clear BK101;clear HB;have BK101 := n0_;have HB := n1_;clear n0_ n1_;(try clear hb);(try clear hb2);(try clear hk);(try clear hi)))
        have n0_ := qq.mk (zj BK101.out)
        have n1_ := qq.mk (qk HB.out)
        clear BK101
        clear HB
        have BK101 := n0_
        have HB := n1_
        clear n0_ n1_
        refine start_ (n := 15) (S := fun w' => w'.cell? ⟨gb101,0,none⟩ = some (.string a0_0) ∧ w'.cell? ⟨gb101,1,none⟩ = some (.int .i64 a0_1) ∧ w'.cell? ⟨gb101,2,none⟩ = some (.string a0_2) ∧ w'.cell? ⟨gb101,3,none⟩ = some (.int .i64 a0_3) ∧ w'.cell? ⟨gb101,4,none⟩ = some (.int .i64 a0_4) ∧ w'.cell? ⟨gb101,5,none⟩ = some (.string a0_5) ∧ w'.cell? ⟨gb101,6,none⟩ = some (.string a0_6)) (ds := []) #[false,false,false,false,false,false,false,false,false,false,false,false,false,false,false] (by kernel_rfl) rfl rfl ⟨(qw BK101.out 0).trans rfl,(qw BK101.out 1).trans rfl,(qw BK101.out 2).trans rfl,(qw BK101.out 3).trans rfl,(qw BK101.out 4).trans rfl,(qw BK101.out 5).trans rfl,(qw BK101.out 6).trans rfl⟩ (fun hHeld => ?_);refine with_tabW qjw.tab3 qjw.bits3 (fun HT_ HW_ => ?_)
        generalize w14.drew = w15 at BK101 HB hHeld ⊢
        refine pure_ (i := 0) (N := some 6) (v := ?_) (a' := ?_) #[true,false,false,false,false,false,false,false,false,false,false,false,false,false,false] rfl rfl (any_of HT_.out (by kernel_rfl)) (fun _ _ _ h => h) (Or.inl ⟨by rfl,?_⟩) ?_ ?_
        rotate_left
        ·intro w'
         go_simp
         with_reducible rfl
        rotate_left
        ·simp only [Act.put,List.setIfInBounds_toArray,List.set_cons_zero,List.set_cons_succ,i64_w,i32_w]
         rfl
        refine pure_ (i := 4) (N := some 10) (v := ?_) (a' := ?_) #[true,false,false,false,true,false,false,false,false,false,false,false,false,false,false] rfl rfl (any_of HT_.out (by kernel_rfl)) (fun _ _ _ h => h) (Or.inl ⟨by rfl,?_⟩) ?_ ?_
        rotate_left
        ·intro w'
         go_simp
         with_reducible rfl
        rotate_left
        ·simp only [Act.put,List.setIfInBounds_toArray,List.set_cons_zero,List.set_cons_succ,i64_w,i32_w]
         rfl
        refine pure_ (i := 10) (N := some 16) (v := ?_) (a' := ?_) #[true,false,false,false,true,false,false,false,false,false,true,false,false,false,false] rfl rfl (any_of HT_.out (by kernel_rfl)) (fun _ _ _ h => h) (Or.inl ⟨by rfl,?_⟩) ?_ ?_
        rotate_left
        ·intro w'
         go_simp
         with_reducible rfl
        rotate_left
        ·simp only [Act.put,List.setIfInBounds_toArray,List.set_cons_zero,List.set_cons_succ,i64_w,i32_w]
         rfl
        refine take_ (i := 1) (N := some 7) (v := ?_) (a' := ?_) #[true,true,false,false,true,false,false,false,false,false,true,false,false,false,false] rfl rfl (take_ofW HT_.out HW_.out (by kernel_rfl)) (fun _ _ _ h => h) (Or.inl ⟨by rfl,?_⟩) hHeld ?_ ?_
        rotate_left
        ·rintro w' ⟨s0,s1,s2,s3,s4,s5,s6⟩
         go_simp
         with_reducible rfl
        rotate_left
        ·simp only [Act.put,List.setIfInBounds_toArray,List.set_cons_zero,List.set_cons_succ,i64_w,i32_w]
         rfl
        refine pure_ (i := 2) (N := some 8) (v := ?_) (a' := ?_) #[true,true,true,false,true,false,false,false,false,false,true,false,false,false,false] rfl rfl (any_of HT_.out (by kernel_rfl)) (fun _ _ _ h => h) (Or.inl ⟨by rfl,?_⟩) ?_ ?_
        rotate_left
        ·intro w'
         go_simp
         with_reducible rfl
        rotate_left
        ·simp only [Act.put,List.setIfInBounds_toArray,List.set_cons_zero,List.set_cons_succ,i64_w,i32_w]
         rfl
        refine take_ (i := 5) (N := some 11) (v := ?_) (a' := ?_) #[true,true,true,false,true,true,false,false,false,false,true,false,false,false,false] rfl rfl (take_ofW HT_.out HW_.out (by kernel_rfl)) (fun _ _ _ h => h) (Or.inl ⟨by rfl,?_⟩) hHeld ?_ ?_
        rotate_left
        ·rintro w' ⟨s0,s1,s2,s3,s4,s5,s6⟩
         go_simp
         with_reducible rfl
        rotate_left
        ·simp only [Act.put,List.setIfInBounds_toArray,List.set_cons_zero,List.set_cons_succ,i64_w,i32_w]
         rfl
        refine take_ (i := 11) (N := some 17) (v := ?_) (a' := ?_) #[true,true,true,false,true,true,false,false,false,false,true,true,false,false,false] rfl rfl (take_ofW HT_.out HW_.out (by kernel_rfl)) (fun _ _ _ h => h) (Or.inl ⟨by rfl,?_⟩) hHeld ?_ ?_
        rotate_left
        ·rintro w' ⟨s0,s1,s2,s3,s4,s5,s6⟩
         go_simp
         with_reducible rfl
        rotate_left
        ·simp only [Act.put,List.setIfInBounds_toArray,List.set_cons_zero,List.set_cons_succ,i64_w,i32_w]
         rfl
        refine one_ (i := 3) (N := some 9) #[true,true,true,true,true,true,false,false,false,false,true,true,false,false,false] rfl rfl (one_of HT_.out (by kernel_rfl)) (by decide) (fun K hK => ?_)
        refine goes_ Tryz.func21 (by kernel_rfl) rfl #[] (by rfl) rfl rfl (by (try simp only [List.map_toArray,List.map_cons,List.map_nil]);first | done | rfl | (simp only [List.length_drop,List.length_take];rfl)) ?_
        with_reducible refine (qvw.calls  t103 _ A5.out).mono ?_
        rintro e w16 ⟨v104,rfl,ho0,hb⟩
        refine ⟨_,rfl,?_⟩
        have n0_ := qq.mk (Kd.R_lower ho0 (zw (by repeat (first | (with_reducible first | exact HB.out | apply qj | apply qz | apply qk | refine qx ?_ GE101.out) | exact HB.out))))
        have n1_ := qq.mk (kw (g := gb101) (o := .cells #[.string a0_0,.int .i64 a0_1,.string a0_2,.int .i64 a0_3,.int .i64 a0_4,.string a0_5,.string a0_6] 30 (0,0)) (by (with_reducible repeat (first | refine zz ?_ _ | refine zj ?_ | refine zq ?_ _));exact BK101.out) hb)
        have n2_ := qq.mk (zv (by repeat (first | (with_reducible first | exact HB.out | apply qj | apply qz | apply qk | refine qx ?_ GE101.out) | exact HB.out)) hb)
        clear BK101
        clear HB
        have HO105 := n0_
        have BK101 := n1_
        have HB := n2_
        clear n0_ n1_ n2_
        (try clear hb)
        (try clear hb2)
        (try clear hk)
        (try clear hi)
        (try clear ho0)
        obtain ⟨Ao17,co17,eo17⟩ := Kd.R_slice HO105.out
        (first | subst eo17 | (injection eo17 with f1_ f2_ f3_;have f4_ := f1_.symm;have f5_ := f3_.symm;clear f1_ f2_ f3_;subst f4_;subst f5_))
        have p106 : 0 ≤ (a0_1 : Int) := of_decide_eq_true (by assumption)
        have q106 : a0_1 < (t103.length : Int) := of_decide_eq_true (by assumption)
        obtain ⟨ad106,e106,hx106_0⟩ := Kd.at_string (Kd.R_reads' HO105.out).2.2 a0_1 p106 q106
        cases e106
        replace p106 := eq_true p106
        replace q106 := eq_true q106
        refine hK.out _ _ ⟨(qw BK101.out 0).trans rfl,(qw BK101.out 1).trans rfl,(qw BK101.out 2).trans rfl,(qw BK101.out 3).trans rfl,(qw BK101.out 4).trans rfl,(qw BK101.out 5).trans rfl,(qw BK101.out 6).trans rfl⟩ (fun hHeld => ?_)
        clear hK K
        refine qjw.re_ (S' := fun w' => w'.cell? ⟨gb101,0,none⟩ = some (.string a0_0) ∧ w'.cell? ⟨gb101,1,none⟩ = some (.int .i64 a0_1) ∧ w'.cell? ⟨gb101,2,none⟩ = some (.string a0_2) ∧ w'.cell? ⟨gb101,3,none⟩ = some (.int .i64 a0_3) ∧ w'.cell? ⟨gb101,4,none⟩ = some (.int .i64 a0_4) ∧ w'.cell? ⟨gb101,5,none⟩ = some (.string a0_5) ∧ w'.cell? ⟨gb101,6,none⟩ = some (.string a0_6) ∧ w'.cell? (ad106.add (a0_1).toNat) = some (.string (rdOf ByteArray.empty t103 a0_1))) ⟨(qw BK101.out 0).trans rfl,(qw BK101.out 1).trans rfl,(qw BK101.out 2).trans rfl,(qw BK101.out 3).trans rfl,(qw BK101.out 4).trans rfl,(qw BK101.out 5).trans rfl,(qw BK101.out 6).trans rfl,hx106_0⟩ (by rintro w' ⟨s0,s1,s2,s3,s4,s5,s6,s7⟩;exact ⟨s0,s1,s2,s3,s4,s5,s6⟩) (fun hHeld => ?_)
        refine norm_ (a' := ?_) ?_ ?_
        rotate_left
        ·show Act.put _ (some 9) _ = _
         simp only [Act.put,List.setIfInBounds_toArray,List.set_cons_zero,List.set_cons_succ,i64_w,i32_w]
         rfl
        refine pure_ (i := 6) (N := some 12) (v := ?_) (a' := ?_) #[true,true,true,true,true,true,true,false,false,false,true,true,false,false,false] rfl rfl (any_of HT_.out (by kernel_rfl)) (fun _ _ _ h => h) (Or.inl ⟨by rfl,?_⟩) ?_ ?_
        rotate_left
        ·intro w'
         go_simp
         with_reducible rfl
        rotate_left
        ·simp only [Act.put,List.setIfInBounds_toArray,List.set_cons_zero,List.set_cons_succ,i64_w,i32_w]
         rfl
        refine take_ (i := 7) (N := some 13) (v := ?_) (a' := ?_) #[true,true,true,true,true,true,true,true,false,false,true,true,false,false,false] rfl rfl (take_ofW HT_.out HW_.out (by kernel_rfl)) (fun _ _ _ h => h) (Or.inl ⟨by rfl,?_⟩) hHeld ?_ ?_
        rotate_left
        ·rintro w' ⟨s0,s1,s2,s3,s4,s5,s6,s7⟩
         go_simp
         with_reducible rfl
        rotate_left
        ·simp only [Act.put,List.setIfInBounds_toArray,List.set_cons_zero,List.set_cons_succ,i64_w,i32_w]
         rfl
        refine pure_ (i := 8) (N := some 14) (v := ?_) (a' := ?_) #[true,true,true,true,true,true,true,true,true,false,true,true,false,false,false] rfl rfl (any_of HT_.out (by kernel_rfl)) (fun _ _ _ h => h) (Or.inl ⟨by rfl,?_⟩) ?_ ?_
        rotate_left
        ·intro w'
         go_simp
         with_reducible rfl
        rotate_left
        ·simp only [Act.put,List.setIfInBounds_toArray,List.set_cons_zero,List.set_cons_succ,i64_w,i32_w]
         rfl
        refine pure_ (i := 9) (N := some 15) (v := ?_) (a' := ?_) #[true,true,true,true,true,true,true,true,true,true,true,true,false,false,false] rfl rfl (any_of HT_.out (by kernel_rfl)) (fun _ _ _ h => h) (Or.inl ⟨by rfl,?_⟩) ?_ ?_
        rotate_left
        ·intro w'
         go_simp
         with_reducible rfl
        rotate_left
        ·simp only [Act.put,List.setIfInBounds_toArray,List.set_cons_zero,List.set_cons_succ,i64_w,i32_w]
         rfl
        refine one_ (i := 12) (N := some 18) #[true,true,true,true,true,true,true,true,true,true,true,true,true,false,false] rfl rfl (one_of HT_.out (by kernel_rfl)) (by decide) (fun K hK => ?_)
        refine goes_ Tryz.func22 (by kernel_rfl) rfl #[.agg #[.int .i64 a0_3,.int .i64 a0_4,.string a0_5,.string a0_6]] (by rfl) rfl rfl (by (try simp only [List.map_toArray,List.map_cons,List.map_nil]);first | done | rfl | (simp only [List.length_drop,List.length_take];rfl)) ?_
        with_reducible refine (qvj.calls k a0_3 a0_4 a0_5 a0_6 t107 _ A10.out).mono ?_
        rintro e w18 ⟨rfl,hb⟩
        have HS7_ := (hb.cell (World.block_lt_of_cell? _ _ (hHeld.2.2.2.2.2.2.2))).trans (hHeld.2.2.2.2.2.2.2)
        refine ⟨_,rfl,?_⟩
        have n0_ := qq.mk (Kd.R_below (by (with_reducible repeat (first | apply Kd.jq | apply Kd.zx | apply Kd.jz));exact HO105.out) hb)
        have n1_ := qq.mk (kw (g := gb101) (o := .cells #[.string a0_0,.int .i64 a0_1,.string a0_2,.int .i64 a0_3,.int .i64 a0_4,.string a0_5,.string a0_6] 30 (0,0)) (by (with_reducible repeat (first | refine zz ?_ _ | refine zj ?_ | refine zq ?_ _));exact BK101.out) hb)
        have n2_ := qq.mk (zv (by repeat (first | (with_reducible first | exact HB.out | apply qj | apply qz | apply qk | refine qx ?_ GE101.out) | exact HB.out)) hb)
        clear HO105
        clear BK101
        clear HB
        have HO105 := n0_
        have BK101 := n1_
        have HB := n2_
        clear n0_ n1_ n2_
        (try clear hb)
        (try clear hb2)
        (try clear hk)
        (try clear hi)
        refine hK.out _ _ ⟨(qw BK101.out 0).trans rfl,(qw BK101.out 1).trans rfl,(qw BK101.out 2).trans rfl,(qw BK101.out 3).trans rfl,(qw BK101.out 4).trans rfl,(qw BK101.out 5).trans rfl,(qw BK101.out 6).trans rfl,HS7_⟩ (fun hHeld => ?_)
        clear hK K
        refine norm_ (a' := ?_) ?_ ?_
        rotate_left
        ·show Act.put _ (some 18) _ = _
         simp only [Act.put,List.setIfInBounds_toArray,List.set_cons_zero,List.set_cons_succ,i64_w,i32_w]
         rfl
        refine pure_ (i := 13) (N := some 19) (v := ?_) (a' := ?_) #[true,true,true,true,true,true,true,true,true,true,true,true,true,true,false] rfl rfl (any_of HT_.out (by kernel_rfl)) (fun _ _ _ h => h) (Or.inl ⟨by rfl,?_⟩) ?_ ?_
        rotate_left
        ·intro w'
         go_simp
         with_reducible rfl
        rotate_left
        ·simp only [Act.put,List.setIfInBounds_toArray,List.set_cons_zero,List.set_cons_succ,i64_w,i32_w]
         rfl
        refine pure_ (i := 14) (N := some 2) (v := ?_) (a' := ?_) #[true,true,true,true,true,true,true,true,true,true,true,true,true,true,true] rfl rfl (any_of HT_.out (by kernel_rfl)) (fun _ _ _ h => h) (Or.inl ⟨by rfl,?_⟩) ?_ ?_
        rotate_left
        ·intro w'
         go_simp
         with_reducible rfl
        rotate_left
        ·simp only [Act.put,List.setIfInBounds_toArray,List.set_cons_zero,List.set_cons_succ,i64_w,i32_w]
         rfl
        refine done_ (done_of HT_.out (by kernel_rfl)) ?_
        try go_wp2
        go_ret
        exact ⟨by first | rfl | (simp [*,jk,jj] <;> rfl),by repeat (first | (with_reducible first | exact HB.out | apply qj | apply qz | apply qk | refine qx ?_ GE101.out) | exact HB.out)⟩
       ·rw [if_neg c11] at H
        exact absurd H (by simp)
      ·rw [if_neg c9] at H
       exact absurd H (by simp)
     ·rw [if_neg c8] at H
      exact absurd H (by simp)
    ·rw [if_neg c7] at H
     exact absurd H (by simp)
   ·rw [if_neg c6] at H
    exact absurd H (by simp)
  ·rw [if_neg c4] at H
   exact absurd H (by simp)
 ·replace c3 := Bool.eq_false_iff.mpr c3
  subst c3
  have H1 : (some (⟨#[]⟩ : ByteArray)) = some r := by rw [if_neg (show ¬ (false = true) by decide)] at H;exact H
  clear H
  have H := H1
  clear H1
  obtain rfl := Option.some.inj H
  go_enter Tryz.func7,Tryz.ntmps7
  go_wp2_with (first | ((with_reducible refine gate_dst (N := 1) rfl ?_);refine box_event ?hg (N := 1) ?hd (cs := #[.string a0_0,.int .i64 a0_1,.string a0_2,.int .i64 a0_3,.int .i64 a0_4,.string a0_5,.string a0_6]) (t := 30) ?hr ?_;(case hd => rfl);(case hg => rfl);(case hr => first | (go_simp;done) | (go_simp;rfl));intro gb101 hg w19 hbox hb;have n0_ := qq.mk (zv (by repeat (first | (with_reducible first | exact HB.out | apply qj | apply qz | apply qk) | exact HB.out)) hb);have n1_ := qq.mk (hbox);have n2_ := qq.mk ((by rw [hg];exact (zw (by repeat (first | (with_reducible first | exact HB.out | apply qj | apply qz | apply qk) | exact HB.out))) : w.heap.size ≤ gb101));have n3_ := qq.mk ((by rw [hg];exact (zw (by repeat (first | (with_reducible first | exact HB.out | apply qj | apply qz | apply qk) | exact HB.out))) : w.heap.size ≤ gb101));clear HB;have HB := n0_;have BK101 := n1_;have GW101 := n2_;have GE101 := n3_;clear n0_ n1_ n2_ n3_;clear hb hbox hg;have hcz20_0 : w19.cell? ⟨gb101,0,none⟩ = some (.string a0_0) := (qw BK101.out 0).trans rfl;have hcz20_1 : w19.cell? ⟨gb101,1,none⟩ = some (.int .i64 a0_1) := (qw BK101.out 1).trans rfl;have hcz20_2 : w19.cell? ⟨gb101,2,none⟩ = some (.string a0_2) := (qw BK101.out 2).trans rfl;have hcz20_3 : w19.cell? ⟨gb101,3,none⟩ = some (.int .i64 a0_3) := (qw BK101.out 3).trans rfl;have hcz20_4 : w19.cell? ⟨gb101,4,none⟩ = some (.int .i64 a0_4) := (qw BK101.out 4).trans rfl;have hcz20_5 : w19.cell? ⟨gb101,5,none⟩ = some (.string a0_5) := (qw BK101.out 5).trans rfl;have hcz20_6 : w19.cell? ⟨gb101,6,none⟩ = some (.string a0_6) := (qw BK101.out 6).trans rfl;have hfz20_0 := qv BK101.out 0;have hfz20_1 := qv BK101.out 1;have hfz20_2 := qv BK101.out 2;have hfz20_3 := qv BK101.out 3;have hfz20_4 := qv BK101.out 4;have hfz20_5 := qv BK101.out 5;have hfz20_6 := qv BK101.out 6) | ((with_reducible refine jv (f := 20) rfl ?_);refine goesL_ (some 4) rfl rfl Tryz.func20 (by kernel_rfl) rfl #[.agg #[.string a0_0,.int .i64 a0_1,.string a0_2,.int .i64 a0_3,.int .i64 a0_4,.string a0_5,.string a0_6]] rfl (by (try simp only [List.map_toArray,List.map_cons,List.map_nil]);first | done | rfl | (simp only [List.length_drop,List.length_take];rfl)) ?_;(with_reducible refine (qkq.calls k a0_0 a0_1 a0_2 a0_3 a0_4 a0_5 a0_6 false _ A2.out).mono ?_);rintro e w21 ⟨rfl,hb⟩;refine ⟨_,rfl,?_⟩;have n0_ := qq.mk (kw (g := gb101) (o := .cells #[.string a0_0,.int .i64 a0_1,.string a0_2,.int .i64 a0_3,.int .i64 a0_4,.string a0_5,.string a0_6] 30 (0,0)) (by (with_reducible repeat (first | refine zz ?_ _ | refine zj ?_ | refine zq ?_ _));exact BK101.out) hb);have n1_ := qq.mk (zv (by repeat (first | (with_reducible first | exact HB.out | apply qj | apply qz | apply qk | refine qx ?_ GE101.out) | exact HB.out)) hb);clear BK101;clear HB;have BK101 := n0_;have HB := n1_;clear n0_ n1_;(try clear hb);(try clear hb2);(try clear hk);(try clear hi)))
  go_ret
  exact ⟨by first | rfl | (simp [*,jk,jj] <;> rfl),by repeat (first | (with_reducible first | exact HB.out | apply qj | apply qz | apply qk | refine qx ?_ GE101.out) | exact HB.out)⟩
def qjj.l0 : Nat → ByteArray → List (S30) → Int → Int → ByteArray → List (S30) → List Int → Option (ByteArray)
 | 0,_,_,_,_,_,_,_ => none
 | k + 1,x3,x10,x11,x12,x102000,x102001,x102002 => if x12 < x11 then (if 0 ≤ x12 then (if x12 < (x10.length : Int) then ((qjw.f k ((vz x10 x12).f0) ((vz x10 x12).f1) ((vz x10 x12).f2) ((vz x10 x12).f3.f0) ((vz x10 x12).f3.f1) ((vz x10 x12).f3.f2) ((vz x10 x12).f3.f3)).bind fun t105 => (if t105.size + 1 ≤ 9223372036854775807 then (if x3.size + (t105 ++ (⟨#[10]⟩ : ByteArray)).size ≤ 9223372036854775807 then (qjj.l0 k (x3 ++ (t105 ++ (⟨#[10]⟩ : ByteArray))) x10 x11 (wrap64 (x12 + 1)) x102000 x102001 x102002) else (none)) else (none))) else (none)) else (none)) else (if 4 + x102000.size ≤ 9223372036854775807 then (if ((⟨#[99,97,112,126]⟩ : ByteArray) ++ x102000).size + 1 ≤ 9223372036854775807 then ((bytesOfS.f x3).bind fun t106 => ((qvk.f k t106).bind fun t109 => (if (((⟨#[99,97,112,126]⟩ : ByteArray) ++ x102000) ++ (⟨#[126]⟩ : ByteArray)).size + t109.size ≤ 9223372036854775807 then (if ((((⟨#[99,97,112,126]⟩ : ByteArray) ++ x102000) ++ (⟨#[126]⟩ : ByteArray)) ++ t109).size + 1 ≤ 9223372036854775807 then ((qvk.f k x102002).bind fun t110 => (if (((((⟨#[99,97,112,126]⟩ : ByteArray) ++ x102000) ++ (⟨#[126]⟩ : ByteArray)) ++ t109) ++ (⟨#[126]⟩ : ByteArray)).size + t110.size ≤ 9223372036854775807 then (some ((((((⟨#[99,97,112,126]⟩ : ByteArray) ++ x102000) ++ (⟨#[126]⟩ : ByteArray)) ++ t109) ++ (⟨#[126]⟩ : ByteArray)) ++ t110)) else (none))) else (none)) else (none)))) else (none)) else (none))
def qjj.f (k : Nat) (a0_0 : ByteArray) (l0_1 : List (S30)) (l0_2 : List Int) : Option (ByteArray) := (qjx.f k a0_0 l0_1 l0_2).bind fun t102 => (if t102 = true then (qjj.l0 k (⟨#[]⟩ : ByteArray) l0_1 (l0_1.length : Int) 0 a0_0 l0_1 l0_2) else (some (⟨#[]⟩ : ByteArray)))
def qjj.T9 : Bool × List (List Nat × List Nat) := (true,[([],[]),([0],[0]),([1],[1]),([2],[2]),([],[]),([4],[4]),([5],[5]),([3,6],[3,6]),([7],[7]),([],[]),([9],[9]),([10,6],[10]),([8,11],[8,11]),([12,11,0,1,2,3,4,5,6,7,8,9,10,11,12],[12])])
def qjj.B9 : List Nat := [0,1,3,7,0,16,48,127,255,0,512,1648,4095,8191]
theorem qjj.tab9 : rtab .any (opsOf Tryz.f11 9) = qjj.T9 := by kernel_rfl
theorem qjj.bits9 : waitsOk qjj.T9.2 qjj.B9 = true := by kernel_rfl
set_option maxHeartbeats 8000000 in
set_option maxRecDepth 100000 in
theorem qjj.calls (k : Nat) (a0_0 : ByteArray) (A0_1 : Option Addr) (c0_1 : Nat) (l0_1 : List (S30)) (A0_2 : Option Addr) (c0_2 : Nat) (l0_2 : List Int) (r : ByteArray) (w : World) (hr0_1 : Kd.C k30 w A0_1 l0_1.length l0_1) (hc0_1 : l0_1.length ≤ c0_1) (hr0_2 : Kd.C (Kd.int .u8) w A0_2 l0_2.length l0_2) (hc0_2 : l0_2.length ≤ c0_2) (h : qjj.f k a0_0 l0_1 l0_2 = some r) :
  Calls Tryz.prog 11 #[.agg #[.string a0_0,.slice A0_1 l0_1.length c0_1,.slice A0_2 l0_2.length c0_2]] w fun e w' => e = .returned (.string r) ∧ Below w.heap.size w w' := by
 have hu41 := Tryz.underlying41
 have hu30 := Tryz.underlying30
 have HR0_1 := qq.mk hr0_1
 have HC0_1 := qq.mk hc0_1
 clear hr0_1 hc0_1
 have HR0_2 := qq.mk hr0_2
 have HC0_2 := qq.mk hc0_2
 clear hr0_2 hc0_2
 have HB := qq.mk (Below.refl w.heap.size w)
 have H : ((qjx.f k a0_0 l0_1 l0_2).bind fun t102 => (if t102 = true then (qjj.l0 k (⟨#[]⟩ : ByteArray) l0_1 (l0_1.length : Int) 0 a0_0 l0_1 l0_2) else (some (⟨#[]⟩ : ByteArray)))) = some r := h
 clear h
 replace H := Option.bind_eq_some_iff.mp H
 obtain ⟨t102,A20,H⟩ := H
 replace H : (if t102 = true then (qjj.l0 k (⟨#[]⟩ : ByteArray) l0_1 (l0_1.length : Int) 0 a0_0 l0_1 l0_2) else (some (⟨#[]⟩ : ByteArray))) = some r := H
 have A2 := qq.mk A20
 clear A20
 by_cases c3 : t102 = true
 ·subst c3
  have H1 : (qjj.l0 k (⟨#[]⟩ : ByteArray) l0_1 (l0_1.length : Int) 0 a0_0 l0_1 l0_2) = some r := by rw [if_pos rfl] at H;exact H
  clear H
  have H := H1
  clear H1
  have H' := qq.mk H
  clear H
  go_enter Tryz.func11,Tryz.ntmps11
  go_wp2_with (first | ((with_reducible refine gate_dst (N := 1) rfl ?_);refine box_event ?hg (N := 1) ?hd (cs := #[.string a0_0,.slice A0_1 l0_1.length c0_1,.slice A0_2 l0_2.length c0_2]) (t := 41) ?hr ?_;(case hd => rfl);(case hg => rfl);(case hr => first | (go_simp;done) | (go_simp;rfl));intro gb101 hg w4 hbox hb;have n0_ := qq.mk (zv (by repeat (first | (with_reducible first | exact HB.out | apply qj | apply qz | apply qk) | exact HB.out)) hb);have n1_ := qq.mk (hbox);have n2_ := qq.mk ((by rw [hg];exact (zw (by repeat (first | (with_reducible first | exact HB.out | apply qj | apply qz | apply qk) | exact HB.out))) : w.heap.size ≤ gb101));have n3_ := qq.mk ((by rw [hg];exact (zw (by repeat (first | (with_reducible first | exact HB.out | apply qj | apply qz | apply qk) | exact HB.out))) : w.heap.size ≤ gb101));clear HB;have HB := n0_;have BK101 := n1_;have GW101 := n2_;have GE101 := n3_;clear n0_ n1_ n2_ n3_;clear hb hbox hg;have hcz5_0 : w4.cell? ⟨gb101,0,none⟩ = some (.string a0_0) := (qw BK101.out 0).trans rfl;have hcz5_1 : w4.cell? ⟨gb101,1,none⟩ = some (.slice A0_1 l0_1.length c0_1) := (qw BK101.out 1).trans rfl;have hcz5_2 : w4.cell? ⟨gb101,2,none⟩ = some (.slice A0_2 l0_2.length c0_2) := (qw BK101.out 2).trans rfl;have hfz5_0 := qv BK101.out 0;have hfz5_1 := qv BK101.out 1;have hfz5_2 := qv BK101.out 2) | ((with_reducible refine jv (f := 28) rfl ?_);refine goesL_ (some 7) rfl rfl Tryz.func28 (by kernel_rfl) rfl #[.agg #[.string a0_0,.slice A0_1 l0_1.length c0_1,.slice A0_2 l0_2.length c0_2]] rfl (by (try simp only [List.map_toArray,List.map_cons,List.map_nil]);first | done | rfl | (simp only [List.length_drop,List.length_take];rfl)) ?_;(with_reducible refine (qjx.calls k a0_0 _ _ l0_1 _ _ l0_2 true _ ?side1 ?side2 ?side3 ?side4 A2.out).mono ?_);(case side1 => repeat (first | exact (Kd.C_below HR0_1.out HB.out) | (with_reducible refine Kd.C_alloc ?_ _) | (with_reducible refine Kd.C_drewN ?_ _) | (with_reducible refine Kd.C_drew ?_)));(case side2 => exact HC0_1.out);(case side3 => repeat (first | exact (Kd.C_below HR0_2.out HB.out) | (with_reducible refine Kd.C_alloc ?_ _) | (with_reducible refine Kd.C_drewN ?_ _) | (with_reducible refine Kd.C_drew ?_)));(case side4 => exact HC0_2.out);rintro e w6 ⟨rfl,hb⟩;refine ⟨_,rfl,?_⟩;have n0_ := qq.mk (kw (g := gb101) (o := .cells #[.string a0_0,.slice A0_1 l0_1.length c0_1,.slice A0_2 l0_2.length c0_2] 41 (0,0)) (by (with_reducible repeat (first | refine zz ?_ _ | refine zj ?_ | refine zq ?_ _));exact BK101.out) hb);have n1_ := qq.mk (zv (by repeat (first | (with_reducible first | exact HB.out | apply qj | apply qz | apply qk | refine qx ?_ GE101.out) | exact HB.out)) hb);clear BK101;clear HB;have BK101 := n0_;have HB := n1_;clear n0_ n1_;(try clear hb);(try clear hb2);(try clear hk);(try clear hi);have hcz7_0 : w6.cell? ⟨gb101,0,none⟩ = some (.string a0_0) := (qw BK101.out 0).trans rfl;have hcz7_1 : w6.cell? ⟨gb101,1,none⟩ = some (.slice A0_1 l0_1.length c0_1) := (qw BK101.out 1).trans rfl;have hcz7_2 : w6.cell? ⟨gb101,2,none⟩ = some (.slice A0_2 l0_2.length c0_2) := (qw BK101.out 2).trans rfl;have hfz7_0 := qv BK101.out 0;have hfz7_1 := qv BK101.out 1;have hfz7_2 := qv BK101.out 2))
  go_loopg [3,12] k (fun kq v3 v12 w' => ∃ (x3_1 : ByteArray) (x12_1 : Int),v3 = .string x3_1 ∧ v12 = .int .i64 x12_1 ∧ qq (qjj.l0 kq x3_1 l0_1 (l0_1.length : Int) x12_1 a0_0 l0_1 l0_2 = some r) ∧ qq (kq ≤ k) ∧ qq (w'.heap[gb101]? = some (.cells #[.string a0_0,(.slice A0_1 l0_1.length c0_1),(.slice A0_2 l0_2.length c0_2)] 41 (0,0))) ∧ qq (Below w.heap.size w w'))
  case atStart => exact ⟨((⟨#[]⟩ : ByteArray)),(0),(by first | rfl | (simp;done) | (simp [*];done)),(by first | rfl | (simp;done) | (simp [*];done)),H',⟨Nat.le_refl _⟩,⟨by (with_reducible repeat (first | refine zz ?_ _ | refine zj ?_ | refine zq ?_ _));exact BK101.out⟩,⟨by repeat (first | (with_reducible first | exact HB.out | apply qj | apply qz | apply qk | refine qx ?_ GE101.out) | exact HB.out)⟩⟩
  case round =>
   clear H'
   try clear c1
   try clear c2
   try clear p2
   try clear c3
   try clear hcz5_0
   try clear hcz5_1
   try clear hcz5_2
   try clear hcz7_0
   try clear hcz7_1
   try clear hcz7_2
   try clear hfz5_0
   try clear hfz5_1
   try clear hfz5_2
   try clear hfz7_0
   try clear hfz7_1
   try clear hfz7_2
   obtain ⟨x3_1,x12_1,rfl,rfl,HA,HK1,BK101,HB⟩ := hrel
   cases gk with
   | zero => exact absurd HA.out (by simp [qjj.l0])
   | succ k1 =>
    have H := HA.out
    clear HA
    simp only [qjj.l0] at H
    by_cases c8 : x12_1 < (l0_1.length : Int)
    ·rw [if_pos c8] at H
     have c8b0 : decide (x12_1 < (l0_1.length : Int)) = true := decide_eq_true c8
     clear c8
     by_cases c9 : 0 ≤ x12_1
     ·rw [if_pos c9] at H
      have c9b0 : decide (0 ≤ x12_1) = true := decide_eq_true c9
      clear c9
      by_cases c10 : x12_1 < (l0_1.length : Int)
      ·rw [if_pos c10] at H
       have c10b0 : decide (x12_1 < (l0_1.length : Int)) = true := decide_eq_true c10
       clear c10
       replace H := Option.bind_eq_some_iff.mp H
       obtain ⟨t105,A110,H⟩ := H
       replace H : (if t105.size + 1 ≤ 9223372036854775807 then (if x3_1.size + (t105 ++ (⟨#[10]⟩ : ByteArray)).size ≤ 9223372036854775807 then (qjj.l0 k1 (x3_1 ++ (t105 ++ (⟨#[10]⟩ : ByteArray))) l0_1 (l0_1.length : Int) (wrap64 (x12_1 + 1)) a0_0 l0_1 l0_2) else (none)) else (none)) = some r := H
       have A11 := qq.mk A110
       clear A110
       by_cases c12 : t105.size + 1 ≤ 9223372036854775807
       ·rw [if_pos c12] at H
        have c12b0 := eq_true c12
        have c12b1 : decide (t105.size + 1 ≤ 9223372036854775807) = true := decide_eq_true c12
        try have c12b2 : (9223372036854775807 < t105.size + 1) = False := eq_false (Nat.not_lt.2 c12)
        by_cases c13 : x3_1.size + (t105 ++ (⟨#[10]⟩ : ByteArray)).size ≤ 9223372036854775807
        ·rw [if_pos c13] at H
         have c13b0 := eq_true c13
         have c13b1 : decide (x3_1.size + (t105 ++ (⟨#[10]⟩ : ByteArray)).size ≤ 9223372036854775807) = true := decide_eq_true c13
         try have c13b2 : (9223372036854775807 < x3_1.size + (t105 ++ (⟨#[10]⟩ : ByteArray)).size) = False := eq_false (Nat.not_lt.2 c13)
         try (have c13b9 := c13b2;simp only [ByteArray.size_append,show (⟨#[10]⟩ : ByteArray).size = 1 from rfl] at c13b9)
         have H' := qq.mk H
         clear H
         have p103 : 0 ≤ (x12_1 : Int) := of_decide_eq_true (by assumption)
         have q103 : x12_1 < (l0_1.length : Int) := of_decide_eq_true (by assumption)
         obtain ⟨ad103,e103,hx103_0,hx103_1,hx103_2,hx103_3,hx103_4,hx103_5,hx103_6⟩ := at_T30 HR0_1.out x12_1 p103 q103
         cases e103
         replace hx103_0 := (HB.out.cell (World.block_lt_of_cell? w _ hx103_0)).trans hx103_0
         replace hx103_1 := (HB.out.cell (World.block_lt_of_cell? w _ hx103_1)).trans hx103_1
         replace hx103_2 := (HB.out.cell (World.block_lt_of_cell? w _ hx103_2)).trans hx103_2
         replace hx103_3 := (HB.out.cell (World.block_lt_of_cell? w _ hx103_3)).trans hx103_3
         replace hx103_4 := (HB.out.cell (World.block_lt_of_cell? w _ hx103_4)).trans hx103_4
         replace hx103_5 := (HB.out.cell (World.block_lt_of_cell? w _ hx103_5)).trans hx103_5
         replace hx103_6 := (HB.out.cell (World.block_lt_of_cell? w _ hx103_6)).trans hx103_6
         replace p103 := eq_true p103
         replace q103 := eq_true q103
         go_wp2_with (first | ((with_reducible refine gate_dst (N := 5) rfl ?_);refine box_event ?hg (N := 5) ?hd (cs := #[.string (⟨#[]⟩ : ByteArray),.int .i64 0,.string (⟨#[]⟩ : ByteArray),.int .i64 0,.int .i64 0,.string (⟨#[]⟩ : ByteArray),.string (⟨#[]⟩ : ByteArray)]) (t := 30) ?hr ?_;(case hd => rfl);(case hg => rfl);(case hr => first | (go_simp;done) | (go_simp;rfl));intro gb104 hg w14 hbox hb;have n0_ := qq.mk (kw (g := gb101) (o := .cells #[.string a0_0,.slice (some ad103) l0_1.length c0_1,.slice A0_2 l0_2.length c0_2] 41 (0,0)) (by (with_reducible repeat (first | refine zz ?_ _ | refine zj ?_ | refine zq ?_ _));exact BK101.out) hb);have n1_ := qq.mk (zv (by repeat (first | (with_reducible first | exact HB.out | apply qj | apply qz | apply qk | refine qx ?_ GE101.out) | exact HB.out)) hb);have n2_ := qq.mk (hbox);have n3_ := qq.mk ((by rw [hg];exact (zw (by repeat (first | (with_reducible first | exact HB.out | apply qj | apply qz | apply qk | refine qx ?_ GE101.out) | exact HB.out))) : w.heap.size ≤ gb104));have n4_ := qq.mk ((by rw [hg];exact (zw (by repeat (first | (with_reducible first | exact HB.out | apply qj | apply qz | apply qk | refine qx ?_ GE101.out) | exact HB.out))) : w.heap.size ≤ gb104));have n5_ := qq.mk ((by rw [hg];exact Nat.ne_of_lt (blk_lt (g := gb101) (o := .cells #[.string a0_0,.slice (some ad103) l0_1.length c0_1,.slice A0_2 l0_2.length c0_2] 41 (0,0)) (by (with_reducible repeat (first | refine zz ?_ _ | refine zj ?_ | refine zq ?_ _));exact BK101.out)) : gb101 ≠ gb104));have n6_ := qq.mk ((by rw [hg];exact Nat.ne_of_gt (blk_lt (g := gb101) (o := .cells #[.string a0_0,.slice (some ad103) l0_1.length c0_1,.slice A0_2 l0_2.length c0_2] 41 (0,0)) (by (with_reducible repeat (first | refine zz ?_ _ | refine zj ?_ | refine zq ?_ _));exact BK101.out)) : gb104 ≠ gb101));clear BK101;clear HB;have BK101 := n0_;have HB := n1_;have BK104 := n2_;have GW104 := n3_;have GE104 := n4_;have NB101_104 := n5_;have NB104_101 := n6_;clear n0_ n1_ n2_ n3_ n4_ n5_ n6_;clear hb hbox hg;have hnb15 := NB104_101.out;have hnc15 := NB101_104.out;have hcz16_0 : w14.cell? ⟨gb104,0,none⟩ = some (.string (⟨#[]⟩ : ByteArray)) := (qw BK104.out 0).trans rfl;have hcz16_1 : w14.cell? ⟨gb104,1,none⟩ = some (.int .i64 0) := (qw BK104.out 1).trans rfl;have hcz16_2 : w14.cell? ⟨gb104,2,none⟩ = some (.string (⟨#[]⟩ : ByteArray)) := (qw BK104.out 2).trans rfl;have hcz16_3 : w14.cell? ⟨gb104,3,none⟩ = some (.int .i64 0) := (qw BK104.out 3).trans rfl;have hcz16_4 : w14.cell? ⟨gb104,4,none⟩ = some (.int .i64 0) := (qw BK104.out 4).trans rfl;have hcz16_5 : w14.cell? ⟨gb104,5,none⟩ = some (.string (⟨#[]⟩ : ByteArray)) := (qw BK104.out 5).trans rfl;have hcz16_6 : w14.cell? ⟨gb104,6,none⟩ = some (.string (⟨#[]⟩ : ByteArray)) := (qw BK104.out 6).trans rfl;have hfz16_0 := qv BK104.out 0;have hfz16_1 := qv BK104.out 1;have hfz16_2 := qv BK104.out 2;have hfz16_3 := qv BK104.out 3;have hfz16_4 := qv BK104.out 4;have hfz16_5 := qv BK104.out 5;have hfz16_6 := qv BK104.out 6) | ((with_reducible refine jv (f := 7) rfl ?_);refine goesL_ (some 18) rfl rfl Tryz.func7 (by kernel_rfl) rfl #[.agg #[.string ((vz l0_1 x12_1).f0),.int .i64 ((vz l0_1 x12_1).f1),.string ((vz l0_1 x12_1).f2),.int .i64 ((vz l0_1 x12_1).f3.f0),.int .i64 ((vz l0_1 x12_1).f3.f1),.string ((vz l0_1 x12_1).f3.f2),.string ((vz l0_1 x12_1).f3.f3)]] rfl (by (try simp only [List.map_toArray,List.map_cons,List.map_nil]);first | done | rfl | (simp only [List.length_drop,List.length_take];rfl)) ?_;(with_reducible refine (qjw.calls k1 ((vz l0_1 x12_1).f0) ((vz l0_1 x12_1).f1) ((vz l0_1 x12_1).f2) ((vz l0_1 x12_1).f3.f0) ((vz l0_1 x12_1).f3.f1) ((vz l0_1 x12_1).f3.f2) ((vz l0_1 x12_1).f3.f3) t105 _ A11.out).mono ?_);rintro e w17 ⟨rfl,hb⟩;refine ⟨_,rfl,?_⟩;have n0_ := qq.mk (kw (g := gb101) (o := .cells #[.string a0_0,.slice (some ad103) l0_1.length c0_1,.slice A0_2 l0_2.length c0_2] 41 (0,0)) (by (with_reducible repeat (first | refine zz ?_ _ | refine zj ?_ | refine zq ?_ _));refine blk_far ?_ NB101_104.out _;(with_reducible repeat (first | refine zz ?_ _ | refine zj ?_ | refine zq ?_ _));refine blk_far ?_ NB101_104.out _;(with_reducible repeat (first | refine zz ?_ _ | refine zj ?_ | refine zq ?_ _));refine blk_far ?_ NB101_104.out _;(with_reducible repeat (first | refine zz ?_ _ | refine zj ?_ | refine zq ?_ _));refine blk_far ?_ NB101_104.out _;(with_reducible repeat (first | refine zz ?_ _ | refine zj ?_ | refine zq ?_ _));refine blk_far ?_ NB101_104.out _;(with_reducible repeat (first | refine zz ?_ _ | refine zj ?_ | refine zq ?_ _));refine blk_far ?_ NB101_104.out _;(with_reducible repeat (first | refine zz ?_ _ | refine zj ?_ | refine zq ?_ _));refine blk_far ?_ NB101_104.out _;(with_reducible repeat (first | refine zz ?_ _ | refine zj ?_ | refine zq ?_ _));exact BK101.out) hb);have n1_ := qq.mk (kw (g := gb104) (o := .cells #[.string ((vz l0_1 x12_1).f0),.int .i64 ((vz l0_1 x12_1).f1),.string ((vz l0_1 x12_1).f2),.int .i64 ((vz l0_1 x12_1).f3.f0),.int .i64 ((vz l0_1 x12_1).f3.f1),.string ((vz l0_1 x12_1).f3.f2),.string ((vz l0_1 x12_1).f3.f3)] 30 (0,0)) (by (with_reducible repeat (first | refine zz ?_ _ | refine zj ?_ | refine zq ?_ _));refine blk_put (cs := #[.string ((vz l0_1 x12_1).f0),.int .i64 ((vz l0_1 x12_1).f1),.string ((vz l0_1 x12_1).f2),.int .i64 ((vz l0_1 x12_1).f3.f0),.int .i64 ((vz l0_1 x12_1).f3.f1),.string ((vz l0_1 x12_1).f3.f2),.string (⟨#[]⟩ : ByteArray)]) ?_ 6 _ rfl;(with_reducible repeat (first | refine zz ?_ _ | refine zj ?_ | refine zq ?_ _));refine blk_put (cs := #[.string ((vz l0_1 x12_1).f0),.int .i64 ((vz l0_1 x12_1).f1),.string ((vz l0_1 x12_1).f2),.int .i64 ((vz l0_1 x12_1).f3.f0),.int .i64 ((vz l0_1 x12_1).f3.f1),.string (⟨#[]⟩ : ByteArray),.string (⟨#[]⟩ : ByteArray)]) ?_ 5 _ rfl;(with_reducible repeat (first | refine zz ?_ _ | refine zj ?_ | refine zq ?_ _));refine blk_put (cs := #[.string ((vz l0_1 x12_1).f0),.int .i64 ((vz l0_1 x12_1).f1),.string ((vz l0_1 x12_1).f2),.int .i64 ((vz l0_1 x12_1).f3.f0),.int .i64 0,.string (⟨#[]⟩ : ByteArray),.string (⟨#[]⟩ : ByteArray)]) ?_ 4 _ rfl;(with_reducible repeat (first | refine zz ?_ _ | refine zj ?_ | refine zq ?_ _));refine blk_put (cs := #[.string ((vz l0_1 x12_1).f0),.int .i64 ((vz l0_1 x12_1).f1),.string ((vz l0_1 x12_1).f2),.int .i64 0,.int .i64 0,.string (⟨#[]⟩ : ByteArray),.string (⟨#[]⟩ : ByteArray)]) ?_ 3 _ rfl;(with_reducible repeat (first | refine zz ?_ _ | refine zj ?_ | refine zq ?_ _));refine blk_put (cs := #[.string ((vz l0_1 x12_1).f0),.int .i64 ((vz l0_1 x12_1).f1),.string (⟨#[]⟩ : ByteArray),.int .i64 0,.int .i64 0,.string (⟨#[]⟩ : ByteArray),.string (⟨#[]⟩ : ByteArray)]) ?_ 2 _ rfl;(with_reducible repeat (first | refine zz ?_ _ | refine zj ?_ | refine zq ?_ _));refine blk_put (cs := #[.string ((vz l0_1 x12_1).f0),.int .i64 0,.string (⟨#[]⟩ : ByteArray),.int .i64 0,.int .i64 0,.string (⟨#[]⟩ : ByteArray),.string (⟨#[]⟩ : ByteArray)]) ?_ 1 _ rfl;(with_reducible repeat (first | refine zz ?_ _ | refine zj ?_ | refine zq ?_ _));refine blk_put (cs := #[.string (⟨#[]⟩ : ByteArray),.int .i64 0,.string (⟨#[]⟩ : ByteArray),.int .i64 0,.int .i64 0,.string (⟨#[]⟩ : ByteArray),.string (⟨#[]⟩ : ByteArray)]) ?_ 0 _ rfl;(with_reducible repeat (first | refine zz ?_ _ | refine zj ?_ | refine zq ?_ _));exact BK104.out) hb);have n2_ := qq.mk (zv (by repeat (first | (with_reducible first | exact HB.out | apply qj | apply qz | apply qk | refine qx ?_ GE101.out | refine qx ?_ GE104.out) | exact HB.out)) hb);clear BK101;clear BK104;clear HB;have BK101 := n0_;have BK104 := n1_;have HB := n2_;clear n0_ n1_ n2_;(try clear hb);(try clear hb2);(try clear hk);(try clear hi)))
         go_roundg k1
         case measure => have := HK1.out;omega
         case rel => exact ⟨(x3_1 ++ (t105 ++ (⟨#[10]⟩ : ByteArray))),(wrap64 (x12_1 + 1)),(by first | rfl | (simp;done) | (simp [*];done)),(by first | rfl | (simp;done) | (simp [*];done)),H',⟨by have := HK1.out;omega⟩,⟨by (with_reducible repeat (first | refine zz ?_ _ | refine zj ?_ | refine zq ?_ _));exact BK101.out⟩,⟨by repeat (first | (with_reducible first | exact HB.out | apply qj | apply qz | apply qk | refine qx ?_ GE101.out | refine qx ?_ GE104.out) | exact HB.out)⟩⟩
        ·rw [if_neg c13] at H
         exact absurd H (by simp)
       ·rw [if_neg c12] at H
        exact absurd H (by simp)
      ·rw [if_neg c10] at H
       exact absurd H (by simp)
     ·rw [if_neg c9] at H
      exact absurd H (by simp)
    ·rw [if_neg c8] at H
     have c8b0 : decide (x12_1 < (l0_1.length : Int)) = false := decide_eq_false c8
     clear c8
     by_cases c18 : 4 + a0_0.size ≤ 9223372036854775807
     ·rw [if_pos c18] at H
      have c18b0 := eq_true c18
      have c18b1 : decide (4 + a0_0.size ≤ 9223372036854775807) = true := decide_eq_true c18
      try have c18b2 : (9223372036854775807 < 4 + a0_0.size) = False := eq_false (Nat.not_lt.2 c18)
      by_cases c19 : ((⟨#[99,97,112,126]⟩ : ByteArray) ++ a0_0).size + 1 ≤ 9223372036854775807
      ·rw [if_pos c19] at H
       have c19b0 := eq_true c19
       have c19b1 : decide (((⟨#[99,97,112,126]⟩ : ByteArray) ++ a0_0).size + 1 ≤ 9223372036854775807) = true := decide_eq_true c19
       try have c19b2 : (9223372036854775807 < ((⟨#[99,97,112,126]⟩ : ByteArray) ++ a0_0).size + 1) = False := eq_false (Nat.not_lt.2 c19)
       try (have c19b9 := c19b2;simp only [ByteArray.size_append,show (⟨#[99,97,112,126]⟩ : ByteArray).size = 4 from rfl] at c19b9)
       replace H := Option.bind_eq_some_iff.mp H
       obtain ⟨t106,A200,H⟩ := H
       replace H : ((qvk.f k1 t106).bind fun t109 => (if (((⟨#[99,97,112,126]⟩ : ByteArray) ++ a0_0) ++ (⟨#[126]⟩ : ByteArray)).size + t109.size ≤ 9223372036854775807 then (if ((((⟨#[99,97,112,126]⟩ : ByteArray) ++ a0_0) ++ (⟨#[126]⟩ : ByteArray)) ++ t109).size + 1 ≤ 9223372036854775807 then ((qvk.f k1 l0_2).bind fun t110 => (if (((((⟨#[99,97,112,126]⟩ : ByteArray) ++ a0_0) ++ (⟨#[126]⟩ : ByteArray)) ++ t109) ++ (⟨#[126]⟩ : ByteArray)).size + t110.size ≤ 9223372036854775807 then (some ((((((⟨#[99,97,112,126]⟩ : ByteArray) ++ a0_0) ++ (⟨#[126]⟩ : ByteArray)) ++ t109) ++ (⟨#[126]⟩ : ByteArray)) ++ t110)) else (none))) else (none)) else (none))) = some r := H
       have A20 := qq.mk A200
       clear A200
       replace H := Option.bind_eq_some_iff.mp H
       obtain ⟨t109,A210,H⟩ := H
       replace H : (if (((⟨#[99,97,112,126]⟩ : ByteArray) ++ a0_0) ++ (⟨#[126]⟩ : ByteArray)).size + t109.size ≤ 9223372036854775807 then (if ((((⟨#[99,97,112,126]⟩ : ByteArray) ++ a0_0) ++ (⟨#[126]⟩ : ByteArray)) ++ t109).size + 1 ≤ 9223372036854775807 then ((qvk.f k1 l0_2).bind fun t110 => (if (((((⟨#[99,97,112,126]⟩ : ByteArray) ++ a0_0) ++ (⟨#[126]⟩ : ByteArray)) ++ t109) ++ (⟨#[126]⟩ : ByteArray)).size + t110.size ≤ 9223372036854775807 then (some ((((((⟨#[99,97,112,126]⟩ : ByteArray) ++ a0_0) ++ (⟨#[126]⟩ : ByteArray)) ++ t109) ++ (⟨#[126]⟩ : ByteArray)) ++ t110)) else (none))) else (none)) else (none)) = some r := H
       have A21 := qq.mk A210
       clear A210
       by_cases c22 : (((⟨#[99,97,112,126]⟩ : ByteArray) ++ a0_0) ++ (⟨#[126]⟩ : ByteArray)).size + t109.size ≤ 9223372036854775807
       ·rw [if_pos c22] at H
        have c22b0 := eq_true c22
        have c22b1 : decide ((((⟨#[99,97,112,126]⟩ : ByteArray) ++ a0_0) ++ (⟨#[126]⟩ : ByteArray)).size + t109.size ≤ 9223372036854775807) = true := decide_eq_true c22
        try have c22b2 : (9223372036854775807 < (((⟨#[99,97,112,126]⟩ : ByteArray) ++ a0_0) ++ (⟨#[126]⟩ : ByteArray)).size + t109.size) = False := eq_false (Nat.not_lt.2 c22)
        try (have c22b9 := c22b2;simp only [ByteArray.size_append,show (⟨#[126]⟩ : ByteArray).size = 1 from rfl,show (⟨#[99,97,112,126]⟩ : ByteArray).size = 4 from rfl] at c22b9)
        by_cases c23 : ((((⟨#[99,97,112,126]⟩ : ByteArray) ++ a0_0) ++ (⟨#[126]⟩ : ByteArray)) ++ t109).size + 1 ≤ 9223372036854775807
        ·rw [if_pos c23] at H
         have c23b0 := eq_true c23
         have c23b1 : decide (((((⟨#[99,97,112,126]⟩ : ByteArray) ++ a0_0) ++ (⟨#[126]⟩ : ByteArray)) ++ t109).size + 1 ≤ 9223372036854775807) = true := decide_eq_true c23
         try have c23b2 : (9223372036854775807 < ((((⟨#[99,97,112,126]⟩ : ByteArray) ++ a0_0) ++ (⟨#[126]⟩ : ByteArray)) ++ t109).size + 1) = False := eq_false (Nat.not_lt.2 c23)
         try (have c23b9 := c23b2;simp only [ByteArray.size_append,show (⟨#[126]⟩ : ByteArray).size = 1 from rfl,show (⟨#[99,97,112,126]⟩ : ByteArray).size = 4 from rfl] at c23b9)
         replace H := Option.bind_eq_some_iff.mp H
         obtain ⟨t110,A240,H⟩ := H
         replace H : (if (((((⟨#[99,97,112,126]⟩ : ByteArray) ++ a0_0) ++ (⟨#[126]⟩ : ByteArray)) ++ t109) ++ (⟨#[126]⟩ : ByteArray)).size + t110.size ≤ 9223372036854775807 then (some ((((((⟨#[99,97,112,126]⟩ : ByteArray) ++ a0_0) ++ (⟨#[126]⟩ : ByteArray)) ++ t109) ++ (⟨#[126]⟩ : ByteArray)) ++ t110)) else (none)) = some r := H
         have A24 := qq.mk A240
         clear A240
         by_cases c25 : (((((⟨#[99,97,112,126]⟩ : ByteArray) ++ a0_0) ++ (⟨#[126]⟩ : ByteArray)) ++ t109) ++ (⟨#[126]⟩ : ByteArray)).size + t110.size ≤ 9223372036854775807
         ·rw [if_pos c25] at H
          have c25b0 := eq_true c25
          have c25b1 : decide ((((((⟨#[99,97,112,126]⟩ : ByteArray) ++ a0_0) ++ (⟨#[126]⟩ : ByteArray)) ++ t109) ++ (⟨#[126]⟩ : ByteArray)).size + t110.size ≤ 9223372036854775807) = true := decide_eq_true c25
          try have c25b2 : (9223372036854775807 < (((((⟨#[99,97,112,126]⟩ : ByteArray) ++ a0_0) ++ (⟨#[126]⟩ : ByteArray)) ++ t109) ++ (⟨#[126]⟩ : ByteArray)).size + t110.size) = False := eq_false (Nat.not_lt.2 c25)
          try (have c25b9 := c25b2;simp only [ByteArray.size_append,show (⟨#[126]⟩ : ByteArray).size = 1 from rfl,show (⟨#[99,97,112,126]⟩ : ByteArray).size = 4 from rfl] at c25b9)
          obtain rfl := Option.some.inj H
          try go_wp2
          have n0_ := qq.mk (zj BK101.out)
          have n1_ := qq.mk (qk HB.out)
          clear BK101
          clear HB
          have BK101 := n0_
          have HB := n1_
          clear n0_ n1_
          refine start_ (n := 14) (S := fun w' => w'.cell? ⟨gb101,0,none⟩ = some (.string a0_0) ∧ w'.cell? ⟨gb101,1,none⟩ = some (.slice A0_1 l0_1.length c0_1) ∧ w'.cell? ⟨gb101,2,none⟩ = some (.slice A0_2 l0_2.length c0_2)) (ds := []) #[false,false,false,false,false,false,false,false,false,false,false,false,false,false] (by kernel_rfl) rfl rfl ⟨(qw BK101.out 0).trans rfl,(qw BK101.out 1).trans rfl,(qw BK101.out 2).trans rfl⟩ (fun hHeld => ?_);refine with_tabW qjj.tab9 qjj.bits9 (fun HT_ HW_ => ?_)
          generalize wr.drew = w26 at BK101 HB hHeld ⊢
          refine pure_ (i := 0) (N := some 22) (v := ?_) (a' := ?_) #[true,false,false,false,false,false,false,false,false,false,false,false,false,false] rfl rfl (any_of HT_.out (by kernel_rfl)) (fun _ _ _ h => h) (Or.inl ⟨by rfl,?_⟩) ?_ ?_
          rotate_left
          ·intro w'
           go_simp
           with_reducible rfl
          rotate_left
          ·simp only [Act.put,List.setIfInBounds_toArray,List.set_cons_zero,List.set_cons_succ,i64_w,i32_w]
           rfl
          refine pure_ (i := 4) (N := some 26) (v := ?_) (a' := ?_) #[true,false,false,false,true,false,false,false,false,false,false,false,false,false] rfl rfl (any_of HT_.out (by kernel_rfl)) (fun _ _ _ h => h) (Or.inl ⟨by rfl,?_⟩) ?_ ?_
          rotate_left
          ·intro w'
           go_simp
           with_reducible rfl
          rotate_left
          ·simp only [Act.put,List.setIfInBounds_toArray,List.set_cons_zero,List.set_cons_succ,i64_w,i32_w]
           rfl
          refine pure_ (i := 9) (N := some 31) (v := ?_) (a' := ?_) #[true,false,false,false,true,false,false,false,false,true,false,false,false,false] rfl rfl (any_of HT_.out (by kernel_rfl)) (fun _ _ _ h => h) (Or.inl ⟨by rfl,?_⟩) ?_ ?_
          rotate_left
          ·intro w'
           go_simp
           with_reducible rfl
          rotate_left
          ·simp only [Act.put,List.setIfInBounds_toArray,List.set_cons_zero,List.set_cons_succ,i64_w,i32_w]
           rfl
          refine take_ (i := 1) (N := some 23) (v := ?_) (a' := ?_) #[true,true,false,false,true,false,false,false,false,true,false,false,false,false] rfl rfl (take_ofW HT_.out HW_.out (by kernel_rfl)) (fun _ _ _ h => h) (Or.inl ⟨by rfl,?_⟩) hHeld ?_ ?_
          rotate_left
          ·rintro w' ⟨s0,s1,s2⟩
           go_simp
           with_reducible rfl
          rotate_left
          ·simp only [Act.put,List.setIfInBounds_toArray,List.set_cons_zero,List.set_cons_succ,i64_w,i32_w]
           rfl
          refine pure_ (i := 2) (N := some 24) (v := ?_) (a' := ?_) #[true,true,true,false,true,false,false,false,false,true,false,false,false,false] rfl rfl (any_of HT_.out (by kernel_rfl)) (fun _ _ _ h => h) (Or.inl ⟨by rfl,?_⟩) ?_ ?_
          rotate_left
          ·intro w'
           go_simp
           with_reducible rfl
          rotate_left
          ·simp only [Act.put,List.setIfInBounds_toArray,List.set_cons_zero,List.set_cons_succ,i64_w,i32_w]
           rfl
          refine pure_ (i := 3) (N := some 25) (v := ?_) (a' := ?_) #[true,true,true,true,true,false,false,false,false,true,false,false,false,false] rfl rfl (any_of HT_.out (by kernel_rfl)) (fun _ _ _ h => h) (Or.inl ⟨by rfl,?_⟩) ?_ ?_
          rotate_left
          ·intro w'
           go_simp
           with_reducible rfl
          rotate_left
          ·simp only [Act.put,List.setIfInBounds_toArray,List.set_cons_zero,List.set_cons_succ,i64_w,i32_w]
           rfl
          refine take_ (i := 10) (N := some 32) (v := ?_) (a' := ?_) #[true,true,true,true,true,false,false,false,false,true,true,false,false,false] rfl rfl (take_ofW HT_.out HW_.out (by kernel_rfl)) (fun _ _ _ h => h) (Or.inl ⟨by rfl,?_⟩) hHeld ?_ ?_
          rotate_left
          ·rintro w' ⟨s0,s1,s2⟩
           go_simp
           with_reducible rfl
          rotate_left
          ·simp only [Act.put,List.setIfInBounds_toArray,List.set_cons_zero,List.set_cons_succ,i64_w,i32_w]
           rfl
          refine one_ (i := 5) (N := some 27) #[true,true,true,true,true,true,false,false,false,true,true,false,false,false] rfl rfl (one_of HT_.out (by kernel_rfl)) (by decide) (fun K hK => ?_)
          refine bytesGoes_ (s := x3_1) (by rfl) rfl rfl rfl ?_
          with_reducible refine (bytesOfS.calls x3_1 t106 _ A20.out).mono ?_
          rintro e w27 ⟨v107,rfl,ho0,hb⟩
          refine ⟨_,rfl,?_⟩
          have n0_ := qq.mk (Kd.V_lower (Kd.V_mono (ok' := fun k_ => k_ ≠ gb101) ho0 (fun k_ hk_ => (Kd.freshB (g := gb101) (o := .cells #[.string a0_0,.slice A0_1 l0_1.length c0_1,.slice A0_2 l0_2.length c0_2] 41 (0,0)) (by (with_reducible repeat (first | refine zz ?_ _ | refine zj ?_ | refine zq ?_ _));exact BK101.out) k_ hk_))) (zw (by repeat (first | (with_reducible first | exact HB.out | apply qj | apply qz | apply qk | refine qx ?_ GE101.out) | exact HB.out))))
          have n1_ := qq.mk (kw (g := gb101) (o := .cells #[.string a0_0,.slice A0_1 l0_1.length c0_1,.slice A0_2 l0_2.length c0_2] 41 (0,0)) (by (with_reducible repeat (first | refine zz ?_ _ | refine zj ?_ | refine zq ?_ _));exact BK101.out) hb)
          have n2_ := qq.mk (zv (by repeat (first | (with_reducible first | exact HB.out | apply qj | apply qz | apply qk | refine qx ?_ GE101.out) | exact HB.out)) hb)
          clear BK101
          clear HB
          have HO108 := n0_
          have BK101 := n1_
          have HB := n2_
          clear n0_ n1_ n2_
          (try clear hb)
          (try clear hb2)
          (try clear hk)
          (try clear hi)
          (try clear ho0)
          obtain ⟨Ao28,co28,eo28⟩ := Kd.V_slice HO108.out
          (first | subst eo28 | (injection eo28 with f1_ f2_ f3_;have f4_ := f1_.symm;have f5_ := f3_.symm;clear f1_ f2_ f3_;subst f4_;subst f5_))
          refine hK.out _ _ ⟨(qw BK101.out 0).trans rfl,(qw BK101.out 1).trans rfl,(qw BK101.out 2).trans rfl⟩ (fun hHeld => ?_)
          clear hK K
          refine norm_ (a' := ?_) ?_ ?_
          rotate_left
          ·show Act.put _ (some 27) _ = _
           simp only [Act.put,List.setIfInBounds_toArray,List.set_cons_zero,List.set_cons_succ,i64_w,i32_w]
           rfl
          refine one_ (i := 6) (N := some 28) #[true,true,true,true,true,true,true,false,false,true,true,false,false,false] rfl rfl (one_of HT_.out (by kernel_rfl)) (by decide) (fun K hK => ?_)
          refine goes_ Tryz.func29 (by kernel_rfl) rfl #[.slice Ao28 t106.length co28] (by rfl) rfl rfl (by (try simp only [List.map_toArray,List.map_cons,List.map_nil]);first | done | rfl | (simp only [List.length_drop,List.length_take];rfl)) ?_
          with_reducible refine (qvk.calls k1 _ _ t106 t109 _ ?side1 ?side2 A21.out).mono ?_
          (case side1 => repeat (first | exact (Kd.V_reads' HO108.out).2.2 | (with_reducible refine Kd.C_alloc ?_ _) | (with_reducible refine Kd.C_drewN ?_ _) | (with_reducible refine Kd.C_drew ?_)))
          (case side2 => exact (Kd.V_reads' HO108.out).2.1)
          rintro e w29 ⟨rfl,hb⟩
          refine ⟨_,rfl,?_⟩
          have n0_ := qq.mk (Kd.V_below (by (with_reducible repeat (first | apply Kd.kk | apply Kd.kj | apply Kd.kv));exact HO108.out) hb)
          have n1_ := qq.mk (kw (g := gb101) (o := .cells #[.string a0_0,.slice A0_1 l0_1.length c0_1,.slice A0_2 l0_2.length c0_2] 41 (0,0)) (by (with_reducible repeat (first | refine zz ?_ _ | refine zj ?_ | refine zq ?_ _));exact BK101.out) hb)
          have n2_ := qq.mk (zv (by repeat (first | (with_reducible first | exact HB.out | apply qj | apply qz | apply qk | refine qx ?_ GE101.out) | exact HB.out)) hb)
          clear HO108
          clear BK101
          clear HB
          have HO108 := n0_
          have BK101 := n1_
          have HB := n2_
          clear n0_ n1_ n2_
          (try clear hb)
          (try clear hb2)
          (try clear hk)
          (try clear hi)
          refine hK.out _ _ ⟨(qw BK101.out 0).trans rfl,(qw BK101.out 1).trans rfl,(qw BK101.out 2).trans rfl⟩ (fun hHeld => ?_)
          clear hK K
          refine norm_ (a' := ?_) ?_ ?_
          rotate_left
          ·show Act.put _ (some 28) _ = _
           simp only [Act.put,List.setIfInBounds_toArray,List.set_cons_zero,List.set_cons_succ,i64_w,i32_w]
           rfl
          refine pure_ (i := 7) (N := some 29) (v := ?_) (a' := ?_) #[true,true,true,true,true,true,true,true,false,true,true,false,false,false] rfl rfl (any_of HT_.out (by kernel_rfl)) (fun _ _ _ h => h) (Or.inl ⟨by rfl,?_⟩) ?_ ?_
          rotate_left
          ·intro w'
           go_simp
           with_reducible rfl
          rotate_left
          ·simp only [Act.put,List.setIfInBounds_toArray,List.set_cons_zero,List.set_cons_succ,i64_w,i32_w]
           rfl
          refine pure_ (i := 8) (N := some 30) (v := ?_) (a' := ?_) #[true,true,true,true,true,true,true,true,true,true,true,false,false,false] rfl rfl (any_of HT_.out (by kernel_rfl)) (fun _ _ _ h => h) (Or.inl ⟨by rfl,?_⟩) ?_ ?_
          rotate_left
          ·intro w'
           go_simp
           with_reducible rfl
          rotate_left
          ·simp only [Act.put,List.setIfInBounds_toArray,List.set_cons_zero,List.set_cons_succ,i64_w,i32_w]
           rfl
          refine one_ (i := 11) (N := some 33) #[true,true,true,true,true,true,true,true,true,true,true,true,false,false] rfl rfl (one_of HT_.out (by kernel_rfl)) (by decide) (fun K hK => ?_)
          refine goes_ Tryz.func29 (by kernel_rfl) rfl #[.slice A0_2 l0_2.length c0_2] (by rfl) rfl rfl (by (try simp only [List.map_toArray,List.map_cons,List.map_nil]);first | done | rfl | (simp only [List.length_drop,List.length_take];rfl)) ?_
          with_reducible refine (qvk.calls k1 _ _ l0_2 t110 _ ?side1 ?side2 A24.out).mono ?_
          (case side1 => repeat (first | exact (Kd.C_below HR0_2.out HB.out) | (with_reducible refine Kd.C_alloc ?_ _) | (with_reducible refine Kd.C_drewN ?_ _) | (with_reducible refine Kd.C_drew ?_)))
          (case side2 => exact HC0_2.out)
          rintro e w30 ⟨rfl,hb⟩
          refine ⟨_,rfl,?_⟩
          have n0_ := qq.mk (Kd.V_below (by (with_reducible repeat (first | apply Kd.kk | apply Kd.kj | apply Kd.kv));exact HO108.out) hb)
          have n1_ := qq.mk (kw (g := gb101) (o := .cells #[.string a0_0,.slice A0_1 l0_1.length c0_1,.slice A0_2 l0_2.length c0_2] 41 (0,0)) (by (with_reducible repeat (first | refine zz ?_ _ | refine zj ?_ | refine zq ?_ _));exact BK101.out) hb)
          have n2_ := qq.mk (zv (by repeat (first | (with_reducible first | exact HB.out | apply qj | apply qz | apply qk | refine qx ?_ GE101.out) | exact HB.out)) hb)
          clear HO108
          clear BK101
          clear HB
          have HO108 := n0_
          have BK101 := n1_
          have HB := n2_
          clear n0_ n1_ n2_
          (try clear hb)
          (try clear hb2)
          (try clear hk)
          (try clear hi)
          refine hK.out _ _ ⟨(qw BK101.out 0).trans rfl,(qw BK101.out 1).trans rfl,(qw BK101.out 2).trans rfl⟩ (fun hHeld => ?_)
          clear hK K
          refine norm_ (a' := ?_) ?_ ?_
          rotate_left
          ·show Act.put _ (some 33) _ = _
           simp only [Act.put,List.setIfInBounds_toArray,List.set_cons_zero,List.set_cons_succ,i64_w,i32_w]
           rfl
          refine pure_ (i := 12) (N := some 34) (v := ?_) (a' := ?_) #[true,true,true,true,true,true,true,true,true,true,true,true,true,false] rfl rfl (any_of HT_.out (by kernel_rfl)) (fun _ _ _ h => h) (Or.inl ⟨by rfl,?_⟩) ?_ ?_
          rotate_left
          ·intro w'
           go_simp
           with_reducible rfl
          rotate_left
          ·simp only [Act.put,List.setIfInBounds_toArray,List.set_cons_zero,List.set_cons_succ,i64_w,i32_w]
           rfl
          refine pure_ (i := 13) (N := some 2) (v := ?_) (a' := ?_) #[true,true,true,true,true,true,true,true,true,true,true,true,true,true] rfl rfl (any_of HT_.out (by kernel_rfl)) (fun _ _ _ h => h) (Or.inl ⟨by rfl,?_⟩) ?_ ?_
          rotate_left
          ·intro w'
           go_simp
           with_reducible rfl
          rotate_left
          ·simp only [Act.put,List.setIfInBounds_toArray,List.set_cons_zero,List.set_cons_succ,i64_w,i32_w]
           rfl
          refine done_ (done_of HT_.out (by kernel_rfl)) ?_
          try go_wp2
          go_ret
          exact ⟨by first | rfl | (simp [*,jk,jj] <;> rfl),by repeat (first | (with_reducible first | exact HB.out | apply qj | apply qz | apply qk | refine qx ?_ GE101.out) | exact HB.out)⟩
         ·rw [if_neg c25] at H
          exact absurd H (by simp)
        ·rw [if_neg c23] at H
         exact absurd H (by simp)
       ·rw [if_neg c22] at H
        exact absurd H (by simp)
      ·rw [if_neg c19] at H
       exact absurd H (by simp)
     ·rw [if_neg c18] at H
      exact absurd H (by simp)
 ·replace c3 := Bool.eq_false_iff.mpr c3
  subst c3
  have H1 : (some (⟨#[]⟩ : ByteArray)) = some r := by rw [if_neg (show ¬ (false = true) by decide)] at H;exact H
  clear H
  have H := H1
  clear H1
  obtain rfl := Option.some.inj H
  go_enter Tryz.func11,Tryz.ntmps11
  go_wp2_with (first | ((with_reducible refine gate_dst (N := 1) rfl ?_);refine box_event ?hg (N := 1) ?hd (cs := #[.string a0_0,.slice A0_1 l0_1.length c0_1,.slice A0_2 l0_2.length c0_2]) (t := 41) ?hr ?_;(case hd => rfl);(case hg => rfl);(case hr => first | (go_simp;done) | (go_simp;rfl));intro gb101 hg w31 hbox hb;have n0_ := qq.mk (zv (by repeat (first | (with_reducible first | exact HB.out | apply qj | apply qz | apply qk) | exact HB.out)) hb);have n1_ := qq.mk (hbox);have n2_ := qq.mk ((by rw [hg];exact (zw (by repeat (first | (with_reducible first | exact HB.out | apply qj | apply qz | apply qk) | exact HB.out))) : w.heap.size ≤ gb101));have n3_ := qq.mk ((by rw [hg];exact (zw (by repeat (first | (with_reducible first | exact HB.out | apply qj | apply qz | apply qk) | exact HB.out))) : w.heap.size ≤ gb101));clear HB;have HB := n0_;have BK101 := n1_;have GW101 := n2_;have GE101 := n3_;clear n0_ n1_ n2_ n3_;clear hb hbox hg;have hcz32_0 : w31.cell? ⟨gb101,0,none⟩ = some (.string a0_0) := (qw BK101.out 0).trans rfl;have hcz32_1 : w31.cell? ⟨gb101,1,none⟩ = some (.slice A0_1 l0_1.length c0_1) := (qw BK101.out 1).trans rfl;have hcz32_2 : w31.cell? ⟨gb101,2,none⟩ = some (.slice A0_2 l0_2.length c0_2) := (qw BK101.out 2).trans rfl;have hfz32_0 := qv BK101.out 0;have hfz32_1 := qv BK101.out 1;have hfz32_2 := qv BK101.out 2) | ((with_reducible refine jv (f := 28) rfl ?_);refine goesL_ (some 7) rfl rfl Tryz.func28 (by kernel_rfl) rfl #[.agg #[.string a0_0,.slice A0_1 l0_1.length c0_1,.slice A0_2 l0_2.length c0_2]] rfl (by (try simp only [List.map_toArray,List.map_cons,List.map_nil]);first | done | rfl | (simp only [List.length_drop,List.length_take];rfl)) ?_;(with_reducible refine (qjx.calls k a0_0 _ _ l0_1 _ _ l0_2 false _ ?side1 ?side2 ?side3 ?side4 A2.out).mono ?_);(case side1 => repeat (first | exact (Kd.C_below HR0_1.out HB.out) | (with_reducible refine Kd.C_alloc ?_ _) | (with_reducible refine Kd.C_drewN ?_ _) | (with_reducible refine Kd.C_drew ?_)));(case side2 => exact HC0_1.out);(case side3 => repeat (first | exact (Kd.C_below HR0_2.out HB.out) | (with_reducible refine Kd.C_alloc ?_ _) | (with_reducible refine Kd.C_drewN ?_ _) | (with_reducible refine Kd.C_drew ?_)));(case side4 => exact HC0_2.out);rintro e w33 ⟨rfl,hb⟩;refine ⟨_,rfl,?_⟩;have n0_ := qq.mk (kw (g := gb101) (o := .cells #[.string a0_0,.slice A0_1 l0_1.length c0_1,.slice A0_2 l0_2.length c0_2] 41 (0,0)) (by (with_reducible repeat (first | refine zz ?_ _ | refine zj ?_ | refine zq ?_ _));exact BK101.out) hb);have n1_ := qq.mk (zv (by repeat (first | (with_reducible first | exact HB.out | apply qj | apply qz | apply qk | refine qx ?_ GE101.out) | exact HB.out)) hb);clear BK101;clear HB;have BK101 := n0_;have HB := n1_;clear n0_ n1_;(try clear hb);(try clear hb2);(try clear hk);(try clear hi)))
  go_ret
  exact ⟨by first | rfl | (simp [*,jk,jj] <;> rfl),by repeat (first | (with_reducible first | exact HB.out | apply qj | apply qz | apply qk | refine qx ?_ GE101.out) | exact HB.out)⟩
def qqx.f (a0_0 : Int) (a0_1 : Int) (a0_2 : ByteArray) (a0_3 : ByteArray) (a1 : Int) : Option (Int) := if (wrap64 (a1 - (a0_2.size : Int))) < 0 then (some (-1)) else (if (wrap64 ((wrap64 (a1 - (a0_2.size : Int))) - (a0_3.size : Int))) < 0 then (some (-1)) else (some (wrap64 ((wrap64 (a1 - (a0_2.size : Int))) - (a0_3.size : Int)))))
set_option maxHeartbeats 8000000 in
set_option maxRecDepth 100000 in
theorem qqx.calls (a0_0 : Int) (a0_1 : Int) (a0_2 : ByteArray) (a0_3 : ByteArray) (a1 : Int) (r : Int) (w : World) (h : qqx.f a0_0 a0_1 a0_2 a0_3 a1 = some r) :
  Calls Tryz.prog 19 #[.agg #[.int .i64 a0_0,.int .i64 a0_1,.string a0_2,.string a0_3],.int .i64 a1] w fun e w' => e = .returned (.int .i64 r) ∧ Below w.heap.size w w' := by
 have hu23 := Tryz.underlying23
 have HB := qq.mk (Below.refl w.heap.size w)
 have H : (if (wrap64 (a1 - (a0_2.size : Int))) < 0 then (some (-1)) else (if (wrap64 ((wrap64 (a1 - (a0_2.size : Int))) - (a0_3.size : Int))) < 0 then (some (-1)) else (some (wrap64 ((wrap64 (a1 - (a0_2.size : Int))) - (a0_3.size : Int)))))) = some r := h
 clear h
 by_cases c3 : (wrap64 (a1 - (a0_2.size : Int))) < 0
 ·rw [if_pos c3] at H
  have c3b0 : decide ((wrap64 (a1 - (a0_2.size : Int))) < 0) = true := decide_eq_true c3
  clear c3
  obtain rfl := Option.some.inj H
  go_enter Tryz.func19,Tryz.ntmps19
  go_wp2_with (first | ((with_reducible refine gate_dst (N := 2) rfl ?_);refine box_event ?hg (N := 2) ?hd (cs := #[.int .i64 a0_0,.int .i64 a0_1,.string a0_2,.string a0_3]) (t := 23) ?hr ?_;(case hd => rfl);(case hg => rfl);(case hr => first | (go_simp;done) | (go_simp;rfl));intro gb101 hg w4 hbox hb;have n0_ := qq.mk (zv (by repeat (first | (with_reducible first | exact HB.out | apply qj | apply qz | apply qk) | exact HB.out)) hb);have n1_ := qq.mk (hbox);have n2_ := qq.mk ((by rw [hg];exact (zw (by repeat (first | (with_reducible first | exact HB.out | apply qj | apply qz | apply qk) | exact HB.out))) : w.heap.size ≤ gb101));have n3_ := qq.mk ((by rw [hg];exact (zw (by repeat (first | (with_reducible first | exact HB.out | apply qj | apply qz | apply qk) | exact HB.out))) : w.heap.size ≤ gb101));clear HB;have HB := n0_;have BK101 := n1_;have GW101 := n2_;have GE101 := n3_;clear n0_ n1_ n2_ n3_;clear hb hbox hg;have hcz5_0 : w4.cell? ⟨gb101,0,none⟩ = some (.int .i64 a0_0) := (qw BK101.out 0).trans rfl;have hcz5_1 : w4.cell? ⟨gb101,1,none⟩ = some (.int .i64 a0_1) := (qw BK101.out 1).trans rfl;have hcz5_2 : w4.cell? ⟨gb101,2,none⟩ = some (.string a0_2) := (qw BK101.out 2).trans rfl;have hcz5_3 : w4.cell? ⟨gb101,3,none⟩ = some (.string a0_3) := (qw BK101.out 3).trans rfl;have hfz5_0 := qv BK101.out 0;have hfz5_1 := qv BK101.out 1;have hfz5_2 := qv BK101.out 2;have hfz5_3 := qv BK101.out 3))
  go_ret
  exact ⟨by first | rfl | (simp [*,jk,jj] <;> rfl),by repeat (first | (with_reducible first | exact HB.out | apply qj | apply qz | apply qk | refine qx ?_ GE101.out) | exact HB.out)⟩
 ·rw [if_neg c3] at H
  have c3b0 : decide ((wrap64 (a1 - (a0_2.size : Int))) < 0) = false := decide_eq_false c3
  clear c3
  by_cases c6 : (wrap64 ((wrap64 (a1 - (a0_2.size : Int))) - (a0_3.size : Int))) < 0
  ·rw [if_pos c6] at H
   have c6b0 : decide ((wrap64 ((wrap64 (a1 - (a0_2.size : Int))) - (a0_3.size : Int))) < 0) = true := decide_eq_true c6
   clear c6
   obtain rfl := Option.some.inj H
   go_enter Tryz.func19,Tryz.ntmps19
   go_wp2_with (first | ((with_reducible refine gate_dst (N := 2) rfl ?_);refine box_event ?hg (N := 2) ?hd (cs := #[.int .i64 a0_0,.int .i64 a0_1,.string a0_2,.string a0_3]) (t := 23) ?hr ?_;(case hd => rfl);(case hg => rfl);(case hr => first | (go_simp;done) | (go_simp;rfl));intro gb101 hg w7 hbox hb;have n0_ := qq.mk (zv (by repeat (first | (with_reducible first | exact HB.out | apply qj | apply qz | apply qk) | exact HB.out)) hb);have n1_ := qq.mk (hbox);have n2_ := qq.mk ((by rw [hg];exact (zw (by repeat (first | (with_reducible first | exact HB.out | apply qj | apply qz | apply qk) | exact HB.out))) : w.heap.size ≤ gb101));have n3_ := qq.mk ((by rw [hg];exact (zw (by repeat (first | (with_reducible first | exact HB.out | apply qj | apply qz | apply qk) | exact HB.out))) : w.heap.size ≤ gb101));clear HB;have HB := n0_;have BK101 := n1_;have GW101 := n2_;have GE101 := n3_;clear n0_ n1_ n2_ n3_;clear hb hbox hg;have hcz8_0 : w7.cell? ⟨gb101,0,none⟩ = some (.int .i64 a0_0) := (qw BK101.out 0).trans rfl;have hcz8_1 : w7.cell? ⟨gb101,1,none⟩ = some (.int .i64 a0_1) := (qw BK101.out 1).trans rfl;have hcz8_2 : w7.cell? ⟨gb101,2,none⟩ = some (.string a0_2) := (qw BK101.out 2).trans rfl;have hcz8_3 : w7.cell? ⟨gb101,3,none⟩ = some (.string a0_3) := (qw BK101.out 3).trans rfl;have hfz8_0 := qv BK101.out 0;have hfz8_1 := qv BK101.out 1;have hfz8_2 := qv BK101.out 2;have hfz8_3 := qv BK101.out 3))
   go_ret
   exact ⟨by first | rfl | (simp [*,jk,jj] <;> rfl),by repeat (first | (with_reducible first | exact HB.out | apply qj | apply qz | apply qk | refine qx ?_ GE101.out) | exact HB.out)⟩
  ·rw [if_neg c6] at H
   have c6b0 : decide ((wrap64 ((wrap64 (a1 - (a0_2.size : Int))) - (a0_3.size : Int))) < 0) = false := decide_eq_false c6
   clear c6
   obtain rfl := Option.some.inj H
   go_enter Tryz.func19,Tryz.ntmps19
   go_wp2_with (first | ((with_reducible refine gate_dst (N := 2) rfl ?_);refine box_event ?hg (N := 2) ?hd (cs := #[.int .i64 a0_0,.int .i64 a0_1,.string a0_2,.string a0_3]) (t := 23) ?hr ?_;(case hd => rfl);(case hg => rfl);(case hr => first | (go_simp;done) | (go_simp;rfl));intro gb101 hg w9 hbox hb;have n0_ := qq.mk (zv (by repeat (first | (with_reducible first | exact HB.out | apply qj | apply qz | apply qk) | exact HB.out)) hb);have n1_ := qq.mk (hbox);have n2_ := qq.mk ((by rw [hg];exact (zw (by repeat (first | (with_reducible first | exact HB.out | apply qj | apply qz | apply qk) | exact HB.out))) : w.heap.size ≤ gb101));have n3_ := qq.mk ((by rw [hg];exact (zw (by repeat (first | (with_reducible first | exact HB.out | apply qj | apply qz | apply qk) | exact HB.out))) : w.heap.size ≤ gb101));clear HB;have HB := n0_;have BK101 := n1_;have GW101 := n2_;have GE101 := n3_;clear n0_ n1_ n2_ n3_;clear hb hbox hg;have hcz10_0 : w9.cell? ⟨gb101,0,none⟩ = some (.int .i64 a0_0) := (qw BK101.out 0).trans rfl;have hcz10_1 : w9.cell? ⟨gb101,1,none⟩ = some (.int .i64 a0_1) := (qw BK101.out 1).trans rfl;have hcz10_2 : w9.cell? ⟨gb101,2,none⟩ = some (.string a0_2) := (qw BK101.out 2).trans rfl;have hcz10_3 : w9.cell? ⟨gb101,3,none⟩ = some (.string a0_3) := (qw BK101.out 3).trans rfl;have hfz10_0 := qv BK101.out 0;have hfz10_1 := qv BK101.out 1;have hfz10_2 := qv BK101.out 2;have hfz10_3 := qv BK101.out 3))
   go_ret
   exact ⟨by first | rfl | (simp [*,jk,jj] <;> rfl),by repeat (first | (with_reducible first | exact HB.out | apply qj | apply qz | apply qk | refine qx ?_ GE101.out) | exact HB.out)⟩
def qzv.f (a0_0 : Int) (a0_1 : Int) (a0_2 : ByteArray) (a0_3 : ByteArray) : Option (Int × Int × ByteArray × ByteArray) := some (a0_0,a0_1,a0_2,a0_3)
set_option maxHeartbeats 8000000 in
set_option maxRecDepth 100000 in
theorem qzv.calls (a0_0 : Int) (a0_1 : Int) (a0_2 : ByteArray) (a0_3 : ByteArray) (r1 : Int) (r2 : Int) (r3 : ByteArray) (r4 : ByteArray) (w : World) (h : qzv.f a0_0 a0_1 a0_2 a0_3 = some (r1,r2,r3,r4)) :
  Calls Tryz.prog 23 #[.agg #[.int .i64 a0_0,.int .i64 a0_1,.string a0_2,.string a0_3]] w fun e w' => e = .returned (.agg #[.int .i64 r1,.int .i64 r2,.string r3,.string r4]) ∧ Below w.heap.size w w' := by
 have hu23 := Tryz.underlying23
 have hu28 := Tryz.underlying28
 have HB := qq.mk (Below.refl w.heap.size w)
 have H : (some (a0_0,a0_1,a0_2,a0_3)) = some (r1,r2,r3,r4) := h
 clear h
 simp only [Option.some.injEq,Prod.mk.injEq] at H
 obtain ⟨rfl,rfl,rfl,rfl⟩ := H
 go_enter Tryz.func23,Tryz.ntmps23
 go_wp2_with (first | ((with_reducible refine gate_dst (N := 1) rfl ?_);refine box_event ?hg (N := 1) ?hd (cs := #[.int .i64 a0_0,.int .i64 a0_1,.string a0_2,.string a0_3]) (t := 23) ?hr ?_;(case hd => rfl);(case hg => rfl);(case hr => first | (go_simp;done) | (go_simp;rfl));intro gb101 hg w2 hbox hb;have n0_ := qq.mk (zv (by repeat (first | (with_reducible first | exact HB.out | apply qj | apply qz | apply qk) | exact HB.out)) hb);have n1_ := qq.mk (hbox);have n2_ := qq.mk ((by rw [hg];exact (zw (by repeat (first | (with_reducible first | exact HB.out | apply qj | apply qz | apply qk) | exact HB.out))) : w.heap.size ≤ gb101));have n3_ := qq.mk ((by rw [hg];exact (zw (by repeat (first | (with_reducible first | exact HB.out | apply qj | apply qz | apply qk) | exact HB.out))) : w.heap.size ≤ gb101));clear HB;have HB := n0_;have BK101 := n1_;have GW101 := n2_;have GE101 := n3_;clear n0_ n1_ n2_ n3_;clear hb hbox hg) | ((with_reducible refine gate_dst (N := 2) rfl ?_);refine box_event ?hg (N := 2) ?hd (cs := #[.int .i64 0,.int .i64 0,.string (⟨#[]⟩ : ByteArray),.string (⟨#[]⟩ : ByteArray)]) (t := 28) ?hr ?_;(case hd => rfl);(case hg => rfl);(case hr => first | (go_simp;done) | (go_simp;rfl));intro gb102 hg w3 hbox hb;have n0_ := qq.mk (kw (g := gb101) (o := .cells #[.int .i64 a0_0,.int .i64 a0_1,.string a0_2,.string a0_3] 23 (0,0)) (by (with_reducible repeat (first | refine zz ?_ _ | refine zj ?_ | refine zq ?_ _));exact BK101.out) hb);have n1_ := qq.mk (zv (by repeat (first | (with_reducible first | exact HB.out | apply qj | apply qz | apply qk | refine qx ?_ GE101.out) | exact HB.out)) hb);have n2_ := qq.mk (hbox);have n3_ := qq.mk ((by rw [hg];exact (zw (by repeat (first | (with_reducible first | exact HB.out | apply qj | apply qz | apply qk | refine qx ?_ GE101.out) | exact HB.out))) : w.heap.size ≤ gb102));have n4_ := qq.mk ((by rw [hg];exact (zw (by repeat (first | (with_reducible first | exact HB.out | apply qj | apply qz | apply qk | refine qx ?_ GE101.out) | exact HB.out))) : w.heap.size ≤ gb102));have n5_ := qq.mk ((by rw [hg];exact Nat.ne_of_lt (blk_lt (g := gb101) (o := .cells #[.int .i64 a0_0,.int .i64 a0_1,.string a0_2,.string a0_3] 23 (0,0)) (by (with_reducible repeat (first | refine zz ?_ _ | refine zj ?_ | refine zq ?_ _));exact BK101.out)) : gb101 ≠ gb102));have n6_ := qq.mk ((by rw [hg];exact Nat.ne_of_gt (blk_lt (g := gb101) (o := .cells #[.int .i64 a0_0,.int .i64 a0_1,.string a0_2,.string a0_3] 23 (0,0)) (by (with_reducible repeat (first | refine zz ?_ _ | refine zj ?_ | refine zq ?_ _));exact BK101.out)) : gb102 ≠ gb101));clear BK101;clear HB;have BK101 := n0_;have HB := n1_;have BK102 := n2_;have GW102 := n3_;have GE102 := n4_;have NB101_102 := n5_;have NB102_101 := n6_;clear n0_ n1_ n2_ n3_ n4_ n5_ n6_;clear hb hbox hg) | ((with_reducible refine gate_dst (N := 3) rfl ?_);refine box_event ?hg (N := 3) ?hd (cs := #[.int .i64 0,.int .i64 0,.string (⟨#[]⟩ : ByteArray),.string (⟨#[]⟩ : ByteArray)]) (t := 28) ?hr ?_;(case hd => rfl);(case hg => rfl);(case hr => first | (go_simp;done) | (go_simp;rfl));intro gb103 hg w4 hbox hb;have n0_ := qq.mk (kw (g := gb101) (o := .cells #[.int .i64 a0_0,.int .i64 a0_1,.string a0_2,.string a0_3] 23 (0,0)) (by (with_reducible repeat (first | refine zz ?_ _ | refine zj ?_ | refine zq ?_ _));exact BK101.out) hb);have n1_ := qq.mk (kw (g := gb102) (o := .cells #[.int .i64 0,.int .i64 0,.string (⟨#[]⟩ : ByteArray),.string (⟨#[]⟩ : ByteArray)] 28 (0,0)) (by (with_reducible repeat (first | refine zz ?_ _ | refine zj ?_ | refine zq ?_ _));exact BK102.out) hb);have n2_ := qq.mk (zv (by repeat (first | (with_reducible first | exact HB.out | apply qj | apply qz | apply qk | refine qx ?_ GE101.out | refine qx ?_ GE102.out) | exact HB.out)) hb);have n3_ := qq.mk (hbox);have n4_ := qq.mk ((by rw [hg];exact (zw (by repeat (first | (with_reducible first | exact HB.out | apply qj | apply qz | apply qk | refine qx ?_ GE101.out | refine qx ?_ GE102.out) | exact HB.out))) : w.heap.size ≤ gb103));have n5_ := qq.mk ((by rw [hg];exact (zw (by repeat (first | (with_reducible first | exact HB.out | apply qj | apply qz | apply qk | refine qx ?_ GE101.out | refine qx ?_ GE102.out) | exact HB.out))) : w.heap.size ≤ gb103));have n6_ := qq.mk ((by rw [hg];exact Nat.ne_of_lt (blk_lt (g := gb101) (o := .cells #[.int .i64 a0_0,.int .i64 a0_1,.string a0_2,.string a0_3] 23 (0,0)) (by (with_reducible repeat (first | refine zz ?_ _ | refine zj ?_ | refine zq ?_ _));exact BK101.out)) : gb101 ≠ gb103));have n7_ := qq.mk ((by rw [hg];exact Nat.ne_of_gt (blk_lt (g := gb101) (o := .cells #[.int .i64 a0_0,.int .i64 a0_1,.string a0_2,.string a0_3] 23 (0,0)) (by (with_reducible repeat (first | refine zz ?_ _ | refine zj ?_ | refine zq ?_ _));exact BK101.out)) : gb103 ≠ gb101));have n8_ := qq.mk ((by rw [hg];exact Nat.ne_of_lt (blk_lt (g := gb102) (o := .cells #[.int .i64 0,.int .i64 0,.string (⟨#[]⟩ : ByteArray),.string (⟨#[]⟩ : ByteArray)] 28 (0,0)) (by (with_reducible repeat (first | refine zz ?_ _ | refine zj ?_ | refine zq ?_ _));exact BK102.out)) : gb102 ≠ gb103));have n9_ := qq.mk ((by rw [hg];exact Nat.ne_of_gt (blk_lt (g := gb102) (o := .cells #[.int .i64 0,.int .i64 0,.string (⟨#[]⟩ : ByteArray),.string (⟨#[]⟩ : ByteArray)] 28 (0,0)) (by (with_reducible repeat (first | refine zz ?_ _ | refine zj ?_ | refine zq ?_ _));exact BK102.out)) : gb103 ≠ gb102));clear BK101;clear BK102;clear HB;have BK101 := n0_;have BK102 := n1_;have HB := n2_;have BK103 := n3_;have GW103 := n4_;have GE103 := n5_;have NB101_103 := n6_;have NB103_101 := n7_;have NB102_103 := n8_;have NB103_102 := n9_;clear n0_ n1_ n2_ n3_ n4_ n5_ n6_ n7_ n8_ n9_;clear hb hbox hg;have hnb5 := NB101_102.out;have hnc5 := NB102_101.out;have hnb6 := NB101_103.out;have hnc6 := NB103_101.out;have hcz7_0 : w4.cell? ⟨gb101,0,none⟩ = some (.int .i64 a0_0) := (qw BK101.out 0).trans rfl;have hcz7_1 : w4.cell? ⟨gb101,1,none⟩ = some (.int .i64 a0_1) := (qw BK101.out 1).trans rfl;have hcz7_2 : w4.cell? ⟨gb101,2,none⟩ = some (.string a0_2) := (qw BK101.out 2).trans rfl;have hcz7_3 : w4.cell? ⟨gb101,3,none⟩ = some (.string a0_3) := (qw BK101.out 3).trans rfl;have hfz7_0 := qv BK101.out 0;have hfz7_1 := qv BK101.out 1;have hfz7_2 := qv BK101.out 2;have hfz7_3 := qv BK101.out 3;have hnb8 := NB103_102.out;have hnc8 := NB102_103.out;have hcz9_0 : w4.cell? ⟨gb103,0,none⟩ = some (.int .i64 0) := (qw BK103.out 0).trans rfl;have hcz9_1 : w4.cell? ⟨gb103,1,none⟩ = some (.int .i64 0) := (qw BK103.out 1).trans rfl;have hcz9_2 : w4.cell? ⟨gb103,2,none⟩ = some (.string (⟨#[]⟩ : ByteArray)) := (qw BK103.out 2).trans rfl;have hcz9_3 : w4.cell? ⟨gb103,3,none⟩ = some (.string (⟨#[]⟩ : ByteArray)) := (qw BK103.out 3).trans rfl;have hfz9_0 := qv BK103.out 0;have hfz9_1 := qv BK103.out 1;have hfz9_2 := qv BK103.out 2;have hfz9_3 := qv BK103.out 3;have hcz10_0 : w4.cell? ⟨gb102,0,none⟩ = some (.int .i64 0) := (qw BK102.out 0).trans rfl;have hcz10_1 : w4.cell? ⟨gb102,1,none⟩ = some (.int .i64 0) := (qw BK102.out 1).trans rfl;have hcz10_2 : w4.cell? ⟨gb102,2,none⟩ = some (.string (⟨#[]⟩ : ByteArray)) := (qw BK102.out 2).trans rfl;have hcz10_3 : w4.cell? ⟨gb102,3,none⟩ = some (.string (⟨#[]⟩ : ByteArray)) := (qw BK102.out 3).trans rfl;have hfz10_0 := qv BK102.out 0;have hfz10_1 := qv BK102.out 1;have hfz10_2 := qv BK102.out 2;have hfz10_3 := qv BK102.out 3))
 refine bodyPost_ret (results_cell_row rfl _ _ gb102 28 #[.int .i64 a0_0,.int .i64 a0_1,.string a0_2,.string a0_3] (0,0) _ rfl (by (with_reducible repeat (first | refine zz ?_ _ | refine zj ?_ | refine zq ?_ _));refine blk_put (cs := #[.int .i64 a0_0,.int .i64 a0_1,.string a0_2,.string (⟨#[]⟩ : ByteArray)]) ?_ 3 _ rfl;(with_reducible repeat (first | refine zz ?_ _ | refine zj ?_ | refine zq ?_ _));refine blk_put (cs := #[.int .i64 a0_0,.int .i64 a0_1,.string (⟨#[]⟩ : ByteArray),.string (⟨#[]⟩ : ByteArray)]) ?_ 2 _ rfl;(with_reducible repeat (first | refine zz ?_ _ | refine zj ?_ | refine zq ?_ _));refine blk_put (cs := #[.int .i64 a0_0,.int .i64 0,.string (⟨#[]⟩ : ByteArray),.string (⟨#[]⟩ : ByteArray)]) ?_ 1 _ rfl;(with_reducible repeat (first | refine zz ?_ _ | refine zj ?_ | refine zq ?_ _));refine blk_put (cs := #[.int .i64 0,.int .i64 0,.string (⟨#[]⟩ : ByteArray),.string (⟨#[]⟩ : ByteArray)]) ?_ 0 _ rfl;(with_reducible repeat (first | refine zz ?_ _ | refine zj ?_ | refine zq ?_ _));refine blk_far ?_ NB102_103.out _;(with_reducible repeat (first | refine zz ?_ _ | refine zj ?_ | refine zq ?_ _));refine blk_far ?_ NB102_103.out _;(with_reducible repeat (first | refine zz ?_ _ | refine zj ?_ | refine zq ?_ _));refine blk_far ?_ NB102_103.out _;(with_reducible repeat (first | refine zz ?_ _ | refine zj ?_ | refine zq ?_ _));refine blk_far ?_ NB102_103.out _;(with_reducible repeat (first | refine zz ?_ _ | refine zj ?_ | refine zq ?_ _));exact BK102.out) Tryz.underlying28 rfl (by kernel_rfl)) rfl ?_
 exact ⟨by first | rfl | (simp [*,jk,jj] <;> rfl),by repeat (first | (with_reducible first | exact HB.out | apply qj | apply qz | apply qk | refine qx ?_ GE101.out | refine qx ?_ GE102.out | refine qx ?_ GE103.out) | exact HB.out)⟩
def qqz.f (a0_0 : Int) (a0_1 : Int) (a0_2 : ByteArray) (a0_3 : ByteArray) (a1_0 : Int) (a1_1 : Int) (a1_2 : ByteArray) (a1_3 : ByteArray) : Option (Bool) := if a0_0 = a1_0 then (if a0_1 = a1_1 then (if a0_2.toList = a1_2.toList then (if a0_3.toList = a1_3.toList then (some true) else (some false)) else (some false)) else (some false)) else (some false)
set_option maxHeartbeats 8000000 in
set_option maxRecDepth 100000 in
theorem qqz.calls (a0_0 : Int) (a0_1 : Int) (a0_2 : ByteArray) (a0_3 : ByteArray) (a1_0 : Int) (a1_1 : Int) (a1_2 : ByteArray) (a1_3 : ByteArray) (r : Bool) (w : World) (h : qqz.f a0_0 a0_1 a0_2 a0_3 a1_0 a1_1 a1_2 a1_3 = some r) :
  Calls Tryz.prog 84 #[.agg #[.int .i64 a0_0,.int .i64 a0_1,.string a0_2,.string a0_3],.agg #[.int .i64 a1_0,.int .i64 a1_1,.string a1_2,.string a1_3]] w fun e w' => e = .returned (.bool r) ∧ Below w.heap.size w w' := by
 have hu28 := Tryz.underlying28
 have HB := qq.mk (Below.refl w.heap.size w)
 have H : (if a0_0 = a1_0 then (if a0_1 = a1_1 then (if a0_2.toList = a1_2.toList then (if a0_3.toList = a1_3.toList then (some true) else (some false)) else (some false)) else (some false)) else (some false)) = some r := h
 clear h
 by_cases c3 : a0_0 = a1_0
 ·rw [if_pos c3] at H
  have c3b0 : (a0_0 == a1_0) = true := beq_iff_eq.mpr c3
  have c3b1 : (a0_0 != a1_0) = false := bne_eq_false_iff_eq.mpr c3
  clear c3
  by_cases c4 : a0_1 = a1_1
  ·rw [if_pos c4] at H
   have c4b0 : (a0_1 == a1_1) = true := beq_iff_eq.mpr c4
   have c4b1 : (a0_1 != a1_1) = false := bne_eq_false_iff_eq.mpr c4
   clear c4
   by_cases c5 : a0_2.toList = a1_2.toList
   ·rw [if_pos c5] at H
    have c5b0 : (a0_2.toList == a1_2.toList) = true := beq_iff_eq.mpr c5
    have c5b1 : (a0_2.toList != a1_2.toList) = false := bne_eq_false_iff_eq.mpr c5
    clear c5
    by_cases c6 : a0_3.toList = a1_3.toList
    ·rw [if_pos c6] at H
     have c6b0 : (a0_3.toList == a1_3.toList) = true := beq_iff_eq.mpr c6
     have c6b1 : (a0_3.toList != a1_3.toList) = false := bne_eq_false_iff_eq.mpr c6
     clear c6
     obtain rfl := Option.some.inj H
     go_enter Tryz.func84,Tryz.ntmps84
     go_wp2_with (first | ((with_reducible refine gate_dst (N := 2) rfl ?_);refine box_event ?hg (N := 2) ?hd (cs := #[.int .i64 a0_0,.int .i64 a0_1,.string a0_2,.string a0_3]) (t := 28) ?hr ?_;(case hd => rfl);(case hg => rfl);(case hr => first | (go_simp;done) | (go_simp;rfl));intro gb101 hg w7 hbox hb;have n0_ := qq.mk (zv (by repeat (first | (with_reducible first | exact HB.out | apply qj | apply qz | apply qk) | exact HB.out)) hb);have n1_ := qq.mk (hbox);have n2_ := qq.mk ((by rw [hg];exact (zw (by repeat (first | (with_reducible first | exact HB.out | apply qj | apply qz | apply qk) | exact HB.out))) : w.heap.size ≤ gb101));have n3_ := qq.mk ((by rw [hg];exact (zw (by repeat (first | (with_reducible first | exact HB.out | apply qj | apply qz | apply qk) | exact HB.out))) : w.heap.size ≤ gb101));clear HB;have HB := n0_;have BK101 := n1_;have GW101 := n2_;have GE101 := n3_;clear n0_ n1_ n2_ n3_;clear hb hbox hg) | ((with_reducible refine gate_dst (N := 3) rfl ?_);refine box_event ?hg (N := 3) ?hd (cs := #[.int .i64 a1_0,.int .i64 a1_1,.string a1_2,.string a1_3]) (t := 28) ?hr ?_;(case hd => rfl);(case hg => rfl);(case hr => first | (go_simp;done) | (go_simp;rfl));intro gb102 hg w8 hbox hb;have n0_ := qq.mk (kw (g := gb101) (o := .cells #[.int .i64 a0_0,.int .i64 a0_1,.string a0_2,.string a0_3] 28 (0,0)) (by (with_reducible repeat (first | refine zz ?_ _ | refine zj ?_ | refine zq ?_ _));exact BK101.out) hb);have n1_ := qq.mk (zv (by repeat (first | (with_reducible first | exact HB.out | apply qj | apply qz | apply qk | refine qx ?_ GE101.out) | exact HB.out)) hb);have n2_ := qq.mk (hbox);have n3_ := qq.mk ((by rw [hg];exact (zw (by repeat (first | (with_reducible first | exact HB.out | apply qj | apply qz | apply qk | refine qx ?_ GE101.out) | exact HB.out))) : w.heap.size ≤ gb102));have n4_ := qq.mk ((by rw [hg];exact (zw (by repeat (first | (with_reducible first | exact HB.out | apply qj | apply qz | apply qk | refine qx ?_ GE101.out) | exact HB.out))) : w.heap.size ≤ gb102));have n5_ := qq.mk ((by rw [hg];exact Nat.ne_of_lt (blk_lt (g := gb101) (o := .cells #[.int .i64 a0_0,.int .i64 a0_1,.string a0_2,.string a0_3] 28 (0,0)) (by (with_reducible repeat (first | refine zz ?_ _ | refine zj ?_ | refine zq ?_ _));exact BK101.out)) : gb101 ≠ gb102));have n6_ := qq.mk ((by rw [hg];exact Nat.ne_of_gt (blk_lt (g := gb101) (o := .cells #[.int .i64 a0_0,.int .i64 a0_1,.string a0_2,.string a0_3] 28 (0,0)) (by (with_reducible repeat (first | refine zz ?_ _ | refine zj ?_ | refine zq ?_ _));exact BK101.out)) : gb102 ≠ gb101));clear BK101;clear HB;have BK101 := n0_;have HB := n1_;have BK102 := n2_;have GW102 := n3_;have GE102 := n4_;have NB101_102 := n5_;have NB102_101 := n6_;clear n0_ n1_ n2_ n3_ n4_ n5_ n6_;clear hb hbox hg;have hnb9 := NB101_102.out;have hnc9 := NB102_101.out;have hcz10_0 : w8.cell? ⟨gb101,0,none⟩ = some (.int .i64 a0_0) := (qw BK101.out 0).trans rfl;have hcz10_1 : w8.cell? ⟨gb101,1,none⟩ = some (.int .i64 a0_1) := (qw BK101.out 1).trans rfl;have hcz10_2 : w8.cell? ⟨gb101,2,none⟩ = some (.string a0_2) := (qw BK101.out 2).trans rfl;have hcz10_3 : w8.cell? ⟨gb101,3,none⟩ = some (.string a0_3) := (qw BK101.out 3).trans rfl;have hfz10_0 := qv BK101.out 0;have hfz10_1 := qv BK101.out 1;have hfz10_2 := qv BK101.out 2;have hfz10_3 := qv BK101.out 3;have hcz11_0 : w8.cell? ⟨gb102,0,none⟩ = some (.int .i64 a1_0) := (qw BK102.out 0).trans rfl;have hcz11_1 : w8.cell? ⟨gb102,1,none⟩ = some (.int .i64 a1_1) := (qw BK102.out 1).trans rfl;have hcz11_2 : w8.cell? ⟨gb102,2,none⟩ = some (.string a1_2) := (qw BK102.out 2).trans rfl;have hcz11_3 : w8.cell? ⟨gb102,3,none⟩ = some (.string a1_3) := (qw BK102.out 3).trans rfl;have hfz11_0 := qv BK102.out 0;have hfz11_1 := qv BK102.out 1;have hfz11_2 := qv BK102.out 2;have hfz11_3 := qv BK102.out 3))
     go_ret
     exact ⟨by first | rfl | (simp [*,jk,jj] <;> rfl),by repeat (first | (with_reducible first | exact HB.out | apply qj | apply qz | apply qk | refine qx ?_ GE101.out | refine qx ?_ GE102.out) | exact HB.out)⟩
    ·rw [if_neg c6] at H
     have c6b0 : (a0_3.toList == a1_3.toList) = false := beq_eq_false_iff_ne.mpr c6
     have c6b1 : (a0_3.toList != a1_3.toList) = true := bne_iff_ne.mpr c6
     obtain rfl := Option.some.inj H
     go_enter Tryz.func84,Tryz.ntmps84
     go_wp2_with (first | ((with_reducible refine gate_dst (N := 2) rfl ?_);refine box_event ?hg (N := 2) ?hd (cs := #[.int .i64 a0_0,.int .i64 a0_1,.string a0_2,.string a0_3]) (t := 28) ?hr ?_;(case hd => rfl);(case hg => rfl);(case hr => first | (go_simp;done) | (go_simp;rfl));intro gb101 hg w12 hbox hb;have n0_ := qq.mk (zv (by repeat (first | (with_reducible first | exact HB.out | apply qj | apply qz | apply qk) | exact HB.out)) hb);have n1_ := qq.mk (hbox);have n2_ := qq.mk ((by rw [hg];exact (zw (by repeat (first | (with_reducible first | exact HB.out | apply qj | apply qz | apply qk) | exact HB.out))) : w.heap.size ≤ gb101));have n3_ := qq.mk ((by rw [hg];exact (zw (by repeat (first | (with_reducible first | exact HB.out | apply qj | apply qz | apply qk) | exact HB.out))) : w.heap.size ≤ gb101));clear HB;have HB := n0_;have BK101 := n1_;have GW101 := n2_;have GE101 := n3_;clear n0_ n1_ n2_ n3_;clear hb hbox hg) | ((with_reducible refine gate_dst (N := 3) rfl ?_);refine box_event ?hg (N := 3) ?hd (cs := #[.int .i64 a1_0,.int .i64 a1_1,.string a1_2,.string a1_3]) (t := 28) ?hr ?_;(case hd => rfl);(case hg => rfl);(case hr => first | (go_simp;done) | (go_simp;rfl));intro gb102 hg w13 hbox hb;have n0_ := qq.mk (kw (g := gb101) (o := .cells #[.int .i64 a0_0,.int .i64 a0_1,.string a0_2,.string a0_3] 28 (0,0)) (by (with_reducible repeat (first | refine zz ?_ _ | refine zj ?_ | refine zq ?_ _));exact BK101.out) hb);have n1_ := qq.mk (zv (by repeat (first | (with_reducible first | exact HB.out | apply qj | apply qz | apply qk | refine qx ?_ GE101.out) | exact HB.out)) hb);have n2_ := qq.mk (hbox);have n3_ := qq.mk ((by rw [hg];exact (zw (by repeat (first | (with_reducible first | exact HB.out | apply qj | apply qz | apply qk | refine qx ?_ GE101.out) | exact HB.out))) : w.heap.size ≤ gb102));have n4_ := qq.mk ((by rw [hg];exact (zw (by repeat (first | (with_reducible first | exact HB.out | apply qj | apply qz | apply qk | refine qx ?_ GE101.out) | exact HB.out))) : w.heap.size ≤ gb102));have n5_ := qq.mk ((by rw [hg];exact Nat.ne_of_lt (blk_lt (g := gb101) (o := .cells #[.int .i64 a0_0,.int .i64 a0_1,.string a0_2,.string a0_3] 28 (0,0)) (by (with_reducible repeat (first | refine zz ?_ _ | refine zj ?_ | refine zq ?_ _));exact BK101.out)) : gb101 ≠ gb102));have n6_ := qq.mk ((by rw [hg];exact Nat.ne_of_gt (blk_lt (g := gb101) (o := .cells #[.int .i64 a0_0,.int .i64 a0_1,.string a0_2,.string a0_3] 28 (0,0)) (by (with_reducible repeat (first | refine zz ?_ _ | refine zj ?_ | refine zq ?_ _));exact BK101.out)) : gb102 ≠ gb101));clear BK101;clear HB;have BK101 := n0_;have HB := n1_;have BK102 := n2_;have GW102 := n3_;have GE102 := n4_;have NB101_102 := n5_;have NB102_101 := n6_;clear n0_ n1_ n2_ n3_ n4_ n5_ n6_;clear hb hbox hg;have hnb14 := NB101_102.out;have hnc14 := NB102_101.out;have hcz15_0 : w13.cell? ⟨gb101,0,none⟩ = some (.int .i64 a0_0) := (qw BK101.out 0).trans rfl;have hcz15_1 : w13.cell? ⟨gb101,1,none⟩ = some (.int .i64 a0_1) := (qw BK101.out 1).trans rfl;have hcz15_2 : w13.cell? ⟨gb101,2,none⟩ = some (.string a0_2) := (qw BK101.out 2).trans rfl;have hcz15_3 : w13.cell? ⟨gb101,3,none⟩ = some (.string a0_3) := (qw BK101.out 3).trans rfl;have hfz15_0 := qv BK101.out 0;have hfz15_1 := qv BK101.out 1;have hfz15_2 := qv BK101.out 2;have hfz15_3 := qv BK101.out 3;have hcz16_0 : w13.cell? ⟨gb102,0,none⟩ = some (.int .i64 a1_0) := (qw BK102.out 0).trans rfl;have hcz16_1 : w13.cell? ⟨gb102,1,none⟩ = some (.int .i64 a1_1) := (qw BK102.out 1).trans rfl;have hcz16_2 : w13.cell? ⟨gb102,2,none⟩ = some (.string a1_2) := (qw BK102.out 2).trans rfl;have hcz16_3 : w13.cell? ⟨gb102,3,none⟩ = some (.string a1_3) := (qw BK102.out 3).trans rfl;have hfz16_0 := qv BK102.out 0;have hfz16_1 := qv BK102.out 1;have hfz16_2 := qv BK102.out 2;have hfz16_3 := qv BK102.out 3))
     go_ret
     exact ⟨by first | rfl | (simp [*,jk,jj] <;> rfl),by repeat (first | (with_reducible first | exact HB.out | apply qj | apply qz | apply qk | refine qx ?_ GE101.out | refine qx ?_ GE102.out) | exact HB.out)⟩
   ·rw [if_neg c5] at H
    have c5b0 : (a0_2.toList == a1_2.toList) = false := beq_eq_false_iff_ne.mpr c5
    have c5b1 : (a0_2.toList != a1_2.toList) = true := bne_iff_ne.mpr c5
    obtain rfl := Option.some.inj H
    go_enter Tryz.func84,Tryz.ntmps84
    go_wp2_with (first | ((with_reducible refine gate_dst (N := 2) rfl ?_);refine box_event ?hg (N := 2) ?hd (cs := #[.int .i64 a0_0,.int .i64 a0_1,.string a0_2,.string a0_3]) (t := 28) ?hr ?_;(case hd => rfl);(case hg => rfl);(case hr => first | (go_simp;done) | (go_simp;rfl));intro gb101 hg w17 hbox hb;have n0_ := qq.mk (zv (by repeat (first | (with_reducible first | exact HB.out | apply qj | apply qz | apply qk) | exact HB.out)) hb);have n1_ := qq.mk (hbox);have n2_ := qq.mk ((by rw [hg];exact (zw (by repeat (first | (with_reducible first | exact HB.out | apply qj | apply qz | apply qk) | exact HB.out))) : w.heap.size ≤ gb101));have n3_ := qq.mk ((by rw [hg];exact (zw (by repeat (first | (with_reducible first | exact HB.out | apply qj | apply qz | apply qk) | exact HB.out))) : w.heap.size ≤ gb101));clear HB;have HB := n0_;have BK101 := n1_;have GW101 := n2_;have GE101 := n3_;clear n0_ n1_ n2_ n3_;clear hb hbox hg) | ((with_reducible refine gate_dst (N := 3) rfl ?_);refine box_event ?hg (N := 3) ?hd (cs := #[.int .i64 a1_0,.int .i64 a1_1,.string a1_2,.string a1_3]) (t := 28) ?hr ?_;(case hd => rfl);(case hg => rfl);(case hr => first | (go_simp;done) | (go_simp;rfl));intro gb102 hg w18 hbox hb;have n0_ := qq.mk (kw (g := gb101) (o := .cells #[.int .i64 a0_0,.int .i64 a0_1,.string a0_2,.string a0_3] 28 (0,0)) (by (with_reducible repeat (first | refine zz ?_ _ | refine zj ?_ | refine zq ?_ _));exact BK101.out) hb);have n1_ := qq.mk (zv (by repeat (first | (with_reducible first | exact HB.out | apply qj | apply qz | apply qk | refine qx ?_ GE101.out) | exact HB.out)) hb);have n2_ := qq.mk (hbox);have n3_ := qq.mk ((by rw [hg];exact (zw (by repeat (first | (with_reducible first | exact HB.out | apply qj | apply qz | apply qk | refine qx ?_ GE101.out) | exact HB.out))) : w.heap.size ≤ gb102));have n4_ := qq.mk ((by rw [hg];exact (zw (by repeat (first | (with_reducible first | exact HB.out | apply qj | apply qz | apply qk | refine qx ?_ GE101.out) | exact HB.out))) : w.heap.size ≤ gb102));have n5_ := qq.mk ((by rw [hg];exact Nat.ne_of_lt (blk_lt (g := gb101) (o := .cells #[.int .i64 a0_0,.int .i64 a0_1,.string a0_2,.string a0_3] 28 (0,0)) (by (with_reducible repeat (first | refine zz ?_ _ | refine zj ?_ | refine zq ?_ _));exact BK101.out)) : gb101 ≠ gb102));have n6_ := qq.mk ((by rw [hg];exact Nat.ne_of_gt (blk_lt (g := gb101) (o := .cells #[.int .i64 a0_0,.int .i64 a0_1,.string a0_2,.string a0_3] 28 (0,0)) (by (with_reducible repeat (first | refine zz ?_ _ | refine zj ?_ | refine zq ?_ _));exact BK101.out)) : gb102 ≠ gb101));clear BK101;clear HB;have BK101 := n0_;have HB := n1_;have BK102 := n2_;have GW102 := n3_;have GE102 := n4_;have NB101_102 := n5_;have NB102_101 := n6_;clear n0_ n1_ n2_ n3_ n4_ n5_ n6_;clear hb hbox hg;have hnb19 := NB101_102.out;have hnc19 := NB102_101.out;have hcz20_0 : w18.cell? ⟨gb101,0,none⟩ = some (.int .i64 a0_0) := (qw BK101.out 0).trans rfl;have hcz20_1 : w18.cell? ⟨gb101,1,none⟩ = some (.int .i64 a0_1) := (qw BK101.out 1).trans rfl;have hcz20_2 : w18.cell? ⟨gb101,2,none⟩ = some (.string a0_2) := (qw BK101.out 2).trans rfl;have hcz20_3 : w18.cell? ⟨gb101,3,none⟩ = some (.string a0_3) := (qw BK101.out 3).trans rfl;have hfz20_0 := qv BK101.out 0;have hfz20_1 := qv BK101.out 1;have hfz20_2 := qv BK101.out 2;have hfz20_3 := qv BK101.out 3;have hcz21_0 : w18.cell? ⟨gb102,0,none⟩ = some (.int .i64 a1_0) := (qw BK102.out 0).trans rfl;have hcz21_1 : w18.cell? ⟨gb102,1,none⟩ = some (.int .i64 a1_1) := (qw BK102.out 1).trans rfl;have hcz21_2 : w18.cell? ⟨gb102,2,none⟩ = some (.string a1_2) := (qw BK102.out 2).trans rfl;have hcz21_3 : w18.cell? ⟨gb102,3,none⟩ = some (.string a1_3) := (qw BK102.out 3).trans rfl;have hfz21_0 := qv BK102.out 0;have hfz21_1 := qv BK102.out 1;have hfz21_2 := qv BK102.out 2;have hfz21_3 := qv BK102.out 3))
    go_ret
    exact ⟨by first | rfl | (simp [*,jk,jj] <;> rfl),by repeat (first | (with_reducible first | exact HB.out | apply qj | apply qz | apply qk | refine qx ?_ GE101.out | refine qx ?_ GE102.out) | exact HB.out)⟩
  ·rw [if_neg c4] at H
   have c4b0 : (a0_1 == a1_1) = false := beq_eq_false_iff_ne.mpr c4
   have c4b1 : (a0_1 != a1_1) = true := bne_iff_ne.mpr c4
   obtain rfl := Option.some.inj H
   go_enter Tryz.func84,Tryz.ntmps84
   go_wp2_with (first | ((with_reducible refine gate_dst (N := 2) rfl ?_);refine box_event ?hg (N := 2) ?hd (cs := #[.int .i64 a0_0,.int .i64 a0_1,.string a0_2,.string a0_3]) (t := 28) ?hr ?_;(case hd => rfl);(case hg => rfl);(case hr => first | (go_simp;done) | (go_simp;rfl));intro gb101 hg w22 hbox hb;have n0_ := qq.mk (zv (by repeat (first | (with_reducible first | exact HB.out | apply qj | apply qz | apply qk) | exact HB.out)) hb);have n1_ := qq.mk (hbox);have n2_ := qq.mk ((by rw [hg];exact (zw (by repeat (first | (with_reducible first | exact HB.out | apply qj | apply qz | apply qk) | exact HB.out))) : w.heap.size ≤ gb101));have n3_ := qq.mk ((by rw [hg];exact (zw (by repeat (first | (with_reducible first | exact HB.out | apply qj | apply qz | apply qk) | exact HB.out))) : w.heap.size ≤ gb101));clear HB;have HB := n0_;have BK101 := n1_;have GW101 := n2_;have GE101 := n3_;clear n0_ n1_ n2_ n3_;clear hb hbox hg) | ((with_reducible refine gate_dst (N := 3) rfl ?_);refine box_event ?hg (N := 3) ?hd (cs := #[.int .i64 a1_0,.int .i64 a1_1,.string a1_2,.string a1_3]) (t := 28) ?hr ?_;(case hd => rfl);(case hg => rfl);(case hr => first | (go_simp;done) | (go_simp;rfl));intro gb102 hg w23 hbox hb;have n0_ := qq.mk (kw (g := gb101) (o := .cells #[.int .i64 a0_0,.int .i64 a0_1,.string a0_2,.string a0_3] 28 (0,0)) (by (with_reducible repeat (first | refine zz ?_ _ | refine zj ?_ | refine zq ?_ _));exact BK101.out) hb);have n1_ := qq.mk (zv (by repeat (first | (with_reducible first | exact HB.out | apply qj | apply qz | apply qk | refine qx ?_ GE101.out) | exact HB.out)) hb);have n2_ := qq.mk (hbox);have n3_ := qq.mk ((by rw [hg];exact (zw (by repeat (first | (with_reducible first | exact HB.out | apply qj | apply qz | apply qk | refine qx ?_ GE101.out) | exact HB.out))) : w.heap.size ≤ gb102));have n4_ := qq.mk ((by rw [hg];exact (zw (by repeat (first | (with_reducible first | exact HB.out | apply qj | apply qz | apply qk | refine qx ?_ GE101.out) | exact HB.out))) : w.heap.size ≤ gb102));have n5_ := qq.mk ((by rw [hg];exact Nat.ne_of_lt (blk_lt (g := gb101) (o := .cells #[.int .i64 a0_0,.int .i64 a0_1,.string a0_2,.string a0_3] 28 (0,0)) (by (with_reducible repeat (first | refine zz ?_ _ | refine zj ?_ | refine zq ?_ _));exact BK101.out)) : gb101 ≠ gb102));have n6_ := qq.mk ((by rw [hg];exact Nat.ne_of_gt (blk_lt (g := gb101) (o := .cells #[.int .i64 a0_0,.int .i64 a0_1,.string a0_2,.string a0_3] 28 (0,0)) (by (with_reducible repeat (first | refine zz ?_ _ | refine zj ?_ | refine zq ?_ _));exact BK101.out)) : gb102 ≠ gb101));clear BK101;clear HB;have BK101 := n0_;have HB := n1_;have BK102 := n2_;have GW102 := n3_;have GE102 := n4_;have NB101_102 := n5_;have NB102_101 := n6_;clear n0_ n1_ n2_ n3_ n4_ n5_ n6_;clear hb hbox hg;have hnb24 := NB101_102.out;have hnc24 := NB102_101.out;have hcz25_0 : w23.cell? ⟨gb101,0,none⟩ = some (.int .i64 a0_0) := (qw BK101.out 0).trans rfl;have hcz25_1 : w23.cell? ⟨gb101,1,none⟩ = some (.int .i64 a0_1) := (qw BK101.out 1).trans rfl;have hcz25_2 : w23.cell? ⟨gb101,2,none⟩ = some (.string a0_2) := (qw BK101.out 2).trans rfl;have hcz25_3 : w23.cell? ⟨gb101,3,none⟩ = some (.string a0_3) := (qw BK101.out 3).trans rfl;have hfz25_0 := qv BK101.out 0;have hfz25_1 := qv BK101.out 1;have hfz25_2 := qv BK101.out 2;have hfz25_3 := qv BK101.out 3;have hcz26_0 : w23.cell? ⟨gb102,0,none⟩ = some (.int .i64 a1_0) := (qw BK102.out 0).trans rfl;have hcz26_1 : w23.cell? ⟨gb102,1,none⟩ = some (.int .i64 a1_1) := (qw BK102.out 1).trans rfl;have hcz26_2 : w23.cell? ⟨gb102,2,none⟩ = some (.string a1_2) := (qw BK102.out 2).trans rfl;have hcz26_3 : w23.cell? ⟨gb102,3,none⟩ = some (.string a1_3) := (qw BK102.out 3).trans rfl;have hfz26_0 := qv BK102.out 0;have hfz26_1 := qv BK102.out 1;have hfz26_2 := qv BK102.out 2;have hfz26_3 := qv BK102.out 3))
   go_ret
   exact ⟨by first | rfl | (simp [*,jk,jj] <;> rfl),by repeat (first | (with_reducible first | exact HB.out | apply qj | apply qz | apply qk | refine qx ?_ GE101.out | refine qx ?_ GE102.out) | exact HB.out)⟩
 ·rw [if_neg c3] at H
  have c3b0 : (a0_0 == a1_0) = false := beq_eq_false_iff_ne.mpr c3
  have c3b1 : (a0_0 != a1_0) = true := bne_iff_ne.mpr c3
  obtain rfl := Option.some.inj H
  go_enter Tryz.func84,Tryz.ntmps84
  go_wp2_with (first | ((with_reducible refine gate_dst (N := 2) rfl ?_);refine box_event ?hg (N := 2) ?hd (cs := #[.int .i64 a0_0,.int .i64 a0_1,.string a0_2,.string a0_3]) (t := 28) ?hr ?_;(case hd => rfl);(case hg => rfl);(case hr => first | (go_simp;done) | (go_simp;rfl));intro gb101 hg w27 hbox hb;have n0_ := qq.mk (zv (by repeat (first | (with_reducible first | exact HB.out | apply qj | apply qz | apply qk) | exact HB.out)) hb);have n1_ := qq.mk (hbox);have n2_ := qq.mk ((by rw [hg];exact (zw (by repeat (first | (with_reducible first | exact HB.out | apply qj | apply qz | apply qk) | exact HB.out))) : w.heap.size ≤ gb101));have n3_ := qq.mk ((by rw [hg];exact (zw (by repeat (first | (with_reducible first | exact HB.out | apply qj | apply qz | apply qk) | exact HB.out))) : w.heap.size ≤ gb101));clear HB;have HB := n0_;have BK101 := n1_;have GW101 := n2_;have GE101 := n3_;clear n0_ n1_ n2_ n3_;clear hb hbox hg) | ((with_reducible refine gate_dst (N := 3) rfl ?_);refine box_event ?hg (N := 3) ?hd (cs := #[.int .i64 a1_0,.int .i64 a1_1,.string a1_2,.string a1_3]) (t := 28) ?hr ?_;(case hd => rfl);(case hg => rfl);(case hr => first | (go_simp;done) | (go_simp;rfl));intro gb102 hg w28 hbox hb;have n0_ := qq.mk (kw (g := gb101) (o := .cells #[.int .i64 a0_0,.int .i64 a0_1,.string a0_2,.string a0_3] 28 (0,0)) (by (with_reducible repeat (first | refine zz ?_ _ | refine zj ?_ | refine zq ?_ _));exact BK101.out) hb);have n1_ := qq.mk (zv (by repeat (first | (with_reducible first | exact HB.out | apply qj | apply qz | apply qk | refine qx ?_ GE101.out) | exact HB.out)) hb);have n2_ := qq.mk (hbox);have n3_ := qq.mk ((by rw [hg];exact (zw (by repeat (first | (with_reducible first | exact HB.out | apply qj | apply qz | apply qk | refine qx ?_ GE101.out) | exact HB.out))) : w.heap.size ≤ gb102));have n4_ := qq.mk ((by rw [hg];exact (zw (by repeat (first | (with_reducible first | exact HB.out | apply qj | apply qz | apply qk | refine qx ?_ GE101.out) | exact HB.out))) : w.heap.size ≤ gb102));have n5_ := qq.mk ((by rw [hg];exact Nat.ne_of_lt (blk_lt (g := gb101) (o := .cells #[.int .i64 a0_0,.int .i64 a0_1,.string a0_2,.string a0_3] 28 (0,0)) (by (with_reducible repeat (first | refine zz ?_ _ | refine zj ?_ | refine zq ?_ _));exact BK101.out)) : gb101 ≠ gb102));have n6_ := qq.mk ((by rw [hg];exact Nat.ne_of_gt (blk_lt (g := gb101) (o := .cells #[.int .i64 a0_0,.int .i64 a0_1,.string a0_2,.string a0_3] 28 (0,0)) (by (with_reducible repeat (first | refine zz ?_ _ | refine zj ?_ | refine zq ?_ _));exact BK101.out)) : gb102 ≠ gb101));clear BK101;clear HB;have BK101 := n0_;have HB := n1_;have BK102 := n2_;have GW102 := n3_;have GE102 := n4_;have NB101_102 := n5_;have NB102_101 := n6_;clear n0_ n1_ n2_ n3_ n4_ n5_ n6_;clear hb hbox hg;have hnb29 := NB101_102.out;have hnc29 := NB102_101.out;have hcz30_0 : w28.cell? ⟨gb101,0,none⟩ = some (.int .i64 a0_0) := (qw BK101.out 0).trans rfl;have hcz30_1 : w28.cell? ⟨gb101,1,none⟩ = some (.int .i64 a0_1) := (qw BK101.out 1).trans rfl;have hcz30_2 : w28.cell? ⟨gb101,2,none⟩ = some (.string a0_2) := (qw BK101.out 2).trans rfl;have hcz30_3 : w28.cell? ⟨gb101,3,none⟩ = some (.string a0_3) := (qw BK101.out 3).trans rfl;have hfz30_0 := qv BK101.out 0;have hfz30_1 := qv BK101.out 1;have hfz30_2 := qv BK101.out 2;have hfz30_3 := qv BK101.out 3;have hcz31_0 : w28.cell? ⟨gb102,0,none⟩ = some (.int .i64 a1_0) := (qw BK102.out 0).trans rfl;have hcz31_1 : w28.cell? ⟨gb102,1,none⟩ = some (.int .i64 a1_1) := (qw BK102.out 1).trans rfl;have hcz31_2 : w28.cell? ⟨gb102,2,none⟩ = some (.string a1_2) := (qw BK102.out 2).trans rfl;have hcz31_3 : w28.cell? ⟨gb102,3,none⟩ = some (.string a1_3) := (qw BK102.out 3).trans rfl;have hfz31_0 := qv BK102.out 0;have hfz31_1 := qv BK102.out 1;have hfz31_2 := qv BK102.out 2;have hfz31_3 := qv BK102.out 3))
  go_ret
  exact ⟨by first | rfl | (simp [*,jk,jj] <;> rfl),by repeat (first | (with_reducible first | exact HB.out | apply qj | apply qz | apply qk | refine qx ?_ GE101.out | refine qx ?_ GE102.out) | exact HB.out)⟩
def qzj.f (a0_0 : ByteArray) (a0_1 : Int) (a0_2 : ByteArray) (a0_3 : Int) (a0_4 : Int) (a0_5 : ByteArray) (a0_6 : ByteArray) (a1 : Int) : Option (Int) := if (wrap64 (a1 - (a0_0.size : Int))) < 0 then (some (-1)) else (if (wrap64 ((wrap64 (a1 - (a0_0.size : Int))) - (a0_2.size : Int))) < 0 then (some (-1)) else ((qqx.f a0_3 a0_4 a0_5 a0_6 (wrap64 ((wrap64 (a1 - (a0_0.size : Int))) - (a0_2.size : Int)))).bind fun t102 => (if t102 < 0 then (some (-1)) else (some t102))))
set_option maxHeartbeats 8000000 in
set_option maxRecDepth 100000 in
theorem qzj.calls (a0_0 : ByteArray) (a0_1 : Int) (a0_2 : ByteArray) (a0_3 : Int) (a0_4 : Int) (a0_5 : ByteArray) (a0_6 : ByteArray) (a1 : Int) (r : Int) (w : World) (h : qzj.f a0_0 a0_1 a0_2 a0_3 a0_4 a0_5 a0_6 a1 = some r) :
  Calls Tryz.prog 6 #[.agg #[.string a0_0,.int .i64 a0_1,.string a0_2,.int .i64 a0_3,.int .i64 a0_4,.string a0_5,.string a0_6],.int .i64 a1] w fun e w' => e = .returned (.int .i64 r) ∧ Below w.heap.size w w' := by
 have hu25 := Tryz.underlying25
 have hu23 := Tryz.underlying23
 have HB := qq.mk (Below.refl w.heap.size w)
 have H : (if (wrap64 (a1 - (a0_0.size : Int))) < 0 then (some (-1)) else (if (wrap64 ((wrap64 (a1 - (a0_0.size : Int))) - (a0_2.size : Int))) < 0 then (some (-1)) else ((qqx.f a0_3 a0_4 a0_5 a0_6 (wrap64 ((wrap64 (a1 - (a0_0.size : Int))) - (a0_2.size : Int)))).bind fun t102 => (if t102 < 0 then (some (-1)) else (some t102))))) = some r := h
 clear h
 by_cases c3 : (wrap64 (a1 - (a0_0.size : Int))) < 0
 ·rw [if_pos c3] at H
  have c3b0 : decide ((wrap64 (a1 - (a0_0.size : Int))) < 0) = true := decide_eq_true c3
  clear c3
  obtain rfl := Option.some.inj H
  go_enter Tryz.func6,Tryz.ntmps6
  go_wp2_with (first | ((with_reducible refine gate_dst (N := 2) rfl ?_);refine box_event ?hg (N := 2) ?hd (cs := #[.string a0_0,.int .i64 a0_1,.string a0_2,.int .i64 a0_3,.int .i64 a0_4,.string a0_5,.string a0_6]) (t := 25) ?hr ?_;(case hd => rfl);(case hg => rfl);(case hr => first | (go_simp;done) | (go_simp;rfl));intro gb101 hg w4 hbox hb;have n0_ := qq.mk (zv (by repeat (first | (with_reducible first | exact HB.out | apply qj | apply qz | apply qk) | exact HB.out)) hb);have n1_ := qq.mk (hbox);have n2_ := qq.mk ((by rw [hg];exact (zw (by repeat (first | (with_reducible first | exact HB.out | apply qj | apply qz | apply qk) | exact HB.out))) : w.heap.size ≤ gb101));have n3_ := qq.mk ((by rw [hg];exact (zw (by repeat (first | (with_reducible first | exact HB.out | apply qj | apply qz | apply qk) | exact HB.out))) : w.heap.size ≤ gb101));clear HB;have HB := n0_;have BK101 := n1_;have GW101 := n2_;have GE101 := n3_;clear n0_ n1_ n2_ n3_;clear hb hbox hg;have hcz5_0 : w4.cell? ⟨gb101,0,none⟩ = some (.string a0_0) := (qw BK101.out 0).trans rfl;have hcz5_1 : w4.cell? ⟨gb101,1,none⟩ = some (.int .i64 a0_1) := (qw BK101.out 1).trans rfl;have hcz5_2 : w4.cell? ⟨gb101,2,none⟩ = some (.string a0_2) := (qw BK101.out 2).trans rfl;have hcz5_3 : w4.cell? ⟨gb101,3,none⟩ = some (.int .i64 a0_3) := (qw BK101.out 3).trans rfl;have hcz5_4 : w4.cell? ⟨gb101,4,none⟩ = some (.int .i64 a0_4) := (qw BK101.out 4).trans rfl;have hcz5_5 : w4.cell? ⟨gb101,5,none⟩ = some (.string a0_5) := (qw BK101.out 5).trans rfl;have hcz5_6 : w4.cell? ⟨gb101,6,none⟩ = some (.string a0_6) := (qw BK101.out 6).trans rfl;have hfz5_0 := qv BK101.out 0;have hfz5_1 := qv BK101.out 1;have hfz5_2 := qv BK101.out 2;have hfz5_3 := qv BK101.out 3;have hfz5_4 := qv BK101.out 4;have hfz5_5 := qv BK101.out 5;have hfz5_6 := qv BK101.out 6))
  go_ret
  exact ⟨by first | rfl | (simp [*,jk,jj] <;> rfl),by repeat (first | (with_reducible first | exact HB.out | apply qj | apply qz | apply qk | refine qx ?_ GE101.out) | exact HB.out)⟩
 ·rw [if_neg c3] at H
  have c3b0 : decide ((wrap64 (a1 - (a0_0.size : Int))) < 0) = false := decide_eq_false c3
  clear c3
  by_cases c6 : (wrap64 ((wrap64 (a1 - (a0_0.size : Int))) - (a0_2.size : Int))) < 0
  ·rw [if_pos c6] at H
   have c6b0 : decide ((wrap64 ((wrap64 (a1 - (a0_0.size : Int))) - (a0_2.size : Int))) < 0) = true := decide_eq_true c6
   clear c6
   obtain rfl := Option.some.inj H
   go_enter Tryz.func6,Tryz.ntmps6
   go_wp2_with (first | ((with_reducible refine gate_dst (N := 2) rfl ?_);refine box_event ?hg (N := 2) ?hd (cs := #[.string a0_0,.int .i64 a0_1,.string a0_2,.int .i64 a0_3,.int .i64 a0_4,.string a0_5,.string a0_6]) (t := 25) ?hr ?_;(case hd => rfl);(case hg => rfl);(case hr => first | (go_simp;done) | (go_simp;rfl));intro gb101 hg w7 hbox hb;have n0_ := qq.mk (zv (by repeat (first | (with_reducible first | exact HB.out | apply qj | apply qz | apply qk) | exact HB.out)) hb);have n1_ := qq.mk (hbox);have n2_ := qq.mk ((by rw [hg];exact (zw (by repeat (first | (with_reducible first | exact HB.out | apply qj | apply qz | apply qk) | exact HB.out))) : w.heap.size ≤ gb101));have n3_ := qq.mk ((by rw [hg];exact (zw (by repeat (first | (with_reducible first | exact HB.out | apply qj | apply qz | apply qk) | exact HB.out))) : w.heap.size ≤ gb101));clear HB;have HB := n0_;have BK101 := n1_;have GW101 := n2_;have GE101 := n3_;clear n0_ n1_ n2_ n3_;clear hb hbox hg;have hcz8_0 : w7.cell? ⟨gb101,0,none⟩ = some (.string a0_0) := (qw BK101.out 0).trans rfl;have hcz8_1 : w7.cell? ⟨gb101,1,none⟩ = some (.int .i64 a0_1) := (qw BK101.out 1).trans rfl;have hcz8_2 : w7.cell? ⟨gb101,2,none⟩ = some (.string a0_2) := (qw BK101.out 2).trans rfl;have hcz8_3 : w7.cell? ⟨gb101,3,none⟩ = some (.int .i64 a0_3) := (qw BK101.out 3).trans rfl;have hcz8_4 : w7.cell? ⟨gb101,4,none⟩ = some (.int .i64 a0_4) := (qw BK101.out 4).trans rfl;have hcz8_5 : w7.cell? ⟨gb101,5,none⟩ = some (.string a0_5) := (qw BK101.out 5).trans rfl;have hcz8_6 : w7.cell? ⟨gb101,6,none⟩ = some (.string a0_6) := (qw BK101.out 6).trans rfl;have hfz8_0 := qv BK101.out 0;have hfz8_1 := qv BK101.out 1;have hfz8_2 := qv BK101.out 2;have hfz8_3 := qv BK101.out 3;have hfz8_4 := qv BK101.out 4;have hfz8_5 := qv BK101.out 5;have hfz8_6 := qv BK101.out 6))
   go_ret
   exact ⟨by first | rfl | (simp [*,jk,jj] <;> rfl),by repeat (first | (with_reducible first | exact HB.out | apply qj | apply qz | apply qk | refine qx ?_ GE101.out) | exact HB.out)⟩
  ·rw [if_neg c6] at H
   have c6b0 : decide ((wrap64 ((wrap64 (a1 - (a0_0.size : Int))) - (a0_2.size : Int))) < 0) = false := decide_eq_false c6
   clear c6
   replace H := Option.bind_eq_some_iff.mp H
   obtain ⟨t102,A90,H⟩ := H
   replace H : (if t102 < 0 then (some (-1)) else (some t102)) = some r := H
   have A9 := qq.mk A90
   clear A90
   by_cases c10 : t102 < 0
   ·rw [if_pos c10] at H
    have c10b0 : decide (t102 < 0) = true := decide_eq_true c10
    clear c10
    obtain rfl := Option.some.inj H
    go_enter Tryz.func6,Tryz.ntmps6
    go_wp2_with (first | ((with_reducible refine gate_dst (N := 2) rfl ?_);refine box_event ?hg (N := 2) ?hd (cs := #[.string a0_0,.int .i64 a0_1,.string a0_2,.int .i64 a0_3,.int .i64 a0_4,.string a0_5,.string a0_6]) (t := 25) ?hr ?_;(case hd => rfl);(case hg => rfl);(case hr => first | (go_simp;done) | (go_simp;rfl));intro gb101 hg w11 hbox hb;have n0_ := qq.mk (zv (by repeat (first | (with_reducible first | exact HB.out | apply qj | apply qz | apply qk) | exact HB.out)) hb);have n1_ := qq.mk (hbox);have n2_ := qq.mk ((by rw [hg];exact (zw (by repeat (first | (with_reducible first | exact HB.out | apply qj | apply qz | apply qk) | exact HB.out))) : w.heap.size ≤ gb101));have n3_ := qq.mk ((by rw [hg];exact (zw (by repeat (first | (with_reducible first | exact HB.out | apply qj | apply qz | apply qk) | exact HB.out))) : w.heap.size ≤ gb101));clear HB;have HB := n0_;have BK101 := n1_;have GW101 := n2_;have GE101 := n3_;clear n0_ n1_ n2_ n3_;clear hb hbox hg;have hcz12_0 : w11.cell? ⟨gb101,0,none⟩ = some (.string a0_0) := (qw BK101.out 0).trans rfl;have hcz12_1 : w11.cell? ⟨gb101,1,none⟩ = some (.int .i64 a0_1) := (qw BK101.out 1).trans rfl;have hcz12_2 : w11.cell? ⟨gb101,2,none⟩ = some (.string a0_2) := (qw BK101.out 2).trans rfl;have hcz12_3 : w11.cell? ⟨gb101,3,none⟩ = some (.int .i64 a0_3) := (qw BK101.out 3).trans rfl;have hcz12_4 : w11.cell? ⟨gb101,4,none⟩ = some (.int .i64 a0_4) := (qw BK101.out 4).trans rfl;have hcz12_5 : w11.cell? ⟨gb101,5,none⟩ = some (.string a0_5) := (qw BK101.out 5).trans rfl;have hcz12_6 : w11.cell? ⟨gb101,6,none⟩ = some (.string a0_6) := (qw BK101.out 6).trans rfl;have hfz12_0 := qv BK101.out 0;have hfz12_1 := qv BK101.out 1;have hfz12_2 := qv BK101.out 2;have hfz12_3 := qv BK101.out 3;have hfz12_4 := qv BK101.out 4;have hfz12_5 := qv BK101.out 5;have hfz12_6 := qv BK101.out 6) | ((with_reducible refine jv (f := 19) rfl ?_);refine goesL_ (some 22) rfl rfl Tryz.func19 (by kernel_rfl) rfl #[.agg #[.int .i64 a0_3,.int .i64 a0_4,.string a0_5,.string a0_6],.int .i64 (wrap64 ((wrap64 (a1 - (a0_0.size : Int))) - (a0_2.size : Int)))] rfl (by (try simp only [List.map_toArray,List.map_cons,List.map_nil]);first | done | rfl | (simp only [List.length_drop,List.length_take];rfl)) ?_;(with_reducible refine (qqx.calls a0_3 a0_4 a0_5 a0_6 (wrap64 ((wrap64 (a1 - (a0_0.size : Int))) - (a0_2.size : Int))) t102 _ A9.out).mono ?_);rintro e w13 ⟨rfl,hb⟩;refine ⟨_,rfl,?_⟩;have n0_ := qq.mk (kw (g := gb101) (o := .cells #[.string a0_0,.int .i64 a0_1,.string a0_2,.int .i64 a0_3,.int .i64 a0_4,.string a0_5,.string a0_6] 25 (0,0)) (by (with_reducible repeat (first | refine zz ?_ _ | refine zj ?_ | refine zq ?_ _));exact BK101.out) hb);have n1_ := qq.mk (zv (by repeat (first | (with_reducible first | exact HB.out | apply qj | apply qz | apply qk | refine qx ?_ GE101.out) | exact HB.out)) hb);clear BK101;clear HB;have BK101 := n0_;have HB := n1_;clear n0_ n1_;(try clear hb);(try clear hb2);(try clear hk);(try clear hi)))
    go_ret
    exact ⟨by first | rfl | (simp [*,jk,jj] <;> rfl),by repeat (first | (with_reducible first | exact HB.out | apply qj | apply qz | apply qk | refine qx ?_ GE101.out) | exact HB.out)⟩
   ·rw [if_neg c10] at H
    have c10b0 : decide (t102 < 0) = false := decide_eq_false c10
    clear c10
    obtain rfl := Option.some.inj H
    go_enter Tryz.func6,Tryz.ntmps6
    go_wp2_with (first | ((with_reducible refine gate_dst (N := 2) rfl ?_);refine box_event ?hg (N := 2) ?hd (cs := #[.string a0_0,.int .i64 a0_1,.string a0_2,.int .i64 a0_3,.int .i64 a0_4,.string a0_5,.string a0_6]) (t := 25) ?hr ?_;(case hd => rfl);(case hg => rfl);(case hr => first | (go_simp;done) | (go_simp;rfl));intro gb101 hg w14 hbox hb;have n0_ := qq.mk (zv (by repeat (first | (with_reducible first | exact HB.out | apply qj | apply qz | apply qk) | exact HB.out)) hb);have n1_ := qq.mk (hbox);have n2_ := qq.mk ((by rw [hg];exact (zw (by repeat (first | (with_reducible first | exact HB.out | apply qj | apply qz | apply qk) | exact HB.out))) : w.heap.size ≤ gb101));have n3_ := qq.mk ((by rw [hg];exact (zw (by repeat (first | (with_reducible first | exact HB.out | apply qj | apply qz | apply qk) | exact HB.out))) : w.heap.size ≤ gb101));clear HB;have HB := n0_;have BK101 := n1_;have GW101 := n2_;have GE101 := n3_;clear n0_ n1_ n2_ n3_;clear hb hbox hg;have hcz15_0 : w14.cell? ⟨gb101,0,none⟩ = some (.string a0_0) := (qw BK101.out 0).trans rfl;have hcz15_1 : w14.cell? ⟨gb101,1,none⟩ = some (.int .i64 a0_1) := (qw BK101.out 1).trans rfl;have hcz15_2 : w14.cell? ⟨gb101,2,none⟩ = some (.string a0_2) := (qw BK101.out 2).trans rfl;have hcz15_3 : w14.cell? ⟨gb101,3,none⟩ = some (.int .i64 a0_3) := (qw BK101.out 3).trans rfl;have hcz15_4 : w14.cell? ⟨gb101,4,none⟩ = some (.int .i64 a0_4) := (qw BK101.out 4).trans rfl;have hcz15_5 : w14.cell? ⟨gb101,5,none⟩ = some (.string a0_5) := (qw BK101.out 5).trans rfl;have hcz15_6 : w14.cell? ⟨gb101,6,none⟩ = some (.string a0_6) := (qw BK101.out 6).trans rfl;have hfz15_0 := qv BK101.out 0;have hfz15_1 := qv BK101.out 1;have hfz15_2 := qv BK101.out 2;have hfz15_3 := qv BK101.out 3;have hfz15_4 := qv BK101.out 4;have hfz15_5 := qv BK101.out 5;have hfz15_6 := qv BK101.out 6) | ((with_reducible refine jv (f := 19) rfl ?_);refine goesL_ (some 22) rfl rfl Tryz.func19 (by kernel_rfl) rfl #[.agg #[.int .i64 a0_3,.int .i64 a0_4,.string a0_5,.string a0_6],.int .i64 (wrap64 ((wrap64 (a1 - (a0_0.size : Int))) - (a0_2.size : Int)))] rfl (by (try simp only [List.map_toArray,List.map_cons,List.map_nil]);first | done | rfl | (simp only [List.length_drop,List.length_take];rfl)) ?_;(with_reducible refine (qqx.calls a0_3 a0_4 a0_5 a0_6 (wrap64 ((wrap64 (a1 - (a0_0.size : Int))) - (a0_2.size : Int))) t102 _ A9.out).mono ?_);rintro e w16 ⟨rfl,hb⟩;refine ⟨_,rfl,?_⟩;have n0_ := qq.mk (kw (g := gb101) (o := .cells #[.string a0_0,.int .i64 a0_1,.string a0_2,.int .i64 a0_3,.int .i64 a0_4,.string a0_5,.string a0_6] 25 (0,0)) (by (with_reducible repeat (first | refine zz ?_ _ | refine zj ?_ | refine zq ?_ _));exact BK101.out) hb);have n1_ := qq.mk (zv (by repeat (first | (with_reducible first | exact HB.out | apply qj | apply qz | apply qk | refine qx ?_ GE101.out) | exact HB.out)) hb);clear BK101;clear HB;have BK101 := n0_;have HB := n1_;clear n0_ n1_;(try clear hb);(try clear hb2);(try clear hk);(try clear hi)))
    go_ret
    exact ⟨by first | rfl | (simp [*,jk,jj] <;> rfl),by repeat (first | (with_reducible first | exact HB.out | apply qj | apply qz | apply qk | refine qx ?_ GE101.out) | exact HB.out)⟩
def qjq.f (a0_0 : ByteArray) (a0_1 : Int) (a0_2 : ByteArray) (a0_3 : Int) (a0_4 : Int) (a0_5 : ByteArray) (a0_6 : ByteArray) : Option (ByteArray × Int × ByteArray × Int × Int × ByteArray × ByteArray) := (qzv.f a0_3 a0_4 a0_5 a0_6).bind fun bt104 => (some (a0_0,a0_1,a0_2,bt104.1,bt104.2.1,bt104.2.2.1,bt104.2.2.2))
set_option maxHeartbeats 8000000 in
set_option maxRecDepth 100000 in
theorem qjq.calls (a0_0 : ByteArray) (a0_1 : Int) (a0_2 : ByteArray) (a0_3 : Int) (a0_4 : Int) (a0_5 : ByteArray) (a0_6 : ByteArray) (r1 : ByteArray) (r2 : Int) (r3 : ByteArray) (r4 : Int) (r5 : Int) (r6 : ByteArray) (r7 : ByteArray) (w : World) (h : qjq.f a0_0 a0_1 a0_2 a0_3 a0_4 a0_5 a0_6 = some (r1,r2,r3,r4,r5,r6,r7)) :
  Calls Tryz.prog 8 #[.agg #[.string a0_0,.int .i64 a0_1,.string a0_2,.int .i64 a0_3,.int .i64 a0_4,.string a0_5,.string a0_6]] w fun e w' => e = .returned (.agg #[.string r1,.int .i64 r2,.string r3,.int .i64 r4,.int .i64 r5,.string r6,.string r7]) ∧ Below w.heap.size w w' := by
 have hu25 := Tryz.underlying25
 have hu30 := Tryz.underlying30
 have hu23 := Tryz.underlying23
 have hu28 := Tryz.underlying28
 have HB := qq.mk (Below.refl w.heap.size w)
 have H : ((qzv.f a0_3 a0_4 a0_5 a0_6).bind fun bt104 => (some (a0_0,a0_1,a0_2,bt104.1,bt104.2.1,bt104.2.2.1,bt104.2.2.2))) = some (r1,r2,r3,r4,r5,r6,r7) := h
 clear h
 replace H := Option.bind_eq_some_iff.mp H
 obtain ⟨⟨t104,t105,t106,t107⟩,A20,H⟩ := H
 replace H : (some (a0_0,a0_1,a0_2,t104,t105,t106,t107)) = some (r1,r2,r3,r4,r5,r6,r7) := H
 have A2 := qq.mk A20
 clear A20
 simp only [Option.some.injEq,Prod.mk.injEq] at H
 obtain ⟨rfl,rfl,rfl,rfl,rfl,rfl,rfl⟩ := H
 go_enter Tryz.func8,Tryz.ntmps8
 go_wp2_with (first | ((with_reducible refine gate_dst (N := 1) rfl ?_);refine box_event ?hg (N := 1) ?hd (cs := #[.string a0_0,.int .i64 a0_1,.string a0_2,.int .i64 a0_3,.int .i64 a0_4,.string a0_5,.string a0_6]) (t := 25) ?hr ?_;(case hd => rfl);(case hg => rfl);(case hr => first | (go_simp;done) | (go_simp;rfl));intro gb101 hg w3 hbox hb;have n0_ := qq.mk (zv (by repeat (first | (with_reducible first | exact HB.out | apply qj | apply qz | apply qk) | exact HB.out)) hb);have n1_ := qq.mk (hbox);have n2_ := qq.mk ((by rw [hg];exact (zw (by repeat (first | (with_reducible first | exact HB.out | apply qj | apply qz | apply qk) | exact HB.out))) : w.heap.size ≤ gb101));have n3_ := qq.mk ((by rw [hg];exact (zw (by repeat (first | (with_reducible first | exact HB.out | apply qj | apply qz | apply qk) | exact HB.out))) : w.heap.size ≤ gb101));clear HB;have HB := n0_;have BK101 := n1_;have GW101 := n2_;have GE101 := n3_;clear n0_ n1_ n2_ n3_;clear hb hbox hg) | ((with_reducible refine gate_dst (N := 2) rfl ?_);refine box_event ?hg (N := 2) ?hd (cs := #[.string (⟨#[]⟩ : ByteArray),.int .i64 0,.string (⟨#[]⟩ : ByteArray),.int .i64 0,.int .i64 0,.string (⟨#[]⟩ : ByteArray),.string (⟨#[]⟩ : ByteArray)]) (t := 30) ?hr ?_;(case hd => rfl);(case hg => rfl);(case hr => first | (go_simp;done) | (go_simp;rfl));intro gb102 hg w4 hbox hb;have n0_ := qq.mk (kw (g := gb101) (o := .cells #[.string a0_0,.int .i64 a0_1,.string a0_2,.int .i64 a0_3,.int .i64 a0_4,.string a0_5,.string a0_6] 25 (0,0)) (by (with_reducible repeat (first | refine zz ?_ _ | refine zj ?_ | refine zq ?_ _));exact BK101.out) hb);have n1_ := qq.mk (zv (by repeat (first | (with_reducible first | exact HB.out | apply qj | apply qz | apply qk | refine qx ?_ GE101.out) | exact HB.out)) hb);have n2_ := qq.mk (hbox);have n3_ := qq.mk ((by rw [hg];exact (zw (by repeat (first | (with_reducible first | exact HB.out | apply qj | apply qz | apply qk | refine qx ?_ GE101.out) | exact HB.out))) : w.heap.size ≤ gb102));have n4_ := qq.mk ((by rw [hg];exact (zw (by repeat (first | (with_reducible first | exact HB.out | apply qj | apply qz | apply qk | refine qx ?_ GE101.out) | exact HB.out))) : w.heap.size ≤ gb102));have n5_ := qq.mk ((by rw [hg];exact Nat.ne_of_lt (blk_lt (g := gb101) (o := .cells #[.string a0_0,.int .i64 a0_1,.string a0_2,.int .i64 a0_3,.int .i64 a0_4,.string a0_5,.string a0_6] 25 (0,0)) (by (with_reducible repeat (first | refine zz ?_ _ | refine zj ?_ | refine zq ?_ _));exact BK101.out)) : gb101 ≠ gb102));have n6_ := qq.mk ((by rw [hg];exact Nat.ne_of_gt (blk_lt (g := gb101) (o := .cells #[.string a0_0,.int .i64 a0_1,.string a0_2,.int .i64 a0_3,.int .i64 a0_4,.string a0_5,.string a0_6] 25 (0,0)) (by (with_reducible repeat (first | refine zz ?_ _ | refine zj ?_ | refine zq ?_ _));exact BK101.out)) : gb102 ≠ gb101));clear BK101;clear HB;have BK101 := n0_;have HB := n1_;have BK102 := n2_;have GW102 := n3_;have GE102 := n4_;have NB101_102 := n5_;have NB102_101 := n6_;clear n0_ n1_ n2_ n3_ n4_ n5_ n6_;clear hb hbox hg) | ((with_reducible refine gate_dst (N := 3) rfl ?_);refine box_event ?hg (N := 3) ?hd (cs := #[.string (⟨#[]⟩ : ByteArray),.int .i64 0,.string (⟨#[]⟩ : ByteArray),.int .i64 0,.int .i64 0,.string (⟨#[]⟩ : ByteArray),.string (⟨#[]⟩ : ByteArray)]) (t := 30) ?hr ?_;(case hd => rfl);(case hg => rfl);(case hr => first | (go_simp;done) | (go_simp;rfl));intro gb103 hg w5 hbox hb;have n0_ := qq.mk (kw (g := gb101) (o := .cells #[.string a0_0,.int .i64 a0_1,.string a0_2,.int .i64 a0_3,.int .i64 a0_4,.string a0_5,.string a0_6] 25 (0,0)) (by (with_reducible repeat (first | refine zz ?_ _ | refine zj ?_ | refine zq ?_ _));exact BK101.out) hb);have n1_ := qq.mk (kw (g := gb102) (o := .cells #[.string (⟨#[]⟩ : ByteArray),.int .i64 0,.string (⟨#[]⟩ : ByteArray),.int .i64 0,.int .i64 0,.string (⟨#[]⟩ : ByteArray),.string (⟨#[]⟩ : ByteArray)] 30 (0,0)) (by (with_reducible repeat (first | refine zz ?_ _ | refine zj ?_ | refine zq ?_ _));exact BK102.out) hb);have n2_ := qq.mk (zv (by repeat (first | (with_reducible first | exact HB.out | apply qj | apply qz | apply qk | refine qx ?_ GE101.out | refine qx ?_ GE102.out) | exact HB.out)) hb);have n3_ := qq.mk (hbox);have n4_ := qq.mk ((by rw [hg];exact (zw (by repeat (first | (with_reducible first | exact HB.out | apply qj | apply qz | apply qk | refine qx ?_ GE101.out | refine qx ?_ GE102.out) | exact HB.out))) : w.heap.size ≤ gb103));have n5_ := qq.mk ((by rw [hg];exact (zw (by repeat (first | (with_reducible first | exact HB.out | apply qj | apply qz | apply qk | refine qx ?_ GE101.out | refine qx ?_ GE102.out) | exact HB.out))) : w.heap.size ≤ gb103));have n6_ := qq.mk ((by rw [hg];exact Nat.ne_of_lt (blk_lt (g := gb101) (o := .cells #[.string a0_0,.int .i64 a0_1,.string a0_2,.int .i64 a0_3,.int .i64 a0_4,.string a0_5,.string a0_6] 25 (0,0)) (by (with_reducible repeat (first | refine zz ?_ _ | refine zj ?_ | refine zq ?_ _));exact BK101.out)) : gb101 ≠ gb103));have n7_ := qq.mk ((by rw [hg];exact Nat.ne_of_gt (blk_lt (g := gb101) (o := .cells #[.string a0_0,.int .i64 a0_1,.string a0_2,.int .i64 a0_3,.int .i64 a0_4,.string a0_5,.string a0_6] 25 (0,0)) (by (with_reducible repeat (first | refine zz ?_ _ | refine zj ?_ | refine zq ?_ _));exact BK101.out)) : gb103 ≠ gb101));have n8_ := qq.mk ((by rw [hg];exact Nat.ne_of_lt (blk_lt (g := gb102) (o := .cells #[.string (⟨#[]⟩ : ByteArray),.int .i64 0,.string (⟨#[]⟩ : ByteArray),.int .i64 0,.int .i64 0,.string (⟨#[]⟩ : ByteArray),.string (⟨#[]⟩ : ByteArray)] 30 (0,0)) (by (with_reducible repeat (first | refine zz ?_ _ | refine zj ?_ | refine zq ?_ _));exact BK102.out)) : gb102 ≠ gb103));have n9_ := qq.mk ((by rw [hg];exact Nat.ne_of_gt (blk_lt (g := gb102) (o := .cells #[.string (⟨#[]⟩ : ByteArray),.int .i64 0,.string (⟨#[]⟩ : ByteArray),.int .i64 0,.int .i64 0,.string (⟨#[]⟩ : ByteArray),.string (⟨#[]⟩ : ByteArray)] 30 (0,0)) (by (with_reducible repeat (first | refine zz ?_ _ | refine zj ?_ | refine zq ?_ _));exact BK102.out)) : gb103 ≠ gb102));clear BK101;clear BK102;clear HB;have BK101 := n0_;have BK102 := n1_;have HB := n2_;have BK103 := n3_;have GW103 := n4_;have GE103 := n5_;have NB101_103 := n6_;have NB103_101 := n7_;have NB102_103 := n8_;have NB103_102 := n9_;clear n0_ n1_ n2_ n3_ n4_ n5_ n6_ n7_ n8_ n9_;clear hb hbox hg;have hnb6 := NB101_102.out;have hnc6 := NB102_101.out;have hnb7 := NB101_103.out;have hnc7 := NB103_101.out;have hcz8_0 : w5.cell? ⟨gb101,0,none⟩ = some (.string a0_0) := (qw BK101.out 0).trans rfl;have hcz8_1 : w5.cell? ⟨gb101,1,none⟩ = some (.int .i64 a0_1) := (qw BK101.out 1).trans rfl;have hcz8_2 : w5.cell? ⟨gb101,2,none⟩ = some (.string a0_2) := (qw BK101.out 2).trans rfl;have hcz8_3 : w5.cell? ⟨gb101,3,none⟩ = some (.int .i64 a0_3) := (qw BK101.out 3).trans rfl;have hcz8_4 : w5.cell? ⟨gb101,4,none⟩ = some (.int .i64 a0_4) := (qw BK101.out 4).trans rfl;have hcz8_5 : w5.cell? ⟨gb101,5,none⟩ = some (.string a0_5) := (qw BK101.out 5).trans rfl;have hcz8_6 : w5.cell? ⟨gb101,6,none⟩ = some (.string a0_6) := (qw BK101.out 6).trans rfl;have hfz8_0 := qv BK101.out 0;have hfz8_1 := qv BK101.out 1;have hfz8_2 := qv BK101.out 2;have hfz8_3 := qv BK101.out 3;have hfz8_4 := qv BK101.out 4;have hfz8_5 := qv BK101.out 5;have hfz8_6 := qv BK101.out 6;have hnb9 := NB103_102.out;have hnc9 := NB102_103.out;have hcz10_0 : w5.cell? ⟨gb103,0,none⟩ = some (.string (⟨#[]⟩ : ByteArray)) := (qw BK103.out 0).trans rfl;have hcz10_1 : w5.cell? ⟨gb103,1,none⟩ = some (.int .i64 0) := (qw BK103.out 1).trans rfl;have hcz10_2 : w5.cell? ⟨gb103,2,none⟩ = some (.string (⟨#[]⟩ : ByteArray)) := (qw BK103.out 2).trans rfl;have hcz10_3 : w5.cell? ⟨gb103,3,none⟩ = some (.int .i64 0) := (qw BK103.out 3).trans rfl;have hcz10_4 : w5.cell? ⟨gb103,4,none⟩ = some (.int .i64 0) := (qw BK103.out 4).trans rfl;have hcz10_5 : w5.cell? ⟨gb103,5,none⟩ = some (.string (⟨#[]⟩ : ByteArray)) := (qw BK103.out 5).trans rfl;have hcz10_6 : w5.cell? ⟨gb103,6,none⟩ = some (.string (⟨#[]⟩ : ByteArray)) := (qw BK103.out 6).trans rfl;have hfz10_0 := qv BK103.out 0;have hfz10_1 := qv BK103.out 1;have hfz10_2 := qv BK103.out 2;have hfz10_3 := qv BK103.out 3;have hfz10_4 := qv BK103.out 4;have hfz10_5 := qv BK103.out 5;have hfz10_6 := qv BK103.out 6) | ((with_reducible refine jv (f := 23) rfl ?_);refine goesL_ (some 15) rfl rfl Tryz.func23 (by kernel_rfl) rfl #[.agg #[.int .i64 a0_3,.int .i64 a0_4,.string a0_5,.string a0_6]] rfl (by (try simp only [List.map_toArray,List.map_cons,List.map_nil]);first | done | rfl | (simp only [List.length_drop,List.length_take];rfl)) ?_;(with_reducible refine (qzv.calls a0_3 a0_4 a0_5 a0_6 t104 t105 t106 t107 _ A2.out).mono ?_);rintro e w11 ⟨rfl,hb⟩;refine ⟨_,rfl,?_⟩;have n0_ := qq.mk (kw (g := gb101) (o := .cells #[.string a0_0,.int .i64 a0_1,.string a0_2,.int .i64 a0_3,.int .i64 a0_4,.string a0_5,.string a0_6] 25 (0,0)) (by (with_reducible repeat (first | refine zz ?_ _ | refine zj ?_ | refine zq ?_ _));refine blk_far ?_ NB101_103.out _;(with_reducible repeat (first | refine zz ?_ _ | refine zj ?_ | refine zq ?_ _));refine blk_far ?_ NB101_103.out _;(with_reducible repeat (first | refine zz ?_ _ | refine zj ?_ | refine zq ?_ _));refine blk_far ?_ NB101_103.out _;(with_reducible repeat (first | refine zz ?_ _ | refine zj ?_ | refine zq ?_ _));exact BK101.out) hb);have n1_ := qq.mk (kw (g := gb102) (o := .cells #[.string (⟨#[]⟩ : ByteArray),.int .i64 0,.string (⟨#[]⟩ : ByteArray),.int .i64 0,.int .i64 0,.string (⟨#[]⟩ : ByteArray),.string (⟨#[]⟩ : ByteArray)] 30 (0,0)) (by (with_reducible repeat (first | refine zz ?_ _ | refine zj ?_ | refine zq ?_ _));refine blk_far ?_ NB102_103.out _;(with_reducible repeat (first | refine zz ?_ _ | refine zj ?_ | refine zq ?_ _));refine blk_far ?_ NB102_103.out _;(with_reducible repeat (first | refine zz ?_ _ | refine zj ?_ | refine zq ?_ _));refine blk_far ?_ NB102_103.out _;(with_reducible repeat (first | refine zz ?_ _ | refine zj ?_ | refine zq ?_ _));exact BK102.out) hb);have n2_ := qq.mk (kw (g := gb103) (o := .cells #[.string a0_0,.int .i64 a0_1,.string a0_2,.int .i64 0,.int .i64 0,.string (⟨#[]⟩ : ByteArray),.string (⟨#[]⟩ : ByteArray)] 30 (0,0)) (by (with_reducible repeat (first | refine zz ?_ _ | refine zj ?_ | refine zq ?_ _));refine blk_put (cs := #[.string a0_0,.int .i64 a0_1,.string (⟨#[]⟩ : ByteArray),.int .i64 0,.int .i64 0,.string (⟨#[]⟩ : ByteArray),.string (⟨#[]⟩ : ByteArray)]) ?_ 2 _ rfl;(with_reducible repeat (first | refine zz ?_ _ | refine zj ?_ | refine zq ?_ _));refine blk_put (cs := #[.string a0_0,.int .i64 0,.string (⟨#[]⟩ : ByteArray),.int .i64 0,.int .i64 0,.string (⟨#[]⟩ : ByteArray),.string (⟨#[]⟩ : ByteArray)]) ?_ 1 _ rfl;(with_reducible repeat (first | refine zz ?_ _ | refine zj ?_ | refine zq ?_ _));refine blk_put (cs := #[.string (⟨#[]⟩ : ByteArray),.int .i64 0,.string (⟨#[]⟩ : ByteArray),.int .i64 0,.int .i64 0,.string (⟨#[]⟩ : ByteArray),.string (⟨#[]⟩ : ByteArray)]) ?_ 0 _ rfl;(with_reducible repeat (first | refine zz ?_ _ | refine zj ?_ | refine zq ?_ _));exact BK103.out) hb);have n3_ := qq.mk (zv (by repeat (first | (with_reducible first | exact HB.out | apply qj | apply qz | apply qk | refine qx ?_ GE101.out | refine qx ?_ GE102.out | refine qx ?_ GE103.out) | exact HB.out)) hb);clear BK101;clear BK102;clear BK103;clear HB;have BK101 := n0_;have BK102 := n1_;have BK103 := n2_;have HB := n3_;clear n0_ n1_ n2_ n3_;(try clear hb);(try clear hb2);(try clear hk);(try clear hi);have hcz12_0 : w11.cell? ⟨gb103,0,none⟩ = some (.string a0_0) := (qw BK103.out 0).trans rfl;have hcz12_1 : w11.cell? ⟨gb103,1,none⟩ = some (.int .i64 a0_1) := (qw BK103.out 1).trans rfl;have hcz12_2 : w11.cell? ⟨gb103,2,none⟩ = some (.string a0_2) := (qw BK103.out 2).trans rfl;have hcz12_3 : w11.cell? ⟨gb103,3,none⟩ = some (.int .i64 0) := (qw BK103.out 3).trans rfl;have hcz12_4 : w11.cell? ⟨gb103,4,none⟩ = some (.int .i64 0) := (qw BK103.out 4).trans rfl;have hcz12_5 : w11.cell? ⟨gb103,5,none⟩ = some (.string (⟨#[]⟩ : ByteArray)) := (qw BK103.out 5).trans rfl;have hcz12_6 : w11.cell? ⟨gb103,6,none⟩ = some (.string (⟨#[]⟩ : ByteArray)) := (qw BK103.out 6).trans rfl;have hfz12_0 := qv BK103.out 0;have hfz12_1 := qv BK103.out 1;have hfz12_2 := qv BK103.out 2;have hfz12_3 := qv BK103.out 3;have hfz12_4 := qv BK103.out 4;have hfz12_5 := qv BK103.out 5;have hfz12_6 := qv BK103.out 6;have hcz13_0 : w11.cell? ⟨gb102,0,none⟩ = some (.string (⟨#[]⟩ : ByteArray)) := (qw BK102.out 0).trans rfl;have hcz13_1 : w11.cell? ⟨gb102,1,none⟩ = some (.int .i64 0) := (qw BK102.out 1).trans rfl;have hcz13_2 : w11.cell? ⟨gb102,2,none⟩ = some (.string (⟨#[]⟩ : ByteArray)) := (qw BK102.out 2).trans rfl;have hcz13_3 : w11.cell? ⟨gb102,3,none⟩ = some (.int .i64 0) := (qw BK102.out 3).trans rfl;have hcz13_4 : w11.cell? ⟨gb102,4,none⟩ = some (.int .i64 0) := (qw BK102.out 4).trans rfl;have hcz13_5 : w11.cell? ⟨gb102,5,none⟩ = some (.string (⟨#[]⟩ : ByteArray)) := (qw BK102.out 5).trans rfl;have hcz13_6 : w11.cell? ⟨gb102,6,none⟩ = some (.string (⟨#[]⟩ : ByteArray)) := (qw BK102.out 6).trans rfl;have hfz13_0 := qv BK102.out 0;have hfz13_1 := qv BK102.out 1;have hfz13_2 := qv BK102.out 2;have hfz13_3 := qv BK102.out 3;have hfz13_4 := qv BK102.out 4;have hfz13_5 := qv BK102.out 5;have hfz13_6 := qv BK102.out 6))
 refine bodyPost_ret (results_cell_row rfl _ _ gb102 30 #[.string a0_0,.int .i64 a0_1,.string a0_2,.int .i64 t104,.int .i64 t105,.string t106,.string t107] (0,0) _ rfl (by (with_reducible repeat (first | refine zz ?_ _ | refine zj ?_ | refine zq ?_ _));refine blk_put (cs := #[.string a0_0,.int .i64 a0_1,.string a0_2,.int .i64 t104,.int .i64 t105,.string t106,.string (⟨#[]⟩ : ByteArray)]) ?_ 6 _ rfl;(with_reducible repeat (first | refine zz ?_ _ | refine zj ?_ | refine zq ?_ _));refine blk_put (cs := #[.string a0_0,.int .i64 a0_1,.string a0_2,.int .i64 t104,.int .i64 t105,.string (⟨#[]⟩ : ByteArray),.string (⟨#[]⟩ : ByteArray)]) ?_ 5 _ rfl;(with_reducible repeat (first | refine zz ?_ _ | refine zj ?_ | refine zq ?_ _));refine blk_put (cs := #[.string a0_0,.int .i64 a0_1,.string a0_2,.int .i64 t104,.int .i64 0,.string (⟨#[]⟩ : ByteArray),.string (⟨#[]⟩ : ByteArray)]) ?_ 4 _ rfl;(with_reducible repeat (first | refine zz ?_ _ | refine zj ?_ | refine zq ?_ _));refine blk_put (cs := #[.string a0_0,.int .i64 a0_1,.string a0_2,.int .i64 0,.int .i64 0,.string (⟨#[]⟩ : ByteArray),.string (⟨#[]⟩ : ByteArray)]) ?_ 3 _ rfl;(with_reducible repeat (first | refine zz ?_ _ | refine zj ?_ | refine zq ?_ _));refine blk_put (cs := #[.string a0_0,.int .i64 a0_1,.string (⟨#[]⟩ : ByteArray),.int .i64 0,.int .i64 0,.string (⟨#[]⟩ : ByteArray),.string (⟨#[]⟩ : ByteArray)]) ?_ 2 _ rfl;(with_reducible repeat (first | refine zz ?_ _ | refine zj ?_ | refine zq ?_ _));refine blk_put (cs := #[.string a0_0,.int .i64 0,.string (⟨#[]⟩ : ByteArray),.int .i64 0,.int .i64 0,.string (⟨#[]⟩ : ByteArray),.string (⟨#[]⟩ : ByteArray)]) ?_ 1 _ rfl;(with_reducible repeat (first | refine zz ?_ _ | refine zj ?_ | refine zq ?_ _));refine blk_put (cs := #[.string (⟨#[]⟩ : ByteArray),.int .i64 0,.string (⟨#[]⟩ : ByteArray),.int .i64 0,.int .i64 0,.string (⟨#[]⟩ : ByteArray),.string (⟨#[]⟩ : ByteArray)]) ?_ 0 _ rfl;(with_reducible repeat (first | refine zz ?_ _ | refine zj ?_ | refine zq ?_ _));refine blk_far ?_ NB102_103.out _;(with_reducible repeat (first | refine zz ?_ _ | refine zj ?_ | refine zq ?_ _));refine blk_far ?_ NB102_103.out _;(with_reducible repeat (first | refine zz ?_ _ | refine zj ?_ | refine zq ?_ _));refine blk_far ?_ NB102_103.out _;(with_reducible repeat (first | refine zz ?_ _ | refine zj ?_ | refine zq ?_ _));refine blk_far ?_ NB102_103.out _;(with_reducible repeat (first | refine zz ?_ _ | refine zj ?_ | refine zq ?_ _));exact BK102.out) Tryz.underlying30 rfl (by kernel_rfl)) rfl ?_
 exact ⟨by first | rfl | (simp [*,jk,jj] <;> rfl),by repeat (first | (with_reducible first | exact HB.out | apply qj | apply qz | apply qk | refine qx ?_ GE101.out | refine qx ?_ GE102.out | refine qx ?_ GE103.out) | exact HB.out)⟩
def qqv.f (a0_0 : ByteArray) (a0_1 : Int) (a0_2 : ByteArray) (a0_3 : Int) (a0_4 : Int) (a0_5 : ByteArray) (a0_6 : ByteArray) (a1_0 : ByteArray) (a1_1 : Int) (a1_2 : ByteArray) (a1_3 : Int) (a1_4 : Int) (a1_5 : ByteArray) (a1_6 : ByteArray) : Option (Bool) := if a0_0.toList = a1_0.toList then (if a0_1 = a1_1 then (if a0_2.toList = a1_2.toList then ((qqz.f a0_3 a0_4 a0_5 a0_6 a1_3 a1_4 a1_5 a1_6).bind fun t103 => (if t103 = true then (some true) else (some false))) else (some false)) else (some false)) else (some false)
set_option maxHeartbeats 8000000 in
set_option maxRecDepth 100000 in
theorem qqv.calls (a0_0 : ByteArray) (a0_1 : Int) (a0_2 : ByteArray) (a0_3 : Int) (a0_4 : Int) (a0_5 : ByteArray) (a0_6 : ByteArray) (a1_0 : ByteArray) (a1_1 : Int) (a1_2 : ByteArray) (a1_3 : Int) (a1_4 : Int) (a1_5 : ByteArray) (a1_6 : ByteArray) (r : Bool) (w : World) (h : qqv.f a0_0 a0_1 a0_2 a0_3 a0_4 a0_5 a0_6 a1_0 a1_1 a1_2 a1_3 a1_4 a1_5 a1_6 = some r) :
  Calls Tryz.prog 65 #[.agg #[.string a0_0,.int .i64 a0_1,.string a0_2,.int .i64 a0_3,.int .i64 a0_4,.string a0_5,.string a0_6],.agg #[.string a1_0,.int .i64 a1_1,.string a1_2,.int .i64 a1_3,.int .i64 a1_4,.string a1_5,.string a1_6]] w fun e w' => e = .returned (.bool r) ∧ Below w.heap.size w w' := by
 have hu30 := Tryz.underlying30
 have hu28 := Tryz.underlying28
 have HB := qq.mk (Below.refl w.heap.size w)
 have H : (if a0_0.toList = a1_0.toList then (if a0_1 = a1_1 then (if a0_2.toList = a1_2.toList then ((qqz.f a0_3 a0_4 a0_5 a0_6 a1_3 a1_4 a1_5 a1_6).bind fun t103 => (if t103 = true then (some true) else (some false))) else (some false)) else (some false)) else (some false)) = some r := h
 clear h
 by_cases c3 : a0_0.toList = a1_0.toList
 ·rw [if_pos c3] at H
  have c3b0 : (a0_0.toList == a1_0.toList) = true := beq_iff_eq.mpr c3
  have c3b1 : (a0_0.toList != a1_0.toList) = false := bne_eq_false_iff_eq.mpr c3
  clear c3
  by_cases c4 : a0_1 = a1_1
  ·rw [if_pos c4] at H
   have c4b0 : (a0_1 == a1_1) = true := beq_iff_eq.mpr c4
   have c4b1 : (a0_1 != a1_1) = false := bne_eq_false_iff_eq.mpr c4
   clear c4
   by_cases c5 : a0_2.toList = a1_2.toList
   ·rw [if_pos c5] at H
    have c5b0 : (a0_2.toList == a1_2.toList) = true := beq_iff_eq.mpr c5
    have c5b1 : (a0_2.toList != a1_2.toList) = false := bne_eq_false_iff_eq.mpr c5
    clear c5
    replace H := Option.bind_eq_some_iff.mp H
    obtain ⟨t103,A60,H⟩ := H
    replace H : (if t103 = true then (some true) else (some false)) = some r := H
    have A6 := qq.mk A60
    clear A60
    by_cases c7 : t103 = true
    ·subst c7
     have H1 : (some true) = some r := by rw [if_pos rfl] at H;exact H
     clear H
     have H := H1
     clear H1
     obtain rfl := Option.some.inj H
     go_enter Tryz.func65,Tryz.ntmps65
     go_wp2_with (first | ((with_reducible refine gate_dst (N := 2) rfl ?_);refine box_event ?hg (N := 2) ?hd (cs := #[.string a0_0,.int .i64 a0_1,.string a0_2,.int .i64 a0_3,.int .i64 a0_4,.string a0_5,.string a0_6]) (t := 30) ?hr ?_;(case hd => rfl);(case hg => rfl);(case hr => first | (go_simp;done) | (go_simp;rfl));intro gb101 hg w8 hbox hb;have n0_ := qq.mk (zv (by repeat (first | (with_reducible first | exact HB.out | apply qj | apply qz | apply qk) | exact HB.out)) hb);have n1_ := qq.mk (hbox);have n2_ := qq.mk ((by rw [hg];exact (zw (by repeat (first | (with_reducible first | exact HB.out | apply qj | apply qz | apply qk) | exact HB.out))) : w.heap.size ≤ gb101));have n3_ := qq.mk ((by rw [hg];exact (zw (by repeat (first | (with_reducible first | exact HB.out | apply qj | apply qz | apply qk) | exact HB.out))) : w.heap.size ≤ gb101));clear HB;have HB := n0_;have BK101 := n1_;have GW101 := n2_;have GE101 := n3_;clear n0_ n1_ n2_ n3_;clear hb hbox hg) | ((with_reducible refine gate_dst (N := 3) rfl ?_);refine box_event ?hg (N := 3) ?hd (cs := #[.string a1_0,.int .i64 a1_1,.string a1_2,.int .i64 a1_3,.int .i64 a1_4,.string a1_5,.string a1_6]) (t := 30) ?hr ?_;(case hd => rfl);(case hg => rfl);(case hr => first | (go_simp;done) | (go_simp;rfl));intro gb102 hg w9 hbox hb;have n0_ := qq.mk (kw (g := gb101) (o := .cells #[.string a0_0,.int .i64 a0_1,.string a0_2,.int .i64 a0_3,.int .i64 a0_4,.string a0_5,.string a0_6] 30 (0,0)) (by (with_reducible repeat (first | refine zz ?_ _ | refine zj ?_ | refine zq ?_ _));exact BK101.out) hb);have n1_ := qq.mk (zv (by repeat (first | (with_reducible first | exact HB.out | apply qj | apply qz | apply qk | refine qx ?_ GE101.out) | exact HB.out)) hb);have n2_ := qq.mk (hbox);have n3_ := qq.mk ((by rw [hg];exact (zw (by repeat (first | (with_reducible first | exact HB.out | apply qj | apply qz | apply qk | refine qx ?_ GE101.out) | exact HB.out))) : w.heap.size ≤ gb102));have n4_ := qq.mk ((by rw [hg];exact (zw (by repeat (first | (with_reducible first | exact HB.out | apply qj | apply qz | apply qk | refine qx ?_ GE101.out) | exact HB.out))) : w.heap.size ≤ gb102));have n5_ := qq.mk ((by rw [hg];exact Nat.ne_of_lt (blk_lt (g := gb101) (o := .cells #[.string a0_0,.int .i64 a0_1,.string a0_2,.int .i64 a0_3,.int .i64 a0_4,.string a0_5,.string a0_6] 30 (0,0)) (by (with_reducible repeat (first | refine zz ?_ _ | refine zj ?_ | refine zq ?_ _));exact BK101.out)) : gb101 ≠ gb102));have n6_ := qq.mk ((by rw [hg];exact Nat.ne_of_gt (blk_lt (g := gb101) (o := .cells #[.string a0_0,.int .i64 a0_1,.string a0_2,.int .i64 a0_3,.int .i64 a0_4,.string a0_5,.string a0_6] 30 (0,0)) (by (with_reducible repeat (first | refine zz ?_ _ | refine zj ?_ | refine zq ?_ _));exact BK101.out)) : gb102 ≠ gb101));clear BK101;clear HB;have BK101 := n0_;have HB := n1_;have BK102 := n2_;have GW102 := n3_;have GE102 := n4_;have NB101_102 := n5_;have NB102_101 := n6_;clear n0_ n1_ n2_ n3_ n4_ n5_ n6_;clear hb hbox hg;have hnb10 := NB101_102.out;have hnc10 := NB102_101.out;have hcz11_0 : w9.cell? ⟨gb101,0,none⟩ = some (.string a0_0) := (qw BK101.out 0).trans rfl;have hcz11_1 : w9.cell? ⟨gb101,1,none⟩ = some (.int .i64 a0_1) := (qw BK101.out 1).trans rfl;have hcz11_2 : w9.cell? ⟨gb101,2,none⟩ = some (.string a0_2) := (qw BK101.out 2).trans rfl;have hcz11_3 : w9.cell? ⟨gb101,3,none⟩ = some (.int .i64 a0_3) := (qw BK101.out 3).trans rfl;have hcz11_4 : w9.cell? ⟨gb101,4,none⟩ = some (.int .i64 a0_4) := (qw BK101.out 4).trans rfl;have hcz11_5 : w9.cell? ⟨gb101,5,none⟩ = some (.string a0_5) := (qw BK101.out 5).trans rfl;have hcz11_6 : w9.cell? ⟨gb101,6,none⟩ = some (.string a0_6) := (qw BK101.out 6).trans rfl;have hfz11_0 := qv BK101.out 0;have hfz11_1 := qv BK101.out 1;have hfz11_2 := qv BK101.out 2;have hfz11_3 := qv BK101.out 3;have hfz11_4 := qv BK101.out 4;have hfz11_5 := qv BK101.out 5;have hfz11_6 := qv BK101.out 6;have hcz12_0 : w9.cell? ⟨gb102,0,none⟩ = some (.string a1_0) := (qw BK102.out 0).trans rfl;have hcz12_1 : w9.cell? ⟨gb102,1,none⟩ = some (.int .i64 a1_1) := (qw BK102.out 1).trans rfl;have hcz12_2 : w9.cell? ⟨gb102,2,none⟩ = some (.string a1_2) := (qw BK102.out 2).trans rfl;have hcz12_3 : w9.cell? ⟨gb102,3,none⟩ = some (.int .i64 a1_3) := (qw BK102.out 3).trans rfl;have hcz12_4 : w9.cell? ⟨gb102,4,none⟩ = some (.int .i64 a1_4) := (qw BK102.out 4).trans rfl;have hcz12_5 : w9.cell? ⟨gb102,5,none⟩ = some (.string a1_5) := (qw BK102.out 5).trans rfl;have hcz12_6 : w9.cell? ⟨gb102,6,none⟩ = some (.string a1_6) := (qw BK102.out 6).trans rfl;have hfz12_0 := qv BK102.out 0;have hfz12_1 := qv BK102.out 1;have hfz12_2 := qv BK102.out 2;have hfz12_3 := qv BK102.out 3;have hfz12_4 := qv BK102.out 4;have hfz12_5 := qv BK102.out 5;have hfz12_6 := qv BK102.out 6) | ((with_reducible refine jv (f := 84) rfl ?_);refine goesL_ (some 24) rfl rfl Tryz.func84 (by kernel_rfl) rfl #[.agg #[.int .i64 a0_3,.int .i64 a0_4,.string a0_5,.string a0_6],.agg #[.int .i64 a1_3,.int .i64 a1_4,.string a1_5,.string a1_6]] rfl (by (try simp only [List.map_toArray,List.map_cons,List.map_nil]);first | done | rfl | (simp only [List.length_drop,List.length_take];rfl)) ?_;(with_reducible refine (qqz.calls a0_3 a0_4 a0_5 a0_6 a1_3 a1_4 a1_5 a1_6 true _ A6.out).mono ?_);rintro e w13 ⟨rfl,hb⟩;refine ⟨_,rfl,?_⟩;have n0_ := qq.mk (kw (g := gb101) (o := .cells #[.string a0_0,.int .i64 a0_1,.string a0_2,.int .i64 a0_3,.int .i64 a0_4,.string a0_5,.string a0_6] 30 (0,0)) (by (with_reducible repeat (first | refine zz ?_ _ | refine zj ?_ | refine zq ?_ _));exact BK101.out) hb);have n1_ := qq.mk (kw (g := gb102) (o := .cells #[.string a1_0,.int .i64 a1_1,.string a1_2,.int .i64 a1_3,.int .i64 a1_4,.string a1_5,.string a1_6] 30 (0,0)) (by (with_reducible repeat (first | refine zz ?_ _ | refine zj ?_ | refine zq ?_ _));exact BK102.out) hb);have n2_ := qq.mk (zv (by repeat (first | (with_reducible first | exact HB.out | apply qj | apply qz | apply qk | refine qx ?_ GE101.out | refine qx ?_ GE102.out) | exact HB.out)) hb);clear BK101;clear BK102;clear HB;have BK101 := n0_;have BK102 := n1_;have HB := n2_;clear n0_ n1_ n2_;(try clear hb);(try clear hb2);(try clear hk);(try clear hi)))
     go_ret
     exact ⟨by first | rfl | (simp [*,jk,jj] <;> rfl),by repeat (first | (with_reducible first | exact HB.out | apply qj | apply qz | apply qk | refine qx ?_ GE101.out | refine qx ?_ GE102.out) | exact HB.out)⟩
    ·replace c7 := Bool.eq_false_iff.mpr c7
     subst c7
     have H1 : (some false) = some r := by rw [if_neg (show ¬ (false = true) by decide)] at H;exact H
     clear H
     have H := H1
     clear H1
     obtain rfl := Option.some.inj H
     go_enter Tryz.func65,Tryz.ntmps65
     go_wp2_with (first | ((with_reducible refine gate_dst (N := 2) rfl ?_);refine box_event ?hg (N := 2) ?hd (cs := #[.string a0_0,.int .i64 a0_1,.string a0_2,.int .i64 a0_3,.int .i64 a0_4,.string a0_5,.string a0_6]) (t := 30) ?hr ?_;(case hd => rfl);(case hg => rfl);(case hr => first | (go_simp;done) | (go_simp;rfl));intro gb101 hg w14 hbox hb;have n0_ := qq.mk (zv (by repeat (first | (with_reducible first | exact HB.out | apply qj | apply qz | apply qk) | exact HB.out)) hb);have n1_ := qq.mk (hbox);have n2_ := qq.mk ((by rw [hg];exact (zw (by repeat (first | (with_reducible first | exact HB.out | apply qj | apply qz | apply qk) | exact HB.out))) : w.heap.size ≤ gb101));have n3_ := qq.mk ((by rw [hg];exact (zw (by repeat (first | (with_reducible first | exact HB.out | apply qj | apply qz | apply qk) | exact HB.out))) : w.heap.size ≤ gb101));clear HB;have HB := n0_;have BK101 := n1_;have GW101 := n2_;have GE101 := n3_;clear n0_ n1_ n2_ n3_;clear hb hbox hg) | ((with_reducible refine gate_dst (N := 3) rfl ?_);refine box_event ?hg (N := 3) ?hd (cs := #[.string a1_0,.int .i64 a1_1,.string a1_2,.int .i64 a1_3,.int .i64 a1_4,.string a1_5,.string a1_6]) (t := 30) ?hr ?_;(case hd => rfl);(case hg => rfl);(case hr => first | (go_simp;done) | (go_simp;rfl));intro gb102 hg w15 hbox hb;have n0_ := qq.mk (kw (g := gb101) (o := .cells #[.string a0_0,.int .i64 a0_1,.string a0_2,.int .i64 a0_3,.int .i64 a0_4,.string a0_5,.string a0_6] 30 (0,0)) (by (with_reducible repeat (first | refine zz ?_ _ | refine zj ?_ | refine zq ?_ _));exact BK101.out) hb);have n1_ := qq.mk (zv (by repeat (first | (with_reducible first | exact HB.out | apply qj | apply qz | apply qk | refine qx ?_ GE101.out) | exact HB.out)) hb);have n2_ := qq.mk (hbox);have n3_ := qq.mk ((by rw [hg];exact (zw (by repeat (first | (with_reducible first | exact HB.out | apply qj | apply qz | apply qk | refine qx ?_ GE101.out) | exact HB.out))) : w.heap.size ≤ gb102));have n4_ := qq.mk ((by rw [hg];exact (zw (by repeat (first | (with_reducible first | exact HB.out | apply qj | apply qz | apply qk | refine qx ?_ GE101.out) | exact HB.out))) : w.heap.size ≤ gb102));have n5_ := qq.mk ((by rw [hg];exact Nat.ne_of_lt (blk_lt (g := gb101) (o := .cells #[.string a0_0,.int .i64 a0_1,.string a0_2,.int .i64 a0_3,.int .i64 a0_4,.string a0_5,.string a0_6] 30 (0,0)) (by (with_reducible repeat (first | refine zz ?_ _ | refine zj ?_ | refine zq ?_ _));exact BK101.out)) : gb101 ≠ gb102));have n6_ := qq.mk ((by rw [hg];exact Nat.ne_of_gt (blk_lt (g := gb101) (o := .cells #[.string a0_0,.int .i64 a0_1,.string a0_2,.int .i64 a0_3,.int .i64 a0_4,.string a0_5,.string a0_6] 30 (0,0)) (by (with_reducible repeat (first | refine zz ?_ _ | refine zj ?_ | refine zq ?_ _));exact BK101.out)) : gb102 ≠ gb101));clear BK101;clear HB;have BK101 := n0_;have HB := n1_;have BK102 := n2_;have GW102 := n3_;have GE102 := n4_;have NB101_102 := n5_;have NB102_101 := n6_;clear n0_ n1_ n2_ n3_ n4_ n5_ n6_;clear hb hbox hg;have hnb16 := NB101_102.out;have hnc16 := NB102_101.out;have hcz17_0 : w15.cell? ⟨gb101,0,none⟩ = some (.string a0_0) := (qw BK101.out 0).trans rfl;have hcz17_1 : w15.cell? ⟨gb101,1,none⟩ = some (.int .i64 a0_1) := (qw BK101.out 1).trans rfl;have hcz17_2 : w15.cell? ⟨gb101,2,none⟩ = some (.string a0_2) := (qw BK101.out 2).trans rfl;have hcz17_3 : w15.cell? ⟨gb101,3,none⟩ = some (.int .i64 a0_3) := (qw BK101.out 3).trans rfl;have hcz17_4 : w15.cell? ⟨gb101,4,none⟩ = some (.int .i64 a0_4) := (qw BK101.out 4).trans rfl;have hcz17_5 : w15.cell? ⟨gb101,5,none⟩ = some (.string a0_5) := (qw BK101.out 5).trans rfl;have hcz17_6 : w15.cell? ⟨gb101,6,none⟩ = some (.string a0_6) := (qw BK101.out 6).trans rfl;have hfz17_0 := qv BK101.out 0;have hfz17_1 := qv BK101.out 1;have hfz17_2 := qv BK101.out 2;have hfz17_3 := qv BK101.out 3;have hfz17_4 := qv BK101.out 4;have hfz17_5 := qv BK101.out 5;have hfz17_6 := qv BK101.out 6;have hcz18_0 : w15.cell? ⟨gb102,0,none⟩ = some (.string a1_0) := (qw BK102.out 0).trans rfl;have hcz18_1 : w15.cell? ⟨gb102,1,none⟩ = some (.int .i64 a1_1) := (qw BK102.out 1).trans rfl;have hcz18_2 : w15.cell? ⟨gb102,2,none⟩ = some (.string a1_2) := (qw BK102.out 2).trans rfl;have hcz18_3 : w15.cell? ⟨gb102,3,none⟩ = some (.int .i64 a1_3) := (qw BK102.out 3).trans rfl;have hcz18_4 : w15.cell? ⟨gb102,4,none⟩ = some (.int .i64 a1_4) := (qw BK102.out 4).trans rfl;have hcz18_5 : w15.cell? ⟨gb102,5,none⟩ = some (.string a1_5) := (qw BK102.out 5).trans rfl;have hcz18_6 : w15.cell? ⟨gb102,6,none⟩ = some (.string a1_6) := (qw BK102.out 6).trans rfl;have hfz18_0 := qv BK102.out 0;have hfz18_1 := qv BK102.out 1;have hfz18_2 := qv BK102.out 2;have hfz18_3 := qv BK102.out 3;have hfz18_4 := qv BK102.out 4;have hfz18_5 := qv BK102.out 5;have hfz18_6 := qv BK102.out 6) | ((with_reducible refine jv (f := 84) rfl ?_);refine goesL_ (some 24) rfl rfl Tryz.func84 (by kernel_rfl) rfl #[.agg #[.int .i64 a0_3,.int .i64 a0_4,.string a0_5,.string a0_6],.agg #[.int .i64 a1_3,.int .i64 a1_4,.string a1_5,.string a1_6]] rfl (by (try simp only [List.map_toArray,List.map_cons,List.map_nil]);first | done | rfl | (simp only [List.length_drop,List.length_take];rfl)) ?_;(with_reducible refine (qqz.calls a0_3 a0_4 a0_5 a0_6 a1_3 a1_4 a1_5 a1_6 false _ A6.out).mono ?_);rintro e w19 ⟨rfl,hb⟩;refine ⟨_,rfl,?_⟩;have n0_ := qq.mk (kw (g := gb101) (o := .cells #[.string a0_0,.int .i64 a0_1,.string a0_2,.int .i64 a0_3,.int .i64 a0_4,.string a0_5,.string a0_6] 30 (0,0)) (by (with_reducible repeat (first | refine zz ?_ _ | refine zj ?_ | refine zq ?_ _));exact BK101.out) hb);have n1_ := qq.mk (kw (g := gb102) (o := .cells #[.string a1_0,.int .i64 a1_1,.string a1_2,.int .i64 a1_3,.int .i64 a1_4,.string a1_5,.string a1_6] 30 (0,0)) (by (with_reducible repeat (first | refine zz ?_ _ | refine zj ?_ | refine zq ?_ _));exact BK102.out) hb);have n2_ := qq.mk (zv (by repeat (first | (with_reducible first | exact HB.out | apply qj | apply qz | apply qk | refine qx ?_ GE101.out | refine qx ?_ GE102.out) | exact HB.out)) hb);clear BK101;clear BK102;clear HB;have BK101 := n0_;have BK102 := n1_;have HB := n2_;clear n0_ n1_ n2_;(try clear hb);(try clear hb2);(try clear hk);(try clear hi)))
     go_ret
     exact ⟨by first | rfl | (simp [*,jk,jj] <;> rfl),by repeat (first | (with_reducible first | exact HB.out | apply qj | apply qz | apply qk | refine qx ?_ GE101.out | refine qx ?_ GE102.out) | exact HB.out)⟩
   ·rw [if_neg c5] at H
    have c5b0 : (a0_2.toList == a1_2.toList) = false := beq_eq_false_iff_ne.mpr c5
    have c5b1 : (a0_2.toList != a1_2.toList) = true := bne_iff_ne.mpr c5
    obtain rfl := Option.some.inj H
    go_enter Tryz.func65,Tryz.ntmps65
    go_wp2_with (first | ((with_reducible refine gate_dst (N := 2) rfl ?_);refine box_event ?hg (N := 2) ?hd (cs := #[.string a0_0,.int .i64 a0_1,.string a0_2,.int .i64 a0_3,.int .i64 a0_4,.string a0_5,.string a0_6]) (t := 30) ?hr ?_;(case hd => rfl);(case hg => rfl);(case hr => first | (go_simp;done) | (go_simp;rfl));intro gb101 hg w20 hbox hb;have n0_ := qq.mk (zv (by repeat (first | (with_reducible first | exact HB.out | apply qj | apply qz | apply qk) | exact HB.out)) hb);have n1_ := qq.mk (hbox);have n2_ := qq.mk ((by rw [hg];exact (zw (by repeat (first | (with_reducible first | exact HB.out | apply qj | apply qz | apply qk) | exact HB.out))) : w.heap.size ≤ gb101));have n3_ := qq.mk ((by rw [hg];exact (zw (by repeat (first | (with_reducible first | exact HB.out | apply qj | apply qz | apply qk) | exact HB.out))) : w.heap.size ≤ gb101));clear HB;have HB := n0_;have BK101 := n1_;have GW101 := n2_;have GE101 := n3_;clear n0_ n1_ n2_ n3_;clear hb hbox hg) | ((with_reducible refine gate_dst (N := 3) rfl ?_);refine box_event ?hg (N := 3) ?hd (cs := #[.string a1_0,.int .i64 a1_1,.string a1_2,.int .i64 a1_3,.int .i64 a1_4,.string a1_5,.string a1_6]) (t := 30) ?hr ?_;(case hd => rfl);(case hg => rfl);(case hr => first | (go_simp;done) | (go_simp;rfl));intro gb102 hg w21 hbox hb;have n0_ := qq.mk (kw (g := gb101) (o := .cells #[.string a0_0,.int .i64 a0_1,.string a0_2,.int .i64 a0_3,.int .i64 a0_4,.string a0_5,.string a0_6] 30 (0,0)) (by (with_reducible repeat (first | refine zz ?_ _ | refine zj ?_ | refine zq ?_ _));exact BK101.out) hb);have n1_ := qq.mk (zv (by repeat (first | (with_reducible first | exact HB.out | apply qj | apply qz | apply qk | refine qx ?_ GE101.out) | exact HB.out)) hb);have n2_ := qq.mk (hbox);have n3_ := qq.mk ((by rw [hg];exact (zw (by repeat (first | (with_reducible first | exact HB.out | apply qj | apply qz | apply qk | refine qx ?_ GE101.out) | exact HB.out))) : w.heap.size ≤ gb102));have n4_ := qq.mk ((by rw [hg];exact (zw (by repeat (first | (with_reducible first | exact HB.out | apply qj | apply qz | apply qk | refine qx ?_ GE101.out) | exact HB.out))) : w.heap.size ≤ gb102));have n5_ := qq.mk ((by rw [hg];exact Nat.ne_of_lt (blk_lt (g := gb101) (o := .cells #[.string a0_0,.int .i64 a0_1,.string a0_2,.int .i64 a0_3,.int .i64 a0_4,.string a0_5,.string a0_6] 30 (0,0)) (by (with_reducible repeat (first | refine zz ?_ _ | refine zj ?_ | refine zq ?_ _));exact BK101.out)) : gb101 ≠ gb102));have n6_ := qq.mk ((by rw [hg];exact Nat.ne_of_gt (blk_lt (g := gb101) (o := .cells #[.string a0_0,.int .i64 a0_1,.string a0_2,.int .i64 a0_3,.int .i64 a0_4,.string a0_5,.string a0_6] 30 (0,0)) (by (with_reducible repeat (first | refine zz ?_ _ | refine zj ?_ | refine zq ?_ _));exact BK101.out)) : gb102 ≠ gb101));clear BK101;clear HB;have BK101 := n0_;have HB := n1_;have BK102 := n2_;have GW102 := n3_;have GE102 := n4_;have NB101_102 := n5_;have NB102_101 := n6_;clear n0_ n1_ n2_ n3_ n4_ n5_ n6_;clear hb hbox hg;have hnb22 := NB101_102.out;have hnc22 := NB102_101.out;have hcz23_0 : w21.cell? ⟨gb101,0,none⟩ = some (.string a0_0) := (qw BK101.out 0).trans rfl;have hcz23_1 : w21.cell? ⟨gb101,1,none⟩ = some (.int .i64 a0_1) := (qw BK101.out 1).trans rfl;have hcz23_2 : w21.cell? ⟨gb101,2,none⟩ = some (.string a0_2) := (qw BK101.out 2).trans rfl;have hcz23_3 : w21.cell? ⟨gb101,3,none⟩ = some (.int .i64 a0_3) := (qw BK101.out 3).trans rfl;have hcz23_4 : w21.cell? ⟨gb101,4,none⟩ = some (.int .i64 a0_4) := (qw BK101.out 4).trans rfl;have hcz23_5 : w21.cell? ⟨gb101,5,none⟩ = some (.string a0_5) := (qw BK101.out 5).trans rfl;have hcz23_6 : w21.cell? ⟨gb101,6,none⟩ = some (.string a0_6) := (qw BK101.out 6).trans rfl;have hfz23_0 := qv BK101.out 0;have hfz23_1 := qv BK101.out 1;have hfz23_2 := qv BK101.out 2;have hfz23_3 := qv BK101.out 3;have hfz23_4 := qv BK101.out 4;have hfz23_5 := qv BK101.out 5;have hfz23_6 := qv BK101.out 6;have hcz24_0 : w21.cell? ⟨gb102,0,none⟩ = some (.string a1_0) := (qw BK102.out 0).trans rfl;have hcz24_1 : w21.cell? ⟨gb102,1,none⟩ = some (.int .i64 a1_1) := (qw BK102.out 1).trans rfl;have hcz24_2 : w21.cell? ⟨gb102,2,none⟩ = some (.string a1_2) := (qw BK102.out 2).trans rfl;have hcz24_3 : w21.cell? ⟨gb102,3,none⟩ = some (.int .i64 a1_3) := (qw BK102.out 3).trans rfl;have hcz24_4 : w21.cell? ⟨gb102,4,none⟩ = some (.int .i64 a1_4) := (qw BK102.out 4).trans rfl;have hcz24_5 : w21.cell? ⟨gb102,5,none⟩ = some (.string a1_5) := (qw BK102.out 5).trans rfl;have hcz24_6 : w21.cell? ⟨gb102,6,none⟩ = some (.string a1_6) := (qw BK102.out 6).trans rfl;have hfz24_0 := qv BK102.out 0;have hfz24_1 := qv BK102.out 1;have hfz24_2 := qv BK102.out 2;have hfz24_3 := qv BK102.out 3;have hfz24_4 := qv BK102.out 4;have hfz24_5 := qv BK102.out 5;have hfz24_6 := qv BK102.out 6))
    go_ret
    exact ⟨by first | rfl | (simp [*,jk,jj] <;> rfl),by repeat (first | (with_reducible first | exact HB.out | apply qj | apply qz | apply qk | refine qx ?_ GE101.out | refine qx ?_ GE102.out) | exact HB.out)⟩
  ·rw [if_neg c4] at H
   have c4b0 : (a0_1 == a1_1) = false := beq_eq_false_iff_ne.mpr c4
   have c4b1 : (a0_1 != a1_1) = true := bne_iff_ne.mpr c4
   obtain rfl := Option.some.inj H
   go_enter Tryz.func65,Tryz.ntmps65
   go_wp2_with (first | ((with_reducible refine gate_dst (N := 2) rfl ?_);refine box_event ?hg (N := 2) ?hd (cs := #[.string a0_0,.int .i64 a0_1,.string a0_2,.int .i64 a0_3,.int .i64 a0_4,.string a0_5,.string a0_6]) (t := 30) ?hr ?_;(case hd => rfl);(case hg => rfl);(case hr => first | (go_simp;done) | (go_simp;rfl));intro gb101 hg w25 hbox hb;have n0_ := qq.mk (zv (by repeat (first | (with_reducible first | exact HB.out | apply qj | apply qz | apply qk) | exact HB.out)) hb);have n1_ := qq.mk (hbox);have n2_ := qq.mk ((by rw [hg];exact (zw (by repeat (first | (with_reducible first | exact HB.out | apply qj | apply qz | apply qk) | exact HB.out))) : w.heap.size ≤ gb101));have n3_ := qq.mk ((by rw [hg];exact (zw (by repeat (first | (with_reducible first | exact HB.out | apply qj | apply qz | apply qk) | exact HB.out))) : w.heap.size ≤ gb101));clear HB;have HB := n0_;have BK101 := n1_;have GW101 := n2_;have GE101 := n3_;clear n0_ n1_ n2_ n3_;clear hb hbox hg) | ((with_reducible refine gate_dst (N := 3) rfl ?_);refine box_event ?hg (N := 3) ?hd (cs := #[.string a1_0,.int .i64 a1_1,.string a1_2,.int .i64 a1_3,.int .i64 a1_4,.string a1_5,.string a1_6]) (t := 30) ?hr ?_;(case hd => rfl);(case hg => rfl);(case hr => first | (go_simp;done) | (go_simp;rfl));intro gb102 hg w26 hbox hb;have n0_ := qq.mk (kw (g := gb101) (o := .cells #[.string a0_0,.int .i64 a0_1,.string a0_2,.int .i64 a0_3,.int .i64 a0_4,.string a0_5,.string a0_6] 30 (0,0)) (by (with_reducible repeat (first | refine zz ?_ _ | refine zj ?_ | refine zq ?_ _));exact BK101.out) hb);have n1_ := qq.mk (zv (by repeat (first | (with_reducible first | exact HB.out | apply qj | apply qz | apply qk | refine qx ?_ GE101.out) | exact HB.out)) hb);have n2_ := qq.mk (hbox);have n3_ := qq.mk ((by rw [hg];exact (zw (by repeat (first | (with_reducible first | exact HB.out | apply qj | apply qz | apply qk | refine qx ?_ GE101.out) | exact HB.out))) : w.heap.size ≤ gb102));have n4_ := qq.mk ((by rw [hg];exact (zw (by repeat (first | (with_reducible first | exact HB.out | apply qj | apply qz | apply qk | refine qx ?_ GE101.out) | exact HB.out))) : w.heap.size ≤ gb102));have n5_ := qq.mk ((by rw [hg];exact Nat.ne_of_lt (blk_lt (g := gb101) (o := .cells #[.string a0_0,.int .i64 a0_1,.string a0_2,.int .i64 a0_3,.int .i64 a0_4,.string a0_5,.string a0_6] 30 (0,0)) (by (with_reducible repeat (first | refine zz ?_ _ | refine zj ?_ | refine zq ?_ _));exact BK101.out)) : gb101 ≠ gb102));have n6_ := qq.mk ((by rw [hg];exact Nat.ne_of_gt (blk_lt (g := gb101) (o := .cells #[.string a0_0,.int .i64 a0_1,.string a0_2,.int .i64 a0_3,.int .i64 a0_4,.string a0_5,.string a0_6] 30 (0,0)) (by (with_reducible repeat (first | refine zz ?_ _ | refine zj ?_ | refine zq ?_ _));exact BK101.out)) : gb102 ≠ gb101));clear BK101;clear HB;have BK101 := n0_;have HB := n1_;have BK102 := n2_;have GW102 := n3_;have GE102 := n4_;have NB101_102 := n5_;have NB102_101 := n6_;clear n0_ n1_ n2_ n3_ n4_ n5_ n6_;clear hb hbox hg;have hnb27 := NB101_102.out;have hnc27 := NB102_101.out;have hcz28_0 : w26.cell? ⟨gb101,0,none⟩ = some (.string a0_0) := (qw BK101.out 0).trans rfl;have hcz28_1 : w26.cell? ⟨gb101,1,none⟩ = some (.int .i64 a0_1) := (qw BK101.out 1).trans rfl;have hcz28_2 : w26.cell? ⟨gb101,2,none⟩ = some (.string a0_2) := (qw BK101.out 2).trans rfl;have hcz28_3 : w26.cell? ⟨gb101,3,none⟩ = some (.int .i64 a0_3) := (qw BK101.out 3).trans rfl;have hcz28_4 : w26.cell? ⟨gb101,4,none⟩ = some (.int .i64 a0_4) := (qw BK101.out 4).trans rfl;have hcz28_5 : w26.cell? ⟨gb101,5,none⟩ = some (.string a0_5) := (qw BK101.out 5).trans rfl;have hcz28_6 : w26.cell? ⟨gb101,6,none⟩ = some (.string a0_6) := (qw BK101.out 6).trans rfl;have hfz28_0 := qv BK101.out 0;have hfz28_1 := qv BK101.out 1;have hfz28_2 := qv BK101.out 2;have hfz28_3 := qv BK101.out 3;have hfz28_4 := qv BK101.out 4;have hfz28_5 := qv BK101.out 5;have hfz28_6 := qv BK101.out 6;have hcz29_0 : w26.cell? ⟨gb102,0,none⟩ = some (.string a1_0) := (qw BK102.out 0).trans rfl;have hcz29_1 : w26.cell? ⟨gb102,1,none⟩ = some (.int .i64 a1_1) := (qw BK102.out 1).trans rfl;have hcz29_2 : w26.cell? ⟨gb102,2,none⟩ = some (.string a1_2) := (qw BK102.out 2).trans rfl;have hcz29_3 : w26.cell? ⟨gb102,3,none⟩ = some (.int .i64 a1_3) := (qw BK102.out 3).trans rfl;have hcz29_4 : w26.cell? ⟨gb102,4,none⟩ = some (.int .i64 a1_4) := (qw BK102.out 4).trans rfl;have hcz29_5 : w26.cell? ⟨gb102,5,none⟩ = some (.string a1_5) := (qw BK102.out 5).trans rfl;have hcz29_6 : w26.cell? ⟨gb102,6,none⟩ = some (.string a1_6) := (qw BK102.out 6).trans rfl;have hfz29_0 := qv BK102.out 0;have hfz29_1 := qv BK102.out 1;have hfz29_2 := qv BK102.out 2;have hfz29_3 := qv BK102.out 3;have hfz29_4 := qv BK102.out 4;have hfz29_5 := qv BK102.out 5;have hfz29_6 := qv BK102.out 6))
   go_ret
   exact ⟨by first | rfl | (simp [*,jk,jj] <;> rfl),by repeat (first | (with_reducible first | exact HB.out | apply qj | apply qz | apply qk | refine qx ?_ GE101.out | refine qx ?_ GE102.out) | exact HB.out)⟩
 ·rw [if_neg c3] at H
  have c3b0 : (a0_0.toList == a1_0.toList) = false := beq_eq_false_iff_ne.mpr c3
  have c3b1 : (a0_0.toList != a1_0.toList) = true := bne_iff_ne.mpr c3
  obtain rfl := Option.some.inj H
  go_enter Tryz.func65,Tryz.ntmps65
  go_wp2_with (first | ((with_reducible refine gate_dst (N := 2) rfl ?_);refine box_event ?hg (N := 2) ?hd (cs := #[.string a0_0,.int .i64 a0_1,.string a0_2,.int .i64 a0_3,.int .i64 a0_4,.string a0_5,.string a0_6]) (t := 30) ?hr ?_;(case hd => rfl);(case hg => rfl);(case hr => first | (go_simp;done) | (go_simp;rfl));intro gb101 hg w30 hbox hb;have n0_ := qq.mk (zv (by repeat (first | (with_reducible first | exact HB.out | apply qj | apply qz | apply qk) | exact HB.out)) hb);have n1_ := qq.mk (hbox);have n2_ := qq.mk ((by rw [hg];exact (zw (by repeat (first | (with_reducible first | exact HB.out | apply qj | apply qz | apply qk) | exact HB.out))) : w.heap.size ≤ gb101));have n3_ := qq.mk ((by rw [hg];exact (zw (by repeat (first | (with_reducible first | exact HB.out | apply qj | apply qz | apply qk) | exact HB.out))) : w.heap.size ≤ gb101));clear HB;have HB := n0_;have BK101 := n1_;have GW101 := n2_;have GE101 := n3_;clear n0_ n1_ n2_ n3_;clear hb hbox hg) | ((with_reducible refine gate_dst (N := 3) rfl ?_);refine box_event ?hg (N := 3) ?hd (cs := #[.string a1_0,.int .i64 a1_1,.string a1_2,.int .i64 a1_3,.int .i64 a1_4,.string a1_5,.string a1_6]) (t := 30) ?hr ?_;(case hd => rfl);(case hg => rfl);(case hr => first | (go_simp;done) | (go_simp;rfl));intro gb102 hg w31 hbox hb;have n0_ := qq.mk (kw (g := gb101) (o := .cells #[.string a0_0,.int .i64 a0_1,.string a0_2,.int .i64 a0_3,.int .i64 a0_4,.string a0_5,.string a0_6] 30 (0,0)) (by (with_reducible repeat (first | refine zz ?_ _ | refine zj ?_ | refine zq ?_ _));exact BK101.out) hb);have n1_ := qq.mk (zv (by repeat (first | (with_reducible first | exact HB.out | apply qj | apply qz | apply qk | refine qx ?_ GE101.out) | exact HB.out)) hb);have n2_ := qq.mk (hbox);have n3_ := qq.mk ((by rw [hg];exact (zw (by repeat (first | (with_reducible first | exact HB.out | apply qj | apply qz | apply qk | refine qx ?_ GE101.out) | exact HB.out))) : w.heap.size ≤ gb102));have n4_ := qq.mk ((by rw [hg];exact (zw (by repeat (first | (with_reducible first | exact HB.out | apply qj | apply qz | apply qk | refine qx ?_ GE101.out) | exact HB.out))) : w.heap.size ≤ gb102));have n5_ := qq.mk ((by rw [hg];exact Nat.ne_of_lt (blk_lt (g := gb101) (o := .cells #[.string a0_0,.int .i64 a0_1,.string a0_2,.int .i64 a0_3,.int .i64 a0_4,.string a0_5,.string a0_6] 30 (0,0)) (by (with_reducible repeat (first | refine zz ?_ _ | refine zj ?_ | refine zq ?_ _));exact BK101.out)) : gb101 ≠ gb102));have n6_ := qq.mk ((by rw [hg];exact Nat.ne_of_gt (blk_lt (g := gb101) (o := .cells #[.string a0_0,.int .i64 a0_1,.string a0_2,.int .i64 a0_3,.int .i64 a0_4,.string a0_5,.string a0_6] 30 (0,0)) (by (with_reducible repeat (first | refine zz ?_ _ | refine zj ?_ | refine zq ?_ _));exact BK101.out)) : gb102 ≠ gb101));clear BK101;clear HB;have BK101 := n0_;have HB := n1_;have BK102 := n2_;have GW102 := n3_;have GE102 := n4_;have NB101_102 := n5_;have NB102_101 := n6_;clear n0_ n1_ n2_ n3_ n4_ n5_ n6_;clear hb hbox hg;have hnb32 := NB101_102.out;have hnc32 := NB102_101.out;have hcz33_0 : w31.cell? ⟨gb101,0,none⟩ = some (.string a0_0) := (qw BK101.out 0).trans rfl;have hcz33_1 : w31.cell? ⟨gb101,1,none⟩ = some (.int .i64 a0_1) := (qw BK101.out 1).trans rfl;have hcz33_2 : w31.cell? ⟨gb101,2,none⟩ = some (.string a0_2) := (qw BK101.out 2).trans rfl;have hcz33_3 : w31.cell? ⟨gb101,3,none⟩ = some (.int .i64 a0_3) := (qw BK101.out 3).trans rfl;have hcz33_4 : w31.cell? ⟨gb101,4,none⟩ = some (.int .i64 a0_4) := (qw BK101.out 4).trans rfl;have hcz33_5 : w31.cell? ⟨gb101,5,none⟩ = some (.string a0_5) := (qw BK101.out 5).trans rfl;have hcz33_6 : w31.cell? ⟨gb101,6,none⟩ = some (.string a0_6) := (qw BK101.out 6).trans rfl;have hfz33_0 := qv BK101.out 0;have hfz33_1 := qv BK101.out 1;have hfz33_2 := qv BK101.out 2;have hfz33_3 := qv BK101.out 3;have hfz33_4 := qv BK101.out 4;have hfz33_5 := qv BK101.out 5;have hfz33_6 := qv BK101.out 6;have hcz34_0 : w31.cell? ⟨gb102,0,none⟩ = some (.string a1_0) := (qw BK102.out 0).trans rfl;have hcz34_1 : w31.cell? ⟨gb102,1,none⟩ = some (.int .i64 a1_1) := (qw BK102.out 1).trans rfl;have hcz34_2 : w31.cell? ⟨gb102,2,none⟩ = some (.string a1_2) := (qw BK102.out 2).trans rfl;have hcz34_3 : w31.cell? ⟨gb102,3,none⟩ = some (.int .i64 a1_3) := (qw BK102.out 3).trans rfl;have hcz34_4 : w31.cell? ⟨gb102,4,none⟩ = some (.int .i64 a1_4) := (qw BK102.out 4).trans rfl;have hcz34_5 : w31.cell? ⟨gb102,5,none⟩ = some (.string a1_5) := (qw BK102.out 5).trans rfl;have hcz34_6 : w31.cell? ⟨gb102,6,none⟩ = some (.string a1_6) := (qw BK102.out 6).trans rfl;have hfz34_0 := qv BK102.out 0;have hfz34_1 := qv BK102.out 1;have hfz34_2 := qv BK102.out 2;have hfz34_3 := qv BK102.out 3;have hfz34_4 := qv BK102.out 4;have hfz34_5 := qv BK102.out 5;have hfz34_6 := qv BK102.out 6))
  go_ret
  exact ⟨by first | rfl | (simp [*,jk,jj] <;> rfl),by repeat (first | (with_reducible first | exact HB.out | apply qj | apply qz | apply qk | refine qx ?_ GE101.out | refine qx ?_ GE102.out) | exact HB.out)⟩
def qzk.l0 : Nat → List (S25) → Int → Int → Option (Int)
 | 0,_,_,_ => none
 | k + 1,x0,x1,x5 => if x5 < (x0.length : Int) then (if 0 ≤ x5 then ((qzj.f ((vq x0 x5).f0) ((vq x0 x5).f1) ((vq x0 x5).f2) ((vq x0 x5).f3.f0) ((vq x0 x5).f3.f1) ((vq x0 x5).f3.f2) ((vq x0 x5).f3.f3) x1).bind fun t102 => (if t102 < 0 then (some (-1)) else (qzk.l0 k x0 t102 (wrap64 (x5 + 1))))) else (none)) else (some x1)
def qzk.f (k : Nat) (l0 : List (S25)) (a1 : Int) : Option (Int) := if (wrap64 (a1 - (l0.length : Int))) < 0 then (some (-1)) else (qzk.l0 k l0 (wrap64 (a1 - (l0.length : Int))) 0)
set_option maxHeartbeats 8000000 in
set_option maxRecDepth 100000 in
theorem qzk.calls (k : Nat) (A0 : Option Addr) (c0 : Nat) (l0 : List (S25)) (a1 : Int) (r : Int) (w : World) (hr0 : Kd.C k25 w A0 l0.length l0) (hc0 : l0.length ≤ c0) (h : qzk.f k l0 a1 = some r) :
  Calls Tryz.prog 26 #[.slice A0 l0.length c0,.int .i64 a1] w fun e w' => e = .returned (.int .i64 r) ∧ Below w.heap.size w w' := by
 have hu25 := Tryz.underlying25
 have HR0 := qq.mk hr0
 have HC0 := qq.mk hc0
 clear hr0 hc0
 have HB := qq.mk (Below.refl w.heap.size w)
 have H : (if (wrap64 (a1 - (l0.length : Int))) < 0 then (some (-1)) else (qzk.l0 k l0 (wrap64 (a1 - (l0.length : Int))) 0)) = some r := h
 clear h
 by_cases c3 : (wrap64 (a1 - (l0.length : Int))) < 0
 ·rw [if_pos c3] at H
  have c3b0 : decide ((wrap64 (a1 - (l0.length : Int))) < 0) = true := decide_eq_true c3
  clear c3
  obtain rfl := Option.some.inj H
  go_enter Tryz.func26,Tryz.ntmps26
  go_wp2
  go_ret
  exact ⟨by first | rfl | (simp [*,jk,jj] <;> rfl),by repeat (first | (with_reducible first | exact HB.out | apply qj | apply qz | apply qk) | exact HB.out)⟩
 ·rw [if_neg c3] at H
  have c3b0 : decide ((wrap64 (a1 - (l0.length : Int))) < 0) = false := decide_eq_false c3
  clear c3
  have H' := qq.mk H
  clear H
  go_enter Tryz.func26,Tryz.ntmps26
  go_wp2
  go_loopg [1,5] k (fun kq v1 v5 w' => ∃ (x1_1 : Int) (x5_1 : Int),v1 = .int .i64 x1_1 ∧ v5 = .int .i64 x5_1 ∧ qq (qzk.l0 kq l0 x1_1 x5_1 = some r) ∧ qq (kq ≤ k) ∧ qq (Below w.heap.size w w'))
  case atStart => exact ⟨(wrap64 (a1 - (l0.length : Int))),(0),(by first | rfl | (simp;done) | (simp [*];done)),(by first | rfl | (simp;done) | (simp [*];done)),H',⟨Nat.le_refl _⟩,⟨by repeat (first | (with_reducible first | exact HB.out | apply qj | apply qz | apply qk) | exact HB.out)⟩⟩
  case round =>
   clear H'
   try clear c2
   try clear p2
   try clear c3
   try clear c3b0
   obtain ⟨x1_1,x5_1,rfl,rfl,HA,HK1,HB⟩ := hrel
   cases gk with
   | zero => exact absurd HA.out (by simp [qzk.l0])
   | succ k1 =>
    have H := HA.out
    clear HA
    simp only [qzk.l0] at H
    by_cases c4 : x5_1 < (l0.length : Int)
    ·rw [if_pos c4] at H
     have c4b0 : decide (x5_1 < (l0.length : Int)) = true := decide_eq_true c4
     clear c4
     by_cases c5 : 0 ≤ x5_1
     ·rw [if_pos c5] at H
      have c5b0 : decide (0 ≤ x5_1) = true := decide_eq_true c5
      clear c5
      replace H := Option.bind_eq_some_iff.mp H
      obtain ⟨t102,A60,H⟩ := H
      replace H : (if t102 < 0 then (some (-1)) else (qzk.l0 k1 l0 t102 (wrap64 (x5_1 + 1)))) = some r := H
      have A6 := qq.mk A60
      clear A60
      by_cases c7 : t102 < 0
      ·rw [if_pos c7] at H
       have c7b0 : decide (t102 < 0) = true := decide_eq_true c7
       clear c7
       obtain rfl := Option.some.inj H
       have p101 : 0 ≤ (x5_1 : Int) := of_decide_eq_true (by assumption)
       have q101 : x5_1 < (l0.length : Int) := of_decide_eq_true (by assumption)
       obtain ⟨ad101,e101,hx101_0,hx101_1,hx101_2,hx101_3,hx101_4,hx101_5,hx101_6⟩ := at_T25 HR0.out x5_1 p101 q101
       cases e101
       replace hx101_0 := (HB.out.cell (World.block_lt_of_cell? w _ hx101_0)).trans hx101_0
       replace hx101_1 := (HB.out.cell (World.block_lt_of_cell? w _ hx101_1)).trans hx101_1
       replace hx101_2 := (HB.out.cell (World.block_lt_of_cell? w _ hx101_2)).trans hx101_2
       replace hx101_3 := (HB.out.cell (World.block_lt_of_cell? w _ hx101_3)).trans hx101_3
       replace hx101_4 := (HB.out.cell (World.block_lt_of_cell? w _ hx101_4)).trans hx101_4
       replace hx101_5 := (HB.out.cell (World.block_lt_of_cell? w _ hx101_5)).trans hx101_5
       replace hx101_6 := (HB.out.cell (World.block_lt_of_cell? w _ hx101_6)).trans hx101_6
       replace p101 := eq_true p101
       replace q101 := eq_true q101
       go_wp2_with (first | ((with_reducible refine jv (f := 6) rfl ?_);refine goesL_ (some 23) rfl rfl Tryz.func6 (by kernel_rfl) rfl #[.agg #[.string ((vq l0 x5_1).f0),.int .i64 ((vq l0 x5_1).f1),.string ((vq l0 x5_1).f2),.int .i64 ((vq l0 x5_1).f3.f0),.int .i64 ((vq l0 x5_1).f3.f1),.string ((vq l0 x5_1).f3.f2),.string ((vq l0 x5_1).f3.f3)],.int .i64 x1_1] rfl (by (try simp only [List.map_toArray,List.map_cons,List.map_nil]);first | done | rfl | (simp only [List.length_drop,List.length_take];rfl)) ?_;(with_reducible refine (qzj.calls ((vq l0 x5_1).f0) ((vq l0 x5_1).f1) ((vq l0 x5_1).f2) ((vq l0 x5_1).f3.f0) ((vq l0 x5_1).f3.f1) ((vq l0 x5_1).f3.f2) ((vq l0 x5_1).f3.f3) x1_1 t102 _ A6.out).mono ?_);rintro e w8 ⟨rfl,hb⟩;refine ⟨_,rfl,?_⟩;have n0_ := qq.mk (zv (by repeat (first | (with_reducible first | exact HB.out | apply qj | apply qz | apply qk) | exact HB.out)) hb);clear HB;have HB := n0_;clear n0_;(try clear hb);(try clear hb2);(try clear hk);(try clear hi)))
       go_ret
       exact ⟨by first | rfl | (simp [*,jk,jj] <;> rfl),by repeat (first | (with_reducible first | exact HB.out | apply qj | apply qz | apply qk) | exact HB.out)⟩
      ·rw [if_neg c7] at H
       have c7b0 : decide (t102 < 0) = false := decide_eq_false c7
       clear c7
       have H' := qq.mk H
       clear H
       have p101 : 0 ≤ (x5_1 : Int) := of_decide_eq_true (by assumption)
       have q101 : x5_1 < (l0.length : Int) := of_decide_eq_true (by assumption)
       obtain ⟨ad101,e101,hx101_0,hx101_1,hx101_2,hx101_3,hx101_4,hx101_5,hx101_6⟩ := at_T25 HR0.out x5_1 p101 q101
       cases e101
       replace hx101_0 := (HB.out.cell (World.block_lt_of_cell? w _ hx101_0)).trans hx101_0
       replace hx101_1 := (HB.out.cell (World.block_lt_of_cell? w _ hx101_1)).trans hx101_1
       replace hx101_2 := (HB.out.cell (World.block_lt_of_cell? w _ hx101_2)).trans hx101_2
       replace hx101_3 := (HB.out.cell (World.block_lt_of_cell? w _ hx101_3)).trans hx101_3
       replace hx101_4 := (HB.out.cell (World.block_lt_of_cell? w _ hx101_4)).trans hx101_4
       replace hx101_5 := (HB.out.cell (World.block_lt_of_cell? w _ hx101_5)).trans hx101_5
       replace hx101_6 := (HB.out.cell (World.block_lt_of_cell? w _ hx101_6)).trans hx101_6
       replace p101 := eq_true p101
       replace q101 := eq_true q101
       go_wp2_with (first | ((with_reducible refine jv (f := 6) rfl ?_);refine goesL_ (some 23) rfl rfl Tryz.func6 (by kernel_rfl) rfl #[.agg #[.string ((vq l0 x5_1).f0),.int .i64 ((vq l0 x5_1).f1),.string ((vq l0 x5_1).f2),.int .i64 ((vq l0 x5_1).f3.f0),.int .i64 ((vq l0 x5_1).f3.f1),.string ((vq l0 x5_1).f3.f2),.string ((vq l0 x5_1).f3.f3)],.int .i64 x1_1] rfl (by (try simp only [List.map_toArray,List.map_cons,List.map_nil]);first | done | rfl | (simp only [List.length_drop,List.length_take];rfl)) ?_;(with_reducible refine (qzj.calls ((vq l0 x5_1).f0) ((vq l0 x5_1).f1) ((vq l0 x5_1).f2) ((vq l0 x5_1).f3.f0) ((vq l0 x5_1).f3.f1) ((vq l0 x5_1).f3.f2) ((vq l0 x5_1).f3.f3) x1_1 t102 _ A6.out).mono ?_);rintro e w9 ⟨rfl,hb⟩;refine ⟨_,rfl,?_⟩;have n0_ := qq.mk (zv (by repeat (first | (with_reducible first | exact HB.out | apply qj | apply qz | apply qk) | exact HB.out)) hb);clear HB;have HB := n0_;clear n0_;(try clear hb);(try clear hb2);(try clear hk);(try clear hi)))
       go_roundg k1
       case measure => have := HK1.out;omega
       case rel => exact ⟨(t102),(wrap64 (x5_1 + 1)),(by first | rfl | (simp;done) | (simp [*];done)),(by first | rfl | (simp;done) | (simp [*];done)),H',⟨by have := HK1.out;omega⟩,⟨by repeat (first | (with_reducible first | exact HB.out | apply qj | apply qz | apply qk) | exact HB.out)⟩⟩
     ·rw [if_neg c5] at H
      exact absurd H (by simp)
    ·rw [if_neg c4] at H
     have c4b0 : decide (x5_1 < (l0.length : Int)) = false := decide_eq_false c4
     clear c4
     obtain rfl := Option.some.inj H
     go_wp2
     go_ret
     exact ⟨by first | rfl | (simp [*,jk,jj] <;> rfl),by repeat (first | (with_reducible first | exact HB.out | apply qj | apply qz | apply qk) | exact HB.out)⟩
def qjz.l0 : Nat → List (S25) → List (S30) → Int → Option ((List (S30)))
 | 0,_,_,_ => none
 | k + 1,x0,x3,x4 => if x4 < (x0.length : Int) then (if 0 ≤ x4 then ((qjq.f ((vq x0 x4).f0) ((vq x0 x4).f1) ((vq x0 x4).f2) ((vq x0 x4).f3.f0) ((vq x0 x4).f3.f1) ((vq x0 x4).f3.f2) ((vq x0 x4).f3.f3)).bind fun bt105 => (if x4 < (x3.length : Int) then (qjz.l0 k x0 (x3.set (x4 : Int).toNat (⟨bt105.1,bt105.2.1,bt105.2.2.1,(⟨bt105.2.2.2.1,bt105.2.2.2.2.1,bt105.2.2.2.2.2.1,bt105.2.2.2.2.2.2⟩ : S28)⟩ : S30)) (wrap64 (x4 + 1))) else (none))) else (none)) else (some x3)
def qjz.f (k : Nat) (l0 : List (S25)) : Option ((List (S30))) := if 0 ≤ (l0.length : Int) then (if ((l0.length : Int) : Int).toNat ≤ 3198579280802 then (qjz.l0 k l0 (List.replicate ((l0.length : Int) : Int).toNat z30) 0) else (none)) else (none)
set_option maxHeartbeats 8000000 in
set_option maxRecDepth 100000 in
theorem qjz.calls (k : Nat) (A0 : Option Addr) (c0 : Nat) (l0 : List (S25)) (r : List (S30)) (w : World) (hr0 : Kd.C k25 w A0 l0.length l0) (hc0 : l0.length ≤ c0) (h : qjz.f k l0 = some r) :
  Calls Tryz.prog 30 #[.slice A0 l0.length c0] w fun e w' => ∃ v0_ : Value,e = .returned (v0_) ∧ Kd.R k30 30 w' w.heap.size (fun _ => True) v0_ r ∧ Below w.heap.size w w' := by
 have hu25 := Tryz.underlying25
 have hu30 := Tryz.underlying30
 have HR0 := qq.mk hr0
 have HC0 := qq.mk hc0
 clear hr0 hc0
 have HB := qq.mk (Below.refl w.heap.size w)
 have H : (if 0 ≤ (l0.length : Int) then (if ((l0.length : Int) : Int).toNat ≤ 3198579280802 then (qjz.l0 k l0 (List.replicate ((l0.length : Int) : Int).toNat z30) 0) else (none)) else (none)) = some r := h
 clear h
 by_cases c2 : 0 ≤ (l0.length : Int)
 ·rw [if_pos c2] at H
  have c2b0 := eq_true c2
  have c2b1 : decide (0 ≤ (l0.length : Int)) = true := decide_eq_true c2
  clear c2
  by_cases c3 : ((l0.length : Int) : Int).toNat ≤ 3198579280802
  ·rw [if_pos c3] at H
   have c3b0 := eq_true c3
   have c3b1 : decide (((l0.length : Int) : Int).toNat ≤ 3198579280802) = true := decide_eq_true c3
   clear c3
   obtain ⟨y101,hy101⟩ : ∃ y_ : List (S30),y_ = (List.replicate ((l0.length : Int) : Int).toNat z30) := ⟨_,rfl⟩
   replace H : (qjz.l0 k l0 y101 0) = some r := by first | (rw [hy101];with_reducible exact H) | (have H2_ := (Option.bind_some _ _).symm.trans H;rw [hy101];with_reducible exact H2_) | (have H2_ := (Option.bind_some _ _).symm.trans H;with_reducible exact H2_) | with_reducible exact H | (rw [hy101];exact H) | exact H
   have Ny101 := qq.mk hy101
   clear hy101
   have H' := qq.mk H
   clear H
   go_enter Tryz.func30,Tryz.ntmps30
   go_wp2_with (first | ((with_reducible refine gate_dst (N := 7) rfl ?_);refine Kd.R_make k30 _ 30 rfl (N := 7) rfl 39 _ _ rfl (l0.length : Int) rfl rfl Tryz.underlying39 (.agg #[(.string ⟨#[]⟩),(.int .i64 0),(.string ⟨#[]⟩),(.int .i64 0),(.int .i64 0),(.string ⟨#[]⟩),(.string ⟨#[]⟩)]) 88 info30 rfl (by decide) (by omega) z30 (ok := fun _ => True) (okp := fun _ => True) (k30_mkM _ _ _ z30 ) (fun _ hk => hk) trivial (of_decide_eq_true (by assumption)) (Nat.le_trans (Nat.mul_le_mul_right _ (of_decide_eq_true (by assumption) : (l0.length : Int).toNat ≤ 3198579280802)) (by omega)) (Below.refl _ _) (Nat.le_refl _) ?_;intro v102 w4 ho5 hb hg_ hnew_;clear hg_ hnew_;(first | rw [← Ny101.out] at ho5 | (simp only [Int.reduceToNat] at ho5;rw [← Ny101.out] at ho5));have n0_ := qq.mk (Kd.R_lower ho5 (zw (by repeat (first | (with_reducible first | exact HB.out | apply qj | apply qz | apply qk) | exact HB.out))));have n1_ := qq.mk (zv (by repeat (first | (with_reducible first | exact HB.out | apply qj | apply qz | apply qk) | exact HB.out)) hb);clear HB;have HO103 := n0_;have HB := n1_;clear n0_ n1_;clear hb ho5))
   go_loopg [4] k (fun kq v4 w' => ∃ (x3_1 : List (S30)) (x4_1 : Int),v4 = .int .i64 x4_1 ∧ qq (qjz.l0 kq l0 x3_1 x4_1 = some r) ∧ qq (kq ≤ k) ∧ qq (Kd.R k30 30 w' w.heap.size (fun _ => True) v102 x3_1) ∧ qq (Below w.heap.size w w'))
   case atStart => exact ⟨(y101),(0),(by first | rfl | (simp;done) | (simp [*];done)),H',⟨Nat.le_refl _⟩,⟨by (with_reducible repeat (first | apply Kd.jq | apply Kd.zx | apply Kd.jz));exact HO103.out⟩,⟨by repeat (first | (with_reducible first | exact HB.out | apply qj | apply qz | apply qk) | exact HB.out)⟩⟩
   case round =>
    clear H'
    try clear c2
    try clear c2b0
    try clear c2b1
    try clear p2
    try clear c3
    try clear c3b0
    try clear c3b1
    obtain ⟨x3_1,x4_1,rfl,HA,HK1,HO_3,HB⟩ := hrel
    cases gk with
    | zero => exact absurd HA.out (by simp [qjz.l0])
    | succ k1 =>
     have H := HA.out
     clear HA
     simp only [qjz.l0] at H
     by_cases c6 : x4_1 < (l0.length : Int)
     ·rw [if_pos c6] at H
      have c6b0 : decide (x4_1 < (l0.length : Int)) = true := decide_eq_true c6
      clear c6
      by_cases c7 : 0 ≤ x4_1
      ·rw [if_pos c7] at H
       have c7b0 : decide (0 ≤ x4_1) = true := decide_eq_true c7
       clear c7
       replace H := Option.bind_eq_some_iff.mp H
       obtain ⟨⟨t105,t106,t107,t108,t109,t110,t111⟩,A80,H⟩ := H
       replace H : (if x4_1 < (x3_1.length : Int) then (qjz.l0 k1 l0 (x3_1.set (x4_1 : Int).toNat (⟨t105,t106,t107,(⟨t108,t109,t110,t111⟩ : S28)⟩ : S30)) (wrap64 (x4_1 + 1))) else (none)) = some r := H
       have A8 := qq.mk A80
       clear A80
       by_cases c9 : x4_1 < (x3_1.length : Int)
       ·rw [if_pos c9] at H
        have c9b0 : decide (x4_1 < (x3_1.length : Int)) = true := decide_eq_true c9
        clear c9
        obtain ⟨y112,hy112⟩ : ∃ y_ : List (S30),y_ = (x3_1.set (x4_1 : Int).toNat (⟨t105,t106,t107,(⟨t108,t109,t110,t111⟩ : S28)⟩ : S30)) := ⟨_,rfl⟩
        replace H : (qjz.l0 k1 l0 y112 (wrap64 (x4_1 + 1))) = some r := by first | (rw [hy112];with_reducible exact H) | (have H2_ := (Option.bind_some _ _).symm.trans H;rw [hy112];with_reducible exact H2_) | (have H2_ := (Option.bind_some _ _).symm.trans H;with_reducible exact H2_) | with_reducible exact H | (rw [hy112];exact H) | exact H
        have Ny112 := qq.mk hy112
        clear hy112
        have H' := qq.mk H
        clear H
        have p104 : 0 ≤ (x4_1 : Int) := of_decide_eq_true (by assumption)
        have q104 : x4_1 < (l0.length : Int) := of_decide_eq_true (by assumption)
        obtain ⟨ad104,e104,hx104_0,hx104_1,hx104_2,hx104_3,hx104_4,hx104_5,hx104_6⟩ := at_T25 HR0.out x4_1 p104 q104
        cases e104
        replace hx104_0 := (HB.out.cell (World.block_lt_of_cell? w _ hx104_0)).trans hx104_0
        replace hx104_1 := (HB.out.cell (World.block_lt_of_cell? w _ hx104_1)).trans hx104_1
        replace hx104_2 := (HB.out.cell (World.block_lt_of_cell? w _ hx104_2)).trans hx104_2
        replace hx104_3 := (HB.out.cell (World.block_lt_of_cell? w _ hx104_3)).trans hx104_3
        replace hx104_4 := (HB.out.cell (World.block_lt_of_cell? w _ hx104_4)).trans hx104_4
        replace hx104_5 := (HB.out.cell (World.block_lt_of_cell? w _ hx104_5)).trans hx104_5
        replace hx104_6 := (HB.out.cell (World.block_lt_of_cell? w _ hx104_6)).trans hx104_6
        replace p104 := eq_true p104
        replace q104 := eq_true q104
        go_wp2_with (first | ((with_reducible refine jv (f := 8) rfl ?_);refine goesL_ (some 20) rfl rfl Tryz.func8 (by kernel_rfl) rfl #[.agg #[.string ((vq l0 x4_1).f0),.int .i64 ((vq l0 x4_1).f1),.string ((vq l0 x4_1).f2),.int .i64 ((vq l0 x4_1).f3.f0),.int .i64 ((vq l0 x4_1).f3.f1),.string ((vq l0 x4_1).f3.f2),.string ((vq l0 x4_1).f3.f3)]] rfl (by (try simp only [List.map_toArray,List.map_cons,List.map_nil]);first | done | rfl | (simp only [List.length_drop,List.length_take];rfl)) ?_;(with_reducible refine (qjq.calls ((vq l0 x4_1).f0) ((vq l0 x4_1).f1) ((vq l0 x4_1).f2) ((vq l0 x4_1).f3.f0) ((vq l0 x4_1).f3.f1) ((vq l0 x4_1).f3.f2) ((vq l0 x4_1).f3.f3) t105 t106 t107 t108 t109 t110 t111 _ A8.out).mono ?_);rintro e w11 ⟨rfl,hb⟩;refine ⟨_,rfl,?_⟩;have n0_ := qq.mk (Kd.R_below (by (with_reducible repeat (first | apply Kd.jq | apply Kd.zx | apply Kd.jz));exact HO_3.out) hb);have n1_ := qq.mk (zv (by repeat (first | (with_reducible first | exact HB.out | apply qj | apply qz | apply qk) | exact HB.out)) hb);clear HO_3;clear HB;have HO_3 := n0_;have HB := n1_;clear n0_ n1_;(try clear hb);(try clear hb2);(try clear hk);(try clear hi);have p10 : 0 ≤ (x4_1 : Int) := of_decide_eq_true (by assumption);have q10 : (x4_1 : Int) < ((x3_1.length : Int) : Int) := of_decide_eq_true (by assumption);obtain ⟨go10,co10,eo10,gb10,gl10,cl10,HG10⟩ := Kd.R_form HO_3.out (by omega);(first | cases eo10 | (injection eo10 with ea_ en_ ec_;(first | subst ea_ | (injection ea_ with ea_;subst ea_));subst ec_;clear en_));have GB10 := qq.mk gb10;have GG10 := qq.mk HG10;clear gb10 gl10 HG10;obtain ⟨ce10,hcl10,hM10,hcc10,hfr10⟩ := Kd.R_elem HO_3.out z30 (x4_1 : Int) p10 q10;obtain rfl := k30_openM hM10;have hx10_0 : w11.cell? ⟨go10,(x4_1 : Int).toNat * 7,none⟩ = some (.string ((vz x3_1 x4_1).f0)) := hcc10 0 _ rfl;have hx10_1 : w11.cell? ⟨go10,(x4_1 : Int).toNat * 7 + 1,none⟩ = some (.int .i64 ((vz x3_1 x4_1).f1)) := hcc10 1 _ rfl;have hx10_2 : w11.cell? ⟨go10,(x4_1 : Int).toNat * 7 + 2,none⟩ = some (.string ((vz x3_1 x4_1).f2)) := hcc10 2 _ rfl;have hx10_3 : w11.cell? ⟨go10,(x4_1 : Int).toNat * 7 + 3,none⟩ = some (.int .i64 ((vz x3_1 x4_1).f3.f0)) := hcc10 3 _ rfl;have hx10_4 : w11.cell? ⟨go10,(x4_1 : Int).toNat * 7 + 4,none⟩ = some (.int .i64 ((vz x3_1 x4_1).f3.f1)) := hcc10 4 _ rfl;have hx10_5 : w11.cell? ⟨go10,(x4_1 : Int).toNat * 7 + 5,none⟩ = some (.string ((vz x3_1 x4_1).f3.f2)) := hcc10 5 _ rfl;have hx10_6 : w11.cell? ⟨go10,(x4_1 : Int).toNat * 7 + 6,none⟩ = some (.string ((vz x3_1 x4_1).f3.f3)) := hcc10 6 _ rfl;have hf10_0 : w11.frozen? ⟨go10,(x4_1 : Int).toNat * 7,none⟩ = false := hfr10 0;have hf10_1 : w11.frozen? ⟨go10,(x4_1 : Int).toNat * 7 + 1,none⟩ = false := hfr10 1;have hf10_2 : w11.frozen? ⟨go10,(x4_1 : Int).toNat * 7 + 2,none⟩ = false := hfr10 2;have hf10_3 : w11.frozen? ⟨go10,(x4_1 : Int).toNat * 7 + 3,none⟩ = false := hfr10 3;have hf10_4 : w11.frozen? ⟨go10,(x4_1 : Int).toNat * 7 + 4,none⟩ = false := hfr10 4;have hf10_5 : w11.frozen? ⟨go10,(x4_1 : Int).toNat * 7 + 5,none⟩ = false := hfr10 5;have hf10_6 : w11.frozen? ⟨go10,(x4_1 : Int).toNat * 7 + 6,none⟩ = false := hfr10 6;clear hcl10 hcc10 hfr10;(try clear hM10);replace p10 := eq_true p10;replace q10 := eq_true q10;have HX12 := qq.mk (show Kd.R k30 30 w11 w.heap.size (fun _ => True) (.slice (some ⟨go10,0,none⟩) x3_1.length co10) x3_1 from (by (with_reducible repeat (first | apply Kd.jq | apply Kd.zx | apply Kd.jz));exact HO_3.out));obtain ⟨ce12,hcl12,hM12,hcc12,hfr12⟩ := Kd.R_elem HX12.out z30 (x4_1 : Int) (of_decide_eq_true (by assumption)) (by have h_ : (x4_1 : Int) < ((x3_1.length : Int) : Int) := of_decide_eq_true (by assumption);first | exact h_ | (have e_ := (Kd.R_reads' HO_3.out).1;omega) | simpa using h_);obtain rfl := k30_openM hM12;have HP12 := Kd.R_seg HX12.out (x4_1 : Int) (of_decide_eq_true (by assumption)) (by have h_ : (x4_1 : Int) < ((x3_1.length : Int) : Int) := of_decide_eq_true (by assumption);first | exact h_ | (have e_ := (Kd.R_reads' HO_3.out).1;omega) | simpa using h_) (seg := [.string t105,.int .i64 t106,.string t107,.int .i64 t108,.int .i64 t109,.string t110,.string t111]) (j := 0) hcl12 hcc12 (show 7 ≤ 7 from by decide) (x' := (⟨t105,t106,t107,(⟨t108,t109,t110,t111⟩ : S28)⟩ : S30)) (k30_mkM _ _ _ (⟨t105,t106,t107,(⟨t108,t109,t110,t111⟩ : S28)⟩ : S30) ) (fun _ hk => hk);have hx12_0 := hcc12 0 _ rfl;(try simp only [show (k30).sz = 7 from rfl,Nat.mul_one,Nat.add_zero] at hx12_0);have hf12_0 := hfr12 0;(try simp only [show (k30).sz = 7 from rfl,Nat.mul_one,Nat.add_zero] at hf12_0);have hx12_1 := hcc12 1 _ rfl;(try simp only [show (k30).sz = 7 from rfl,Nat.mul_one,Nat.add_zero] at hx12_1);have hf12_1 := hfr12 1;(try simp only [show (k30).sz = 7 from rfl,Nat.mul_one,Nat.add_zero] at hf12_1);have hx12_2 := hcc12 2 _ rfl;(try simp only [show (k30).sz = 7 from rfl,Nat.mul_one,Nat.add_zero] at hx12_2);have hf12_2 := hfr12 2;(try simp only [show (k30).sz = 7 from rfl,Nat.mul_one,Nat.add_zero] at hf12_2);have hx12_3 := hcc12 3 _ rfl;(try simp only [show (k30).sz = 7 from rfl,Nat.mul_one,Nat.add_zero] at hx12_3);have hf12_3 := hfr12 3;(try simp only [show (k30).sz = 7 from rfl,Nat.mul_one,Nat.add_zero] at hf12_3);have hx12_4 := hcc12 4 _ rfl;(try simp only [show (k30).sz = 7 from rfl,Nat.mul_one,Nat.add_zero] at hx12_4);have hf12_4 := hfr12 4;(try simp only [show (k30).sz = 7 from rfl,Nat.mul_one,Nat.add_zero] at hf12_4);have hx12_5 := hcc12 5 _ rfl;(try simp only [show (k30).sz = 7 from rfl,Nat.mul_one,Nat.add_zero] at hx12_5);have hf12_5 := hfr12 5;(try simp only [show (k30).sz = 7 from rfl,Nat.mul_one,Nat.add_zero] at hf12_5);have hx12_6 := hcc12 6 _ rfl;(try simp only [show (k30).sz = 7 from rfl,Nat.mul_one,Nat.add_zero] at hx12_6);have hf12_6 := hfr12 6;(try simp only [show (k30).sz = 7 from rfl,Nat.mul_one,Nat.add_zero] at hf12_6);clear hcl12 hcc12 hfr12;(try clear hM12)) | ((with_reducible refine jw (t := 30) (p := 21) rfl ?_);refine jx (t := 30) (p := 21) (v := ?vo_w13) (w1 := (((((((w11.setCell ⟨go10,(x4_1 : Int).toNat * 7,none⟩ (.string t105)).setCell ⟨go10,(x4_1 : Int).toNat * 7 + 1,none⟩ (.int .i64 t106)).setCell ⟨go10,(x4_1 : Int).toNat * 7 + 2,none⟩ (.string t107)).setCell ⟨go10,(x4_1 : Int).toNat * 7 + 3,none⟩ (.int .i64 t108)).setCell ⟨go10,(x4_1 : Int).toNat * 7 + 4,none⟩ (.int .i64 t109)).setCell ⟨go10,(x4_1 : Int).toNat * 7 + 5,none⟩ (.string t110)).setCell ⟨go10,(x4_1 : Int).toNat * 7 + 6,none⟩ (.string t111))) ?hg ?ho ?hn ?hr ?_;(case ho => rfl);(case hg => rfl);(case hn => rfl);(case hr => first | (go_simp;done) | (go_simp;rfl));intro w13 hw;have hg : w11.grownBy w13 (some go10) := (by rw [hw];exact HP12.2);have hp_ : Kd.R k30 30 w13 w.heap.size (fun _ => True) (.slice (some ⟨go10,0,none⟩) x3_1.length co10) y112 := (by rw [hw,Ny112.out];exact HP12.1);clear HP12;have n0_ := qq.mk (hp_);have n1_ := qq.mk ((by rw [hw];exact qx (qx (qx (qx (qx (qx (qx (HB.out) GB10.out) GB10.out) GB10.out) GB10.out) GB10.out) GB10.out) GB10.out : Below w.heap.size w w13));clear HO_3;clear HB;have HO_3 := n0_;have HB := n1_;clear n0_ n1_;clear hg hw hp_))
        go_roundg k1
        case measure => have := HK1.out;omega
        case rel => exact ⟨(y112),(wrap64 (x4_1 + 1)),(by first | rfl | (simp;done) | (simp [*];done)),H',⟨by have := HK1.out;omega⟩,⟨by (with_reducible repeat (first | apply Kd.jq | apply Kd.zx | apply Kd.jz));exact HO_3.out⟩,⟨by repeat (first | (with_reducible first | exact HB.out | apply qj | apply qz | apply qk) | exact HB.out)⟩⟩
       ·rw [if_neg c9] at H
        exact absurd H (by simp)
      ·rw [if_neg c7] at H
       exact absurd H (by simp)
     ·rw [if_neg c6] at H
      have c6b0 : decide (x4_1 < (l0.length : Int)) = false := decide_eq_false c6
      clear c6
      obtain rfl := Option.some.inj H
      go_wp2
      go_ret
      exact ⟨_,by first | rfl | (simp [*,jk,jj] <;> rfl),by (with_reducible repeat (first | apply Kd.jq | apply Kd.zx | apply Kd.jz));exact HO_3.out,by repeat (first | (with_reducible first | exact HB.out | apply qj | apply qz | apply qk) | exact HB.out)⟩
  ·rw [if_neg c3] at H
   exact absurd H (by simp)
 ·rw [if_neg c2] at H
  exact absurd H (by simp)
def qqw.l0 : Nat → List (S30) → List (S30) → Int → Option (Bool)
 | 0,_,_,_ => none
 | k + 1,x0,x1,x5 => if x5 < (x0.length : Int) then (if 0 ≤ x5 then (if x5 < (x1.length : Int) then ((qqv.f ((vz x0 x5).f0) ((vz x0 x5).f1) ((vz x0 x5).f2) ((vz x0 x5).f3.f0) ((vz x0 x5).f3.f1) ((vz x0 x5).f3.f2) ((vz x0 x5).f3.f3) ((vz x1 x5).f0) ((vz x1 x5).f1) ((vz x1 x5).f2) ((vz x1 x5).f3.f0) ((vz x1 x5).f3.f1) ((vz x1 x5).f3.f2) ((vz x1 x5).f3.f3)).bind fun t103 => (if t103 = true then (qqw.l0 k x0 x1 (wrap64 (x5 + 1))) else (some false))) else (none)) else (none)) else (some true)
def qqw.f (k : Nat) (l0 : List (S30)) (l1 : List (S30)) : Option (Bool) := if (l0.length : Int) = (l1.length : Int) then (qqw.l0 k l0 l1 0) else (some false)
def qqw.T6 : Bool × List (List Nat × List Nat) := (true,[([],[]),([],[]),([0,1],[0,1]),([2],[2]),([],[]),([],[]),([4,5],[4,5]),([6],[6]),([3,7],[3,7]),([8],[8])])
def qqw.B6 : List Nat := [0,0,3,7,0,0,48,112,255,511]
theorem qqw.tab6 : rtab .any (opsOf Tryz.f36 6) = qqw.T6 := by kernel_rfl
theorem qqw.bits6 : waitsOk qqw.T6.2 qqw.B6 = true := by kernel_rfl
set_option maxHeartbeats 8000000 in
set_option maxRecDepth 100000 in
theorem qqw.calls (k : Nat) (A0 : Option Addr) (c0 : Nat) (l0 : List (S30)) (A1 : Option Addr) (c1 : Nat) (l1 : List (S30)) (r : Bool) (w : World) (hr0 : Kd.C k30 w A0 l0.length l0) (hc0 : l0.length ≤ c0) (hr1 : Kd.C k30 w A1 l1.length l1) (hc1 : l1.length ≤ c1) (h : qqw.f k l0 l1 = some r) :
  Calls Tryz.prog 36 #[.slice A0 l0.length c0,.slice A1 l1.length c1] w fun e w' => e = .returned (.bool r) ∧ Below w.heap.size w w' := by
 have hu30 := Tryz.underlying30
 have HR0 := qq.mk hr0
 have HC0 := qq.mk hc0
 clear hr0 hc0
 have HR1 := qq.mk hr1
 have HC1 := qq.mk hc1
 clear hr1 hc1
 have HB := qq.mk (Below.refl w.heap.size w)
 have H : (if (l0.length : Int) = (l1.length : Int) then (qqw.l0 k l0 l1 0) else (some false)) = some r := h
 clear h
 by_cases c3 : (l0.length : Int) = (l1.length : Int)
 ·rw [if_pos c3] at H
  have c3b0 : ((l0.length : Int) == (l1.length : Int)) = true := beq_iff_eq.mpr c3
  have c3b1 : ((l0.length : Int) != (l1.length : Int)) = false := bne_eq_false_iff_eq.mpr c3
  have c3b2 : (l0.length == l1.length) = true := by first | simpa using c3 | (simp at c3 ⊢;omega)
  clear c3
  have H' := qq.mk H
  clear H
  go_enter Tryz.func36,Tryz.ntmps36
  go_wp2
  go_loopg [5] k (fun kq v5 w' => ∃ (x5_1 : Int),v5 = .int .i64 x5_1 ∧ qq (qqw.l0 kq l0 l1 x5_1 = some r) ∧ qq (kq ≤ k) ∧ qq (Below w.heap.size w w'))
  case atStart => exact ⟨(0),(by first | rfl | (simp;done) | (simp [*];done)),H',⟨Nat.le_refl _⟩,⟨by repeat (first | (with_reducible first | exact HB.out | apply qj | apply qz | apply qk) | exact HB.out)⟩⟩
  case round =>
   clear H'
   try clear c1
   try clear p2
   try clear c3
   try clear c3b0
   try clear c3b1
   try clear c3b2
   obtain ⟨x5_1,rfl,HA,HK1,HB⟩ := hrel
   cases gk with
   | zero => exact absurd HA.out (by simp [qqw.l0])
   | succ k1 =>
    have H := HA.out
    clear HA
    simp only [qqw.l0] at H
    by_cases c4 : x5_1 < (l0.length : Int)
    ·rw [if_pos c4] at H
     have c4b0 : decide (x5_1 < (l0.length : Int)) = true := decide_eq_true c4
     clear c4
     by_cases c5 : 0 ≤ x5_1
     ·rw [if_pos c5] at H
      have c5b0 : decide (0 ≤ x5_1) = true := decide_eq_true c5
      clear c5
      by_cases c6 : x5_1 < (l1.length : Int)
      ·rw [if_pos c6] at H
       have c6b0 : decide (x5_1 < (l1.length : Int)) = true := decide_eq_true c6
       clear c6
       replace H := Option.bind_eq_some_iff.mp H
       obtain ⟨t103,A70,H⟩ := H
       replace H : (if t103 = true then (qqw.l0 k1 l0 l1 (wrap64 (x5_1 + 1))) else (some false)) = some r := H
       have A7 := qq.mk A70
       clear A70
       by_cases c8 : t103 = true
       ·subst c8
        have H1 : (qqw.l0 k1 l0 l1 (wrap64 (x5_1 + 1))) = some r := by rw [if_pos rfl] at H;exact H
        clear H
        have H := H1
        clear H1
        have H' := qq.mk H
        clear H
        try go_wp2
        have n0_ := qq.mk (qk HB.out)
        clear HB
        have HB := n0_
        clear n0_
        have p101 : 0 ≤ (x5_1 : Int) := of_decide_eq_true (by assumption)
        have q101 : x5_1 < (l0.length : Int) := of_decide_eq_true (by assumption)
        obtain ⟨ad101,e101,hx101_0,hx101_1,hx101_2,hx101_3,hx101_4,hx101_5,hx101_6⟩ := at_T30 HR0.out x5_1 p101 q101
        have hw101_6 := hx101_6
        have hw101_5 := hx101_5
        have hw101_4 := hx101_4
        have hw101_3 := hx101_3
        have hw101_2 := hx101_2
        have hw101_1 := hx101_1
        have hw101_0 := hx101_0
        cases e101
        replace hx101_0 := (HB.out.cell (World.block_lt_of_cell? w _ hx101_0)).trans hx101_0
        replace hx101_1 := (HB.out.cell (World.block_lt_of_cell? w _ hx101_1)).trans hx101_1
        replace hx101_2 := (HB.out.cell (World.block_lt_of_cell? w _ hx101_2)).trans hx101_2
        replace hx101_3 := (HB.out.cell (World.block_lt_of_cell? w _ hx101_3)).trans hx101_3
        replace hx101_4 := (HB.out.cell (World.block_lt_of_cell? w _ hx101_4)).trans hx101_4
        replace hx101_5 := (HB.out.cell (World.block_lt_of_cell? w _ hx101_5)).trans hx101_5
        replace hx101_6 := (HB.out.cell (World.block_lt_of_cell? w _ hx101_6)).trans hx101_6
        replace p101 := eq_true p101
        replace q101 := eq_true q101
        have p102 : 0 ≤ (x5_1 : Int) := of_decide_eq_true (by assumption)
        have q102 : x5_1 < (l1.length : Int) := of_decide_eq_true (by assumption)
        obtain ⟨ad102,e102,hx102_0,hx102_1,hx102_2,hx102_3,hx102_4,hx102_5,hx102_6⟩ := at_T30 HR1.out x5_1 p102 q102
        have hw102_6 := hx102_6
        have hw102_5 := hx102_5
        have hw102_4 := hx102_4
        have hw102_3 := hx102_3
        have hw102_2 := hx102_2
        have hw102_1 := hx102_1
        have hw102_0 := hx102_0
        cases e102
        replace hx102_0 := (HB.out.cell (World.block_lt_of_cell? w _ hx102_0)).trans hx102_0
        replace hx102_1 := (HB.out.cell (World.block_lt_of_cell? w _ hx102_1)).trans hx102_1
        replace hx102_2 := (HB.out.cell (World.block_lt_of_cell? w _ hx102_2)).trans hx102_2
        replace hx102_3 := (HB.out.cell (World.block_lt_of_cell? w _ hx102_3)).trans hx102_3
        replace hx102_4 := (HB.out.cell (World.block_lt_of_cell? w _ hx102_4)).trans hx102_4
        replace hx102_5 := (HB.out.cell (World.block_lt_of_cell? w _ hx102_5)).trans hx102_5
        replace hx102_6 := (HB.out.cell (World.block_lt_of_cell? w _ hx102_6)).trans hx102_6
        replace p102 := eq_true p102
        replace q102 := eq_true q102
        refine start_ (n := 10) (S := fun w' => w'.cell? (ad101.add ((x5_1).toNat * 7)) = some (.string ((vz l0 x5_1).f0)) ∧ w'.cell? ⟨(ad101.add ((x5_1).toNat * 7)).block,(ad101.add ((x5_1).toNat * 7)).off + 1,none⟩ = some (.int .i64 ((vz l0 x5_1).f1)) ∧ w'.cell? ⟨(ad101.add ((x5_1).toNat * 7)).block,(ad101.add ((x5_1).toNat * 7)).off + 2,none⟩ = some (.string ((vz l0 x5_1).f2)) ∧ w'.cell? ⟨(ad101.add ((x5_1).toNat * 7)).block,(ad101.add ((x5_1).toNat * 7)).off + 3,none⟩ = some (.int .i64 ((vz l0 x5_1).f3.f0)) ∧ w'.cell? ⟨(ad101.add ((x5_1).toNat * 7)).block,(ad101.add ((x5_1).toNat * 7)).off + 4,none⟩ = some (.int .i64 ((vz l0 x5_1).f3.f1)) ∧ w'.cell? ⟨(ad101.add ((x5_1).toNat * 7)).block,(ad101.add ((x5_1).toNat * 7)).off + 5,none⟩ = some (.string ((vz l0 x5_1).f3.f2)) ∧ w'.cell? ⟨(ad101.add ((x5_1).toNat * 7)).block,(ad101.add ((x5_1).toNat * 7)).off + 6,none⟩ = some (.string ((vz l0 x5_1).f3.f3)) ∧ w'.cell? (ad102.add ((x5_1).toNat * 7)) = some (.string ((vz l1 x5_1).f0)) ∧ w'.cell? ⟨(ad102.add ((x5_1).toNat * 7)).block,(ad102.add ((x5_1).toNat * 7)).off + 1,none⟩ = some (.int .i64 ((vz l1 x5_1).f1)) ∧ w'.cell? ⟨(ad102.add ((x5_1).toNat * 7)).block,(ad102.add ((x5_1).toNat * 7)).off + 2,none⟩ = some (.string ((vz l1 x5_1).f2)) ∧ w'.cell? ⟨(ad102.add ((x5_1).toNat * 7)).block,(ad102.add ((x5_1).toNat * 7)).off + 3,none⟩ = some (.int .i64 ((vz l1 x5_1).f3.f0)) ∧ w'.cell? ⟨(ad102.add ((x5_1).toNat * 7)).block,(ad102.add ((x5_1).toNat * 7)).off + 4,none⟩ = some (.int .i64 ((vz l1 x5_1).f3.f1)) ∧ w'.cell? ⟨(ad102.add ((x5_1).toNat * 7)).block,(ad102.add ((x5_1).toNat * 7)).off + 5,none⟩ = some (.string ((vz l1 x5_1).f3.f2)) ∧ w'.cell? ⟨(ad102.add ((x5_1).toNat * 7)).block,(ad102.add ((x5_1).toNat * 7)).off + 6,none⟩ = some (.string ((vz l1 x5_1).f3.f3))) (ds := []) #[false,false,false,false,false,false,false,false,false,false] (by kernel_rfl) rfl rfl ⟨((HB.out.cell (World.block_lt_of_cell? w _ hw101_0)).trans hw101_0),((HB.out.cell (World.block_lt_of_cell? w _ hw101_1)).trans hw101_1),((HB.out.cell (World.block_lt_of_cell? w _ hw101_2)).trans hw101_2),((HB.out.cell (World.block_lt_of_cell? w _ hw101_3)).trans hw101_3),((HB.out.cell (World.block_lt_of_cell? w _ hw101_4)).trans hw101_4),((HB.out.cell (World.block_lt_of_cell? w _ hw101_5)).trans hw101_5),((HB.out.cell (World.block_lt_of_cell? w _ hw101_6)).trans hw101_6),((HB.out.cell (World.block_lt_of_cell? w _ hw102_0)).trans hw102_0),((HB.out.cell (World.block_lt_of_cell? w _ hw102_1)).trans hw102_1),((HB.out.cell (World.block_lt_of_cell? w _ hw102_2)).trans hw102_2),((HB.out.cell (World.block_lt_of_cell? w _ hw102_3)).trans hw102_3),((HB.out.cell (World.block_lt_of_cell? w _ hw102_4)).trans hw102_4),((HB.out.cell (World.block_lt_of_cell? w _ hw102_5)).trans hw102_5),((HB.out.cell (World.block_lt_of_cell? w _ hw102_6)).trans hw102_6)⟩ (fun hHeld => ?_);refine with_tabW qqw.tab6 qqw.bits6 (fun HT_ HW_ => ?_)
        generalize wr.drew = w9 at HB hx101_0 hx101_1 hx101_2 hx101_3 hx101_4 hx101_5 hx101_6 hx102_0 hx102_1 hx102_2 hx102_3 hx102_4 hx102_5 hx102_6 hHeld ⊢
        refine pure_ (i := 0) (N := some 17) (v := ?_) (a' := ?_) #[true,false,false,false,false,false,false,false,false,false] rfl rfl (any_of HT_.out (by kernel_rfl)) (fun _ _ _ h => h) (Or.inl ⟨by rfl,?_⟩) ?_ ?_
        rotate_left
        ·intro w'
         go_simp
         with_reducible rfl
        rotate_left
        ·simp only [Act.put,List.setIfInBounds_toArray,List.set_cons_zero,List.set_cons_succ,i64_w,i32_w]
         rfl
        refine pure_ (i := 1) (N := some 18) (v := ?_) (a' := ?_) #[true,true,false,false,false,false,false,false,false,false] rfl rfl (any_of HT_.out (by kernel_rfl)) (fun _ _ _ h => h) (Or.inl ⟨by rfl,?_⟩) ?_ ?_
        rotate_left
        ·intro w'
         go_simp
         with_reducible rfl
        rotate_left
        ·simp only [Act.put,List.setIfInBounds_toArray,List.set_cons_zero,List.set_cons_succ,i64_w,i32_w]
         rfl
        refine pure_ (i := 2) (N := some 19) (v := ?_) (a' := ?_) #[true,true,true,false,false,false,false,false,false,false] rfl rfl (any_of HT_.out (by kernel_rfl)) (fun _ _ _ h => h) (Or.inl ⟨by rfl,?_⟩) ?_ ?_
        rotate_left
        ·intro w'
         go_simp
         with_reducible rfl
        rotate_left
        ·simp only [Act.put,List.setIfInBounds_toArray,List.set_cons_zero,List.set_cons_succ,i64_w,i32_w]
         rfl
        refine pure_ (i := 4) (N := some 21) (v := ?_) (a' := ?_) #[true,true,true,false,true,false,false,false,false,false] rfl rfl (any_of HT_.out (by kernel_rfl)) (fun _ _ _ h => h) (Or.inl ⟨by rfl,?_⟩) ?_ ?_
        rotate_left
        ·intro w'
         go_simp
         with_reducible rfl
        rotate_left
        ·simp only [Act.put,List.setIfInBounds_toArray,List.set_cons_zero,List.set_cons_succ,i64_w,i32_w]
         rfl
        refine pure_ (i := 5) (N := some 22) (v := ?_) (a' := ?_) #[true,true,true,false,true,true,false,false,false,false] rfl rfl (any_of HT_.out (by kernel_rfl)) (fun _ _ _ h => h) (Or.inl ⟨by rfl,?_⟩) ?_ ?_
        rotate_left
        ·intro w'
         go_simp
         with_reducible rfl
        rotate_left
        ·simp only [Act.put,List.setIfInBounds_toArray,List.set_cons_zero,List.set_cons_succ,i64_w,i32_w]
         rfl
        refine pure_ (i := 6) (N := some 23) (v := ?_) (a' := ?_) #[true,true,true,false,true,true,true,false,false,false] rfl rfl (any_of HT_.out (by kernel_rfl)) (fun _ _ _ h => h) (Or.inl ⟨by rfl,?_⟩) ?_ ?_
        rotate_left
        ·intro w'
         go_simp
         with_reducible rfl
        rotate_left
        ·simp only [Act.put,List.setIfInBounds_toArray,List.set_cons_zero,List.set_cons_succ,i64_w,i32_w]
         rfl
        refine take_ (i := 3) (N := some 20) (v := ?_) (a' := ?_) #[true,true,true,true,true,true,true,false,false,false] rfl rfl (take_ofW HT_.out HW_.out (by kernel_rfl)) (fun _ _ _ h => h) (Or.inl ⟨by rfl,?_⟩) hHeld ?_ ?_
        rotate_left
        ·rintro w' ⟨s0,s1,s2,s3,s4,s5,s6,s7,s8,s9,s10,s11,s12,s13⟩
         go_simp
         with_reducible rfl
        rotate_left
        ·simp only [Act.put,List.setIfInBounds_toArray,List.set_cons_zero,List.set_cons_succ,i64_w,i32_w]
         rfl
        refine take_ (i := 7) (N := some 24) (v := ?_) (a' := ?_) #[true,true,true,true,true,true,true,true,false,false] rfl rfl (take_ofW HT_.out HW_.out (by kernel_rfl)) (fun _ _ _ h => h) (Or.inl ⟨by rfl,?_⟩) hHeld ?_ ?_
        rotate_left
        ·rintro w' ⟨s0,s1,s2,s3,s4,s5,s6,s7,s8,s9,s10,s11,s12,s13⟩
         go_simp
         with_reducible rfl
        rotate_left
        ·simp only [Act.put,List.setIfInBounds_toArray,List.set_cons_zero,List.set_cons_succ,i64_w,i32_w]
         rfl
        refine one_ (i := 8) (N := some 25) #[true,true,true,true,true,true,true,true,true,false] rfl rfl (one_of HT_.out (by kernel_rfl)) (by decide) (fun K hK => ?_)
        refine goes_ Tryz.func65 (by kernel_rfl) rfl #[.agg #[.string ((vz l0 x5_1).f0),.int .i64 ((vz l0 x5_1).f1),.string ((vz l0 x5_1).f2),.int .i64 ((vz l0 x5_1).f3.f0),.int .i64 ((vz l0 x5_1).f3.f1),.string ((vz l0 x5_1).f3.f2),.string ((vz l0 x5_1).f3.f3)],.agg #[.string ((vz l1 x5_1).f0),.int .i64 ((vz l1 x5_1).f1),.string ((vz l1 x5_1).f2),.int .i64 ((vz l1 x5_1).f3.f0),.int .i64 ((vz l1 x5_1).f3.f1),.string ((vz l1 x5_1).f3.f2),.string ((vz l1 x5_1).f3.f3)]] (by rfl) rfl rfl (by (try simp only [List.map_toArray,List.map_cons,List.map_nil]);first | done | rfl | (simp only [List.length_drop,List.length_take];rfl)) ?_
        with_reducible refine (qqv.calls ((vz l0 x5_1).f0) ((vz l0 x5_1).f1) ((vz l0 x5_1).f2) ((vz l0 x5_1).f3.f0) ((vz l0 x5_1).f3.f1) ((vz l0 x5_1).f3.f2) ((vz l0 x5_1).f3.f3) ((vz l1 x5_1).f0) ((vz l1 x5_1).f1) ((vz l1 x5_1).f2) ((vz l1 x5_1).f3.f0) ((vz l1 x5_1).f3.f1) ((vz l1 x5_1).f3.f2) ((vz l1 x5_1).f3.f3) true _ A7.out).mono ?_
        rintro e w10 ⟨rfl,hb⟩
        refine ⟨_,rfl,?_⟩
        have n0_ := qq.mk (zv (by repeat (first | (with_reducible first | exact HB.out | apply qj | apply qz | apply qk) | exact HB.out)) hb)
        clear HB
        have HB := n0_
        clear n0_
        (try clear hb)
        (try clear hb2)
        (try clear hk)
        (try clear hi)
        refine hK.out _ _ ⟨((HB.out.cell (World.block_lt_of_cell? w _ hw101_0)).trans hw101_0),((HB.out.cell (World.block_lt_of_cell? w _ hw101_1)).trans hw101_1),((HB.out.cell (World.block_lt_of_cell? w _ hw101_2)).trans hw101_2),((HB.out.cell (World.block_lt_of_cell? w _ hw101_3)).trans hw101_3),((HB.out.cell (World.block_lt_of_cell? w _ hw101_4)).trans hw101_4),((HB.out.cell (World.block_lt_of_cell? w _ hw101_5)).trans hw101_5),((HB.out.cell (World.block_lt_of_cell? w _ hw101_6)).trans hw101_6),((HB.out.cell (World.block_lt_of_cell? w _ hw102_0)).trans hw102_0),((HB.out.cell (World.block_lt_of_cell? w _ hw102_1)).trans hw102_1),((HB.out.cell (World.block_lt_of_cell? w _ hw102_2)).trans hw102_2),((HB.out.cell (World.block_lt_of_cell? w _ hw102_3)).trans hw102_3),((HB.out.cell (World.block_lt_of_cell? w _ hw102_4)).trans hw102_4),((HB.out.cell (World.block_lt_of_cell? w _ hw102_5)).trans hw102_5),((HB.out.cell (World.block_lt_of_cell? w _ hw102_6)).trans hw102_6)⟩ (fun hHeld => ?_)
        clear hK K
        refine norm_ (a' := ?_) ?_ ?_
        rotate_left
        ·show Act.put _ (some 25) _ = _
         simp only [Act.put,List.setIfInBounds_toArray,List.set_cons_zero,List.set_cons_succ,i64_w,i32_w]
         rfl
        refine pure_ (i := 9) (N := some 26) (v := ?_) (a' := ?_) #[true,true,true,true,true,true,true,true,true,true] rfl rfl (any_of HT_.out (by kernel_rfl)) (fun _ _ _ h => h) (Or.inl ⟨by rfl,?_⟩) ?_ ?_
        rotate_left
        ·intro w'
         go_simp
         with_reducible rfl
        rotate_left
        ·simp only [Act.put,List.setIfInBounds_toArray,List.set_cons_zero,List.set_cons_succ,i64_w,i32_w]
         rfl
        refine done_ (done_of HT_.out (by kernel_rfl)) ?_
        try go_wp2
        go_roundg k1
        case measure => have := HK1.out;omega
        case rel => exact ⟨(wrap64 (x5_1 + 1)),(by first | rfl | (simp;done) | (simp [*];done)),H',⟨by have := HK1.out;omega⟩,⟨by repeat (first | (with_reducible first | exact HB.out | apply qj | apply qz | apply qk) | exact HB.out)⟩⟩
       ·replace c8 := Bool.eq_false_iff.mpr c8
        subst c8
        have H1 : (some false) = some r := by rw [if_neg (show ¬ (false = true) by decide)] at H;exact H
        clear H
        have H := H1
        clear H1
        obtain rfl := Option.some.inj H
        try go_wp2
        have n0_ := qq.mk (qk HB.out)
        clear HB
        have HB := n0_
        clear n0_
        have p101 : 0 ≤ (x5_1 : Int) := of_decide_eq_true (by assumption)
        have q101 : x5_1 < (l0.length : Int) := of_decide_eq_true (by assumption)
        obtain ⟨ad101,e101,hx101_0,hx101_1,hx101_2,hx101_3,hx101_4,hx101_5,hx101_6⟩ := at_T30 HR0.out x5_1 p101 q101
        have hw101_6 := hx101_6
        have hw101_5 := hx101_5
        have hw101_4 := hx101_4
        have hw101_3 := hx101_3
        have hw101_2 := hx101_2
        have hw101_1 := hx101_1
        have hw101_0 := hx101_0
        cases e101
        replace hx101_0 := (HB.out.cell (World.block_lt_of_cell? w _ hx101_0)).trans hx101_0
        replace hx101_1 := (HB.out.cell (World.block_lt_of_cell? w _ hx101_1)).trans hx101_1
        replace hx101_2 := (HB.out.cell (World.block_lt_of_cell? w _ hx101_2)).trans hx101_2
        replace hx101_3 := (HB.out.cell (World.block_lt_of_cell? w _ hx101_3)).trans hx101_3
        replace hx101_4 := (HB.out.cell (World.block_lt_of_cell? w _ hx101_4)).trans hx101_4
        replace hx101_5 := (HB.out.cell (World.block_lt_of_cell? w _ hx101_5)).trans hx101_5
        replace hx101_6 := (HB.out.cell (World.block_lt_of_cell? w _ hx101_6)).trans hx101_6
        replace p101 := eq_true p101
        replace q101 := eq_true q101
        have p102 : 0 ≤ (x5_1 : Int) := of_decide_eq_true (by assumption)
        have q102 : x5_1 < (l1.length : Int) := of_decide_eq_true (by assumption)
        obtain ⟨ad102,e102,hx102_0,hx102_1,hx102_2,hx102_3,hx102_4,hx102_5,hx102_6⟩ := at_T30 HR1.out x5_1 p102 q102
        have hw102_6 := hx102_6
        have hw102_5 := hx102_5
        have hw102_4 := hx102_4
        have hw102_3 := hx102_3
        have hw102_2 := hx102_2
        have hw102_1 := hx102_1
        have hw102_0 := hx102_0
        cases e102
        replace hx102_0 := (HB.out.cell (World.block_lt_of_cell? w _ hx102_0)).trans hx102_0
        replace hx102_1 := (HB.out.cell (World.block_lt_of_cell? w _ hx102_1)).trans hx102_1
        replace hx102_2 := (HB.out.cell (World.block_lt_of_cell? w _ hx102_2)).trans hx102_2
        replace hx102_3 := (HB.out.cell (World.block_lt_of_cell? w _ hx102_3)).trans hx102_3
        replace hx102_4 := (HB.out.cell (World.block_lt_of_cell? w _ hx102_4)).trans hx102_4
        replace hx102_5 := (HB.out.cell (World.block_lt_of_cell? w _ hx102_5)).trans hx102_5
        replace hx102_6 := (HB.out.cell (World.block_lt_of_cell? w _ hx102_6)).trans hx102_6
        replace p102 := eq_true p102
        replace q102 := eq_true q102
        refine start_ (n := 10) (S := fun w' => w'.cell? (ad101.add ((x5_1).toNat * 7)) = some (.string ((vz l0 x5_1).f0)) ∧ w'.cell? ⟨(ad101.add ((x5_1).toNat * 7)).block,(ad101.add ((x5_1).toNat * 7)).off + 1,none⟩ = some (.int .i64 ((vz l0 x5_1).f1)) ∧ w'.cell? ⟨(ad101.add ((x5_1).toNat * 7)).block,(ad101.add ((x5_1).toNat * 7)).off + 2,none⟩ = some (.string ((vz l0 x5_1).f2)) ∧ w'.cell? ⟨(ad101.add ((x5_1).toNat * 7)).block,(ad101.add ((x5_1).toNat * 7)).off + 3,none⟩ = some (.int .i64 ((vz l0 x5_1).f3.f0)) ∧ w'.cell? ⟨(ad101.add ((x5_1).toNat * 7)).block,(ad101.add ((x5_1).toNat * 7)).off + 4,none⟩ = some (.int .i64 ((vz l0 x5_1).f3.f1)) ∧ w'.cell? ⟨(ad101.add ((x5_1).toNat * 7)).block,(ad101.add ((x5_1).toNat * 7)).off + 5,none⟩ = some (.string ((vz l0 x5_1).f3.f2)) ∧ w'.cell? ⟨(ad101.add ((x5_1).toNat * 7)).block,(ad101.add ((x5_1).toNat * 7)).off + 6,none⟩ = some (.string ((vz l0 x5_1).f3.f3)) ∧ w'.cell? (ad102.add ((x5_1).toNat * 7)) = some (.string ((vz l1 x5_1).f0)) ∧ w'.cell? ⟨(ad102.add ((x5_1).toNat * 7)).block,(ad102.add ((x5_1).toNat * 7)).off + 1,none⟩ = some (.int .i64 ((vz l1 x5_1).f1)) ∧ w'.cell? ⟨(ad102.add ((x5_1).toNat * 7)).block,(ad102.add ((x5_1).toNat * 7)).off + 2,none⟩ = some (.string ((vz l1 x5_1).f2)) ∧ w'.cell? ⟨(ad102.add ((x5_1).toNat * 7)).block,(ad102.add ((x5_1).toNat * 7)).off + 3,none⟩ = some (.int .i64 ((vz l1 x5_1).f3.f0)) ∧ w'.cell? ⟨(ad102.add ((x5_1).toNat * 7)).block,(ad102.add ((x5_1).toNat * 7)).off + 4,none⟩ = some (.int .i64 ((vz l1 x5_1).f3.f1)) ∧ w'.cell? ⟨(ad102.add ((x5_1).toNat * 7)).block,(ad102.add ((x5_1).toNat * 7)).off + 5,none⟩ = some (.string ((vz l1 x5_1).f3.f2)) ∧ w'.cell? ⟨(ad102.add ((x5_1).toNat * 7)).block,(ad102.add ((x5_1).toNat * 7)).off + 6,none⟩ = some (.string ((vz l1 x5_1).f3.f3))) (ds := []) #[false,false,false,false,false,false,false,false,false,false] (by kernel_rfl) rfl rfl ⟨((HB.out.cell (World.block_lt_of_cell? w _ hw101_0)).trans hw101_0),((HB.out.cell (World.block_lt_of_cell? w _ hw101_1)).trans hw101_1),((HB.out.cell (World.block_lt_of_cell? w _ hw101_2)).trans hw101_2),((HB.out.cell (World.block_lt_of_cell? w _ hw101_3)).trans hw101_3),((HB.out.cell (World.block_lt_of_cell? w _ hw101_4)).trans hw101_4),((HB.out.cell (World.block_lt_of_cell? w _ hw101_5)).trans hw101_5),((HB.out.cell (World.block_lt_of_cell? w _ hw101_6)).trans hw101_6),((HB.out.cell (World.block_lt_of_cell? w _ hw102_0)).trans hw102_0),((HB.out.cell (World.block_lt_of_cell? w _ hw102_1)).trans hw102_1),((HB.out.cell (World.block_lt_of_cell? w _ hw102_2)).trans hw102_2),((HB.out.cell (World.block_lt_of_cell? w _ hw102_3)).trans hw102_3),((HB.out.cell (World.block_lt_of_cell? w _ hw102_4)).trans hw102_4),((HB.out.cell (World.block_lt_of_cell? w _ hw102_5)).trans hw102_5),((HB.out.cell (World.block_lt_of_cell? w _ hw102_6)).trans hw102_6)⟩ (fun hHeld => ?_);refine with_tabW qqw.tab6 qqw.bits6 (fun HT_ HW_ => ?_)
        generalize wr.drew = w11 at HB hx101_0 hx101_1 hx101_2 hx101_3 hx101_4 hx101_5 hx101_6 hx102_0 hx102_1 hx102_2 hx102_3 hx102_4 hx102_5 hx102_6 hHeld ⊢
        refine pure_ (i := 0) (N := some 17) (v := ?_) (a' := ?_) #[true,false,false,false,false,false,false,false,false,false] rfl rfl (any_of HT_.out (by kernel_rfl)) (fun _ _ _ h => h) (Or.inl ⟨by rfl,?_⟩) ?_ ?_
        rotate_left
        ·intro w'
         go_simp
         with_reducible rfl
        rotate_left
        ·simp only [Act.put,List.setIfInBounds_toArray,List.set_cons_zero,List.set_cons_succ,i64_w,i32_w]
         rfl
        refine pure_ (i := 1) (N := some 18) (v := ?_) (a' := ?_) #[true,true,false,false,false,false,false,false,false,false] rfl rfl (any_of HT_.out (by kernel_rfl)) (fun _ _ _ h => h) (Or.inl ⟨by rfl,?_⟩) ?_ ?_
        rotate_left
        ·intro w'
         go_simp
         with_reducible rfl
        rotate_left
        ·simp only [Act.put,List.setIfInBounds_toArray,List.set_cons_zero,List.set_cons_succ,i64_w,i32_w]
         rfl
        refine pure_ (i := 2) (N := some 19) (v := ?_) (a' := ?_) #[true,true,true,false,false,false,false,false,false,false] rfl rfl (any_of HT_.out (by kernel_rfl)) (fun _ _ _ h => h) (Or.inl ⟨by rfl,?_⟩) ?_ ?_
        rotate_left
        ·intro w'
         go_simp
         with_reducible rfl
        rotate_left
        ·simp only [Act.put,List.setIfInBounds_toArray,List.set_cons_zero,List.set_cons_succ,i64_w,i32_w]
         rfl
        refine pure_ (i := 4) (N := some 21) (v := ?_) (a' := ?_) #[true,true,true,false,true,false,false,false,false,false] rfl rfl (any_of HT_.out (by kernel_rfl)) (fun _ _ _ h => h) (Or.inl ⟨by rfl,?_⟩) ?_ ?_
        rotate_left
        ·intro w'
         go_simp
         with_reducible rfl
        rotate_left
        ·simp only [Act.put,List.setIfInBounds_toArray,List.set_cons_zero,List.set_cons_succ,i64_w,i32_w]
         rfl
        refine pure_ (i := 5) (N := some 22) (v := ?_) (a' := ?_) #[true,true,true,false,true,true,false,false,false,false] rfl rfl (any_of HT_.out (by kernel_rfl)) (fun _ _ _ h => h) (Or.inl ⟨by rfl,?_⟩) ?_ ?_
        rotate_left
        ·intro w'
         go_simp
         with_reducible rfl
        rotate_left
        ·simp only [Act.put,List.setIfInBounds_toArray,List.set_cons_zero,List.set_cons_succ,i64_w,i32_w]
         rfl
        refine pure_ (i := 6) (N := some 23) (v := ?_) (a' := ?_) #[true,true,true,false,true,true,true,false,false,false] rfl rfl (any_of HT_.out (by kernel_rfl)) (fun _ _ _ h => h) (Or.inl ⟨by rfl,?_⟩) ?_ ?_
        rotate_left
        ·intro w'
         go_simp
         with_reducible rfl
        rotate_left
        ·simp only [Act.put,List.setIfInBounds_toArray,List.set_cons_zero,List.set_cons_succ,i64_w,i32_w]
         rfl
        refine take_ (i := 3) (N := some 20) (v := ?_) (a' := ?_) #[true,true,true,true,true,true,true,false,false,false] rfl rfl (take_ofW HT_.out HW_.out (by kernel_rfl)) (fun _ _ _ h => h) (Or.inl ⟨by rfl,?_⟩) hHeld ?_ ?_
        rotate_left
        ·rintro w' ⟨s0,s1,s2,s3,s4,s5,s6,s7,s8,s9,s10,s11,s12,s13⟩
         go_simp
         with_reducible rfl
        rotate_left
        ·simp only [Act.put,List.setIfInBounds_toArray,List.set_cons_zero,List.set_cons_succ,i64_w,i32_w]
         rfl
        refine take_ (i := 7) (N := some 24) (v := ?_) (a' := ?_) #[true,true,true,true,true,true,true,true,false,false] rfl rfl (take_ofW HT_.out HW_.out (by kernel_rfl)) (fun _ _ _ h => h) (Or.inl ⟨by rfl,?_⟩) hHeld ?_ ?_
        rotate_left
        ·rintro w' ⟨s0,s1,s2,s3,s4,s5,s6,s7,s8,s9,s10,s11,s12,s13⟩
         go_simp
         with_reducible rfl
        rotate_left
        ·simp only [Act.put,List.setIfInBounds_toArray,List.set_cons_zero,List.set_cons_succ,i64_w,i32_w]
         rfl
        refine one_ (i := 8) (N := some 25) #[true,true,true,true,true,true,true,true,true,false] rfl rfl (one_of HT_.out (by kernel_rfl)) (by decide) (fun K hK => ?_)
        refine goes_ Tryz.func65 (by kernel_rfl) rfl #[.agg #[.string ((vz l0 x5_1).f0),.int .i64 ((vz l0 x5_1).f1),.string ((vz l0 x5_1).f2),.int .i64 ((vz l0 x5_1).f3.f0),.int .i64 ((vz l0 x5_1).f3.f1),.string ((vz l0 x5_1).f3.f2),.string ((vz l0 x5_1).f3.f3)],.agg #[.string ((vz l1 x5_1).f0),.int .i64 ((vz l1 x5_1).f1),.string ((vz l1 x5_1).f2),.int .i64 ((vz l1 x5_1).f3.f0),.int .i64 ((vz l1 x5_1).f3.f1),.string ((vz l1 x5_1).f3.f2),.string ((vz l1 x5_1).f3.f3)]] (by rfl) rfl rfl (by (try simp only [List.map_toArray,List.map_cons,List.map_nil]);first | done | rfl | (simp only [List.length_drop,List.length_take];rfl)) ?_
        with_reducible refine (qqv.calls ((vz l0 x5_1).f0) ((vz l0 x5_1).f1) ((vz l0 x5_1).f2) ((vz l0 x5_1).f3.f0) ((vz l0 x5_1).f3.f1) ((vz l0 x5_1).f3.f2) ((vz l0 x5_1).f3.f3) ((vz l1 x5_1).f0) ((vz l1 x5_1).f1) ((vz l1 x5_1).f2) ((vz l1 x5_1).f3.f0) ((vz l1 x5_1).f3.f1) ((vz l1 x5_1).f3.f2) ((vz l1 x5_1).f3.f3) false _ A7.out).mono ?_
        rintro e w12 ⟨rfl,hb⟩
        refine ⟨_,rfl,?_⟩
        have n0_ := qq.mk (zv (by repeat (first | (with_reducible first | exact HB.out | apply qj | apply qz | apply qk) | exact HB.out)) hb)
        clear HB
        have HB := n0_
        clear n0_
        (try clear hb)
        (try clear hb2)
        (try clear hk)
        (try clear hi)
        refine hK.out _ _ ⟨((HB.out.cell (World.block_lt_of_cell? w _ hw101_0)).trans hw101_0),((HB.out.cell (World.block_lt_of_cell? w _ hw101_1)).trans hw101_1),((HB.out.cell (World.block_lt_of_cell? w _ hw101_2)).trans hw101_2),((HB.out.cell (World.block_lt_of_cell? w _ hw101_3)).trans hw101_3),((HB.out.cell (World.block_lt_of_cell? w _ hw101_4)).trans hw101_4),((HB.out.cell (World.block_lt_of_cell? w _ hw101_5)).trans hw101_5),((HB.out.cell (World.block_lt_of_cell? w _ hw101_6)).trans hw101_6),((HB.out.cell (World.block_lt_of_cell? w _ hw102_0)).trans hw102_0),((HB.out.cell (World.block_lt_of_cell? w _ hw102_1)).trans hw102_1),((HB.out.cell (World.block_lt_of_cell? w _ hw102_2)).trans hw102_2),((HB.out.cell (World.block_lt_of_cell? w _ hw102_3)).trans hw102_3),((HB.out.cell (World.block_lt_of_cell? w _ hw102_4)).trans hw102_4),((HB.out.cell (World.block_lt_of_cell? w _ hw102_5)).trans hw102_5),((HB.out.cell (World.block_lt_of_cell? w _ hw102_6)).trans hw102_6)⟩ (fun hHeld => ?_)
        clear hK K
        refine norm_ (a' := ?_) ?_ ?_
        rotate_left
        ·show Act.put _ (some 25) _ = _
         simp only [Act.put,List.setIfInBounds_toArray,List.set_cons_zero,List.set_cons_succ,i64_w,i32_w]
         rfl
        refine pure_ (i := 9) (N := some 26) (v := ?_) (a' := ?_) #[true,true,true,true,true,true,true,true,true,true] rfl rfl (any_of HT_.out (by kernel_rfl)) (fun _ _ _ h => h) (Or.inl ⟨by rfl,?_⟩) ?_ ?_
        rotate_left
        ·intro w'
         go_simp
         with_reducible rfl
        rotate_left
        ·simp only [Act.put,List.setIfInBounds_toArray,List.set_cons_zero,List.set_cons_succ,i64_w,i32_w]
         rfl
        refine done_ (done_of HT_.out (by kernel_rfl)) ?_
        try go_wp2
        go_ret
        exact ⟨by first | rfl | (simp [*,jk,jj] <;> rfl),by repeat (first | (with_reducible first | exact HB.out | apply qj | apply qz | apply qk) | exact HB.out)⟩
      ·rw [if_neg c6] at H
       exact absurd H (by simp)
     ·rw [if_neg c5] at H
      exact absurd H (by simp)
    ·rw [if_neg c4] at H
     have c4b0 : decide (x5_1 < (l0.length : Int)) = false := decide_eq_false c4
     clear c4
     obtain rfl := Option.some.inj H
     go_wp2
     go_ret
     exact ⟨by first | rfl | (simp [*,jk,jj] <;> rfl),by repeat (first | (with_reducible first | exact HB.out | apply qj | apply qz | apply qk) | exact HB.out)⟩
 ·rw [if_neg c3] at H
  have c3b0 : ((l0.length : Int) == (l1.length : Int)) = false := beq_eq_false_iff_ne.mpr c3
  have c3b1 : ((l0.length : Int) != (l1.length : Int)) = true := bne_iff_ne.mpr c3
  have c3b2 : (l0.length == l1.length) = false := by first | simpa using c3 | (simp at c3 ⊢;omega)
  obtain rfl := Option.some.inj H
  go_enter Tryz.func36,Tryz.ntmps36
  go_wp2
  go_ret
  exact ⟨by first | rfl | (simp [*,jk,jj] <;> rfl),by repeat (first | (with_reducible first | exact HB.out | apply qj | apply qz | apply qk) | exact HB.out)⟩
end Go.Proofs.YtnbbbjfjkhglhaaGreatDoor.Pr
