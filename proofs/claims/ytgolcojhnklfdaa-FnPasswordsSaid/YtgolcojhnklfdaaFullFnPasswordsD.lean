/- Printed texts, walks and plain facts that the law FnPasswords leans on, joined. -/
import Derived.Test.YtgolcojhnklfdaaFullFnPasswordsC
namespace Go.Proofs.Ytgolcojhnklfdaa.Pr
open Go.RowKit Go.Proofs.YtgolcojhnklfdaaW.PrintWords Go.Proofs.YtgolcojhnklfdaaW.PrintLast Go.Proofs.YtgolcojhnklfdaaW.PrintMore
attribute [local go_sem] max2_int min2_int max_two min_two max_three min_three max_four min_four
set_option linter.unusedVariables false
set_option linter.unusedSimpArgs false
def qkz.l0 : Nat → List Int → Int → Int → List Int → Int → Int → Option (ByteArray × Int × Int)
 | 0,_,_,_,_,_,_ => none
 | k + 1,x5,x14,x15,x1000,x1001,x1002 => if x15 < x14 then (if 0 ≤ x15 then (if x15 < (x5.length : Int) then (qkz.l0 k (x5.set (x15 : Int).toNat 112) x14 (wrap64 (x15 + 1)) x1000 x1001 x1002) else (none)) else (none)) else (some (strOfNums x5,x1001,x1002))
def qkz.f (k : Nat) (s0_0 : List Int) (s0_1 : Int) (s0_2 : Int) (a1 : Int) : Option (ByteArray × Int × Int) := (qkx.f s0_0 s0_1 s0_2 3).bind fun bt101 => (if 0 ≤ (wrap64 ((wrap64 (a1 - 1)) + bt101.1)) then (if (wrap64 ((wrap64 (a1 - 1)) + bt101.1) : Int).toNat ≤ 281474976710656 then ((some (List.replicate (wrap64 ((wrap64 (a1 - 1)) + bt101.1) : Int).toNat 0 : List Int)).bind fun y104 => (qkz.l0 k y104 (y104.length : Int) 0 s0_0 bt101.2.1 bt101.2.2)) else (none)) else (none))
set_option maxHeartbeats 8000000 in
set_option maxRecDepth 100000 in
theorem qkz.calls (k : Nat) (g : Nat) (s0_0 : List Int) (s0_1 : Int) (s0_2 : Int) (a1 : Int) (r1 : ByteArray) (r2 : Int) (r3 : Int) (w0 w : World) (hI : ww w0 w g s0_0 s0_1 s0_2) (hB : Below w0.heap.size w0 w) (h : qkz.f k s0_0 s0_1 s0_2 a1 = some (r1,r2,r3)) :
  Calls Try.prog 102 #[.pointer (some ⟨g,0,none⟩),.int .i64 a1] w fun e w' => e = .returned (.string r1) ∧ ww w0 w' g s0_0 r2 r3 ∧ Below w0.heap.size w0 w' ∧ zk w w' g none := by
 have HI0 := qq.mk hI
 have HK := qq.mk (zk.refl w g none)
 have HL := qq.mk hB.size
 clear hI
 have HW0 := qq.mk hB.size
 have HB := qq.mk hB
 clear hB
 have H : ((qkx.f s0_0 s0_1 s0_2 3).bind fun bt101 => (if 0 ≤ (wrap64 ((wrap64 (a1 - 1)) + bt101.1)) then (if (wrap64 ((wrap64 (a1 - 1)) + bt101.1) : Int).toNat ≤ 281474976710656 then ((some (List.replicate (wrap64 ((wrap64 (a1 - 1)) + bt101.1) : Int).toNat 0 : List Int)).bind fun y104 => (qkz.l0 k y104 (y104.length : Int) 0 s0_0 bt101.2.1 bt101.2.2)) else (none)) else (none))) = some (r1,r2,r3) := h
 clear h
 replace H := Option.bind_eq_some_iff.mp H
 obtain ⟨⟨t101,t102,t103⟩,A30,H⟩ := H
 replace H : (if 0 ≤ (wrap64 ((wrap64 (a1 - 1)) + t101)) then (if (wrap64 ((wrap64 (a1 - 1)) + t101) : Int).toNat ≤ 281474976710656 then ((some (List.replicate (wrap64 ((wrap64 (a1 - 1)) + t101) : Int).toNat 0 : List Int)).bind fun y104 => (qkz.l0 k y104 (y104.length : Int) 0 s0_0 t102 t103)) else (none)) else (none)) = some (r1,r2,r3) := H
 have A3 := qq.mk A30
 clear A30
 obtain ⟨ji4,hji4⟩ : ∃ j_ : Int,(wrap64 ((wrap64 (a1 - 1)) + t101)) = j_ := ⟨_,rfl⟩
 replace H : (if 0 ≤ (ji4) then (if (ji4 : Int).toNat ≤ 281474976710656 then ((some (List.replicate (ji4 : Int).toNat 0 : List Int)).bind fun y104 => (qkz.l0 k y104 (y104.length : Int) 0 s0_0 t102 t103)) else (none)) else (none)) = some (r1,r2,r3) := by first | (rw [hji4] at H;exact H) | (simp only [hji4] at H ⊢;exact H)
 (try rw [hji4] at A3)
 have hji4w : (IntKind.i64.wrap ((wrap64 (a1 - 1)) + t101)) = ji4 := (i64_w _).trans hji4
 by_cases c5 : 0 ≤ (ji4)
 ·rw [if_pos c5] at H
  have c5b0 := eq_true c5
  have c5b1 : decide (0 ≤ (ji4)) = true := decide_eq_true c5
  clear c5
  by_cases c6 : (ji4 : Int).toNat ≤ 281474976710656
  ·rw [if_pos c6] at H
   have c6b0 := eq_true c6
   have c6b1 : decide ((ji4 : Int).toNat ≤ 281474976710656) = true := decide_eq_true c6
   clear c6
   obtain ⟨y104,hy104⟩ : ∃ y_ : List Int,y_ = (List.replicate (ji4 : Int).toNat 0) := ⟨_,rfl⟩
   replace H : (qkz.l0 k y104 (y104.length : Int) 0 s0_0 t102 t103) = some (r1,r2,r3) := by first | (rw [hy104];with_reducible exact H) | (have H2_ := (Option.bind_some _ _).symm.trans H;rw [hy104];with_reducible exact H2_) | (have H2_ := (Option.bind_some _ _).symm.trans H;with_reducible exact H2_) | with_reducible exact H | (rw [hy104];exact H) | exact H
   have Ny104 := qq.mk hy104
   clear hy104
   have H' := qq.mk H
   clear H
   go_enter Try.func102,Try.ntmps102
   go_wp2_with (first | ((with_reducible refine kj (f := 88) rfl ?_);refine goesL_ (some 10) rfl rfl Try.func88 (by kernel_rfl) rfl #[.pointer (some ⟨g,0,none⟩),.int .i64 3] rfl (by (try simp only [List.map_toArray,List.map_cons,List.map_nil]);first | done | rfl | (simp only [List.length_drop,List.length_take];rfl)) ?_;(with_reducible refine (qkx.calls g s0_0 s0_1 s0_2 3 t101 t102 t103 w0 _ ?side1 ?side2 A3.out).mono ?_);(case side1 => repeat (first | (with_reducible first | exact HI0.out | apply ww.alloc | apply ww.drewN | apply ww.drew | apply ww.set_1 | apply ww.set_2) | exact HI0.out));(case side2 => repeat (first | (with_reducible first | exact HB.out | apply qj | apply qz | apply qk | refine qx ?_ (ww.ge HI0.out)) | exact HB.out));rintro e w7 ⟨rfl,hi,hb,hk⟩;refine ⟨_,rfl,?_⟩;have n0_ := qq.mk (zk.trans (by repeat (first | (with_reducible first | exact HK.out | apply zk.set_ | apply jj | apply jv | apply jk) | exact HK.out)) hk (.inl rfl));have n1_ := qq.mk (hb);have n2_ := qq.mk (hi);clear HK;clear HB;clear HI0;have HK := n0_;have HB := n1_;have HI0 := n2_;clear n0_ n1_ n2_;(try clear hb);(try clear hb2);(try clear hk);(try clear hi)) | ((with_reducible refine gate_dst (N := 12) rfl ?_);refine Kd.R_make (Kd.int .u8) _ 5 rfl (N := 12) rfl 26 _ _ rfl ji4 rfl rfl Try.underlying26 (.int .u8 0) 1 info5 rfl (by decide) (by omega) 0 (ok := fun _ => True) (okp := fun _ => True) rfl (fun _ hk => hk) trivial (of_decide_eq_true (by assumption)) (Nat.le_trans (Nat.mul_le_mul_right _ (of_decide_eq_true (by assumption) : ji4.toNat ≤ 281474976710656)) (by omega)) (Below.refl _ _) (Nat.le_refl _) ?_;intro v105 w8 ho9 hb hg_ hnew_;clear hg_ hnew_;(first | rw [← Ny104.out] at ho9 | (simp only [Int.reduceToNat] at ho9;rw [← Ny104.out] at ho9));have n0_ := qq.mk (Kd.R_lower ho9 (keep_size (w := w) (g := g) (row := none) (by repeat (first | (with_reducible first | exact HK.out | apply zk.set_ | apply jj | apply jv | apply jk) | exact HK.out))));have n1_ := qq.mk (ww.below (by repeat (first | (with_reducible first | exact HI0.out | apply ww.alloc | apply ww.drewN | apply ww.drew | apply ww.set_1 | apply ww.set_2) | exact HI0.out)) hb);have n2_ := qq.mk (zk.trans (by repeat (first | (with_reducible first | exact HK.out | apply zk.set_ | apply jj | apply jv | apply jk) | exact HK.out)) (zk.of_below hb g none) (.inl rfl));have n3_ := qq.mk (zv (by repeat (first | (with_reducible first | exact HB.out | apply qj | apply qz | apply qk | refine qx ?_ (ww.ge HI0.out)) | exact HB.out)) hb);clear HI0;clear HK;clear HB;have HO106 := n0_;have HI0 := n1_;have HK := n2_;have HB := n3_;clear n0_ n1_ n2_ n3_;clear hb ho9;obtain ⟨Ao10,co10,eo10⟩ := Kd.R_slice HO106.out;subst eo10))
   go_loopg [15] k (fun kq v15 w' => ∃ (x5_1 : List Int) (x15_1 : Int),v15 = .int .i64 x15_1 ∧ qq (qkz.l0 kq x5_1 (y104.length : Int) x15_1 s0_0 t102 t103 = some (r1,r2,r3)) ∧ qq (kq ≤ k) ∧ qq (Kd.R (Kd.int .u8) 5 w' w.heap.size (fun _ => True) (.slice Ao10 y104.length co10) x5_1) ∧ qq (ww w0 w' g s0_0 t102 t103) ∧ qq (zk w w' g none) ∧ qq (Below w0.heap.size w0 w'))
   case atStart => exact ⟨(y104),(0),(by first | rfl | (simp;done) | (simp [*];done)),H',⟨Nat.le_refl _⟩,⟨by (with_reducible repeat (first | apply Kd.jq | apply Kd.zx | apply Kd.jz));exact HO106.out⟩,⟨by repeat (first | (with_reducible first | exact HI0.out | apply ww.alloc | apply ww.drewN | apply ww.drew | apply ww.set_1 | apply ww.set_2) | exact HI0.out)⟩,⟨by repeat (first | (with_reducible first | exact HK.out | apply zk.set_ | apply jj | apply jv | apply jk) | exact HK.out)⟩,⟨by repeat (first | (with_reducible first | exact HB.out | apply qj | apply qz | apply qk | refine qx ?_ (ww.ge HI0.out)) | exact HB.out)⟩⟩
   case round =>
    clear H'
    try clear c1
    try clear p2
    try clear c5
    try clear c5b0
    try clear c5b1
    try clear c6
    try clear c6b0
    try clear c6b1
    try clear p6
    try clear c8
    try clear c10
    obtain ⟨x5_1,x15_1,rfl,HA,HK1,HO_5,HI0,HK,HB⟩ := hrel
    have hl5_1 := (Kd.R_reads' HO_5.out).1
    rw [hl5_1] at HO_5
    (try simp only [hl5_1])
    cases gk with
    | zero => exact absurd HA.out (by simp [qkz.l0])
    | succ k1 =>
     have H := HA.out
     clear HA
     simp only [qkz.l0] at H
     by_cases c11 : x15_1 < (y104.length : Int)
     ·rw [if_pos c11] at H
      have c11b0 : decide (x15_1 < (y104.length : Int)) = true := decide_eq_true c11
      clear c11
      by_cases c12 : 0 ≤ x15_1
      ·rw [if_pos c12] at H
       have c12b0 : decide (0 ≤ x15_1) = true := decide_eq_true c12
       clear c12
       by_cases c13 : x15_1 < (x5_1.length : Int)
       ·rw [if_pos c13] at H
        have c13b0 : decide (x15_1 < (x5_1.length : Int)) = true := decide_eq_true c13
        clear c13
        obtain ⟨y107,hy107⟩ : ∃ y_ : List Int,y_ = (x5_1.set (x15_1 : Int).toNat 112) := ⟨_,rfl⟩
        replace H : (qkz.l0 k1 y107 (y104.length : Int) (wrap64 (x15_1 + 1)) s0_0 t102 t103) = some (r1,r2,r3) := by first | (rw [hy107];with_reducible exact H) | (have H2_ := (Option.bind_some _ _).symm.trans H;rw [hy107];with_reducible exact H2_) | (have H2_ := (Option.bind_some _ _).symm.trans H;with_reducible exact H2_) | with_reducible exact H | (rw [hy107];exact H) | exact H
        have Ny107 := qq.mk hy107
        clear hy107
        have H' := qq.mk H
        clear H
        have p14 : 0 ≤ (x15_1 : Int) := of_decide_eq_true (by assumption)
        have q14 : (x15_1 : Int) < ((x5_1.length : Int) : Int) := of_decide_eq_true (by assumption)
        obtain ⟨go14,co14,eo14,gb14,gl14,cl14,HG14⟩ := Kd.R_form HO_5.out (by omega)
        (first | cases eo14 | (injection eo14 with ea_ en_ ec_;(first | subst ea_ | (injection ea_ with ea_;subst ea_));subst ec_;clear en_))
        have GB14 := qq.mk gb14
        have GG14 := qq.mk HG14
        clear gb14 gl14 HG14
        obtain ⟨hx14_0,hf14_0⟩ := Kd.R_celln 0 HO_5.out (x15_1 : Int) p14 q14
        replace p14 := eq_true p14
        replace q14 := eq_true q14
        have HP15 := Kd.R_putg HO_5.out (x15_1 : Int) 112
        go_wp2_with (first | ((with_reducible refine kk (t := 5) (p := 20) rfl ?_);refine kv (t := 5) (p := 20) (v := ?vo_w16) (w1 := (wr.setCell ⟨go14,(x15_1 : Int).toNat,none⟩ (.int .u8 112))) ?hg ?ho ?hn ?hr ?_;(case ho => rfl);(case hg => rfl);(case hn => rfl);(case hr => first | (go_simp;done) | (go_simp;rfl));intro w16 hw;have hg : wr.grownBy w16 (some go14) := (by rw [hw];exact HP15.2);have hp_ : Kd.R (Kd.int .u8) 5 w16 w.heap.size (fun _ => True) (.slice (some ⟨go14,0,none⟩) x5_1.length co10) y107 := (by rw [hw,Ny107.out];exact HP15.1);clear HP15;have n0_ := qq.mk (hp_);have n1_ := qq.mk (ww.grown (by repeat (first | (with_reducible first | exact HI0.out | apply ww.alloc | apply ww.drewN | apply ww.drew | apply ww.set_1 | apply ww.set_2) | exact HI0.out)) hg (ww.own_ne HI0.out HO_5.out (by decide)));have n2_ := qq.mk ((by rw [hw];exact qx (HB.out) (Nat.le_trans HL.out GB14.out) : Below w0.heap.size w0 w16));have n3_ := qq.mk (zk.trans (by repeat (first | (with_reducible first | exact HK.out | apply zk.set_ | apply jj | apply jv | apply jk) | exact HK.out)) (zk.of_grown hg g) (Kd.R_base2 HO_5.out));clear HO_5;clear HI0;clear HB;clear HK;have HO_5 := n0_;have HI0 := n1_;have HB := n2_;have HK := n3_;clear n0_ n1_ n2_ n3_;clear hg hw hp_))
        (try simp only [← hl5_1])
        go_roundg k1
        case measure => have := HK1.out;omega
        case rel => exact ⟨(y107),(wrap64 (x15_1 + 1)),(by first | rfl | (simp;done) | (simp [*];done)),H',⟨by have := HK1.out;omega⟩,⟨by (try simp only [hl5_1]);(with_reducible repeat (first | apply Kd.jq | apply Kd.zx | apply Kd.jz));exact HO_5.out⟩,⟨by repeat (first | (with_reducible first | exact HI0.out | apply ww.alloc | apply ww.drewN | apply ww.drew | apply ww.set_1 | apply ww.set_2) | exact HI0.out)⟩,⟨by repeat (first | (with_reducible first | exact HK.out | apply zk.set_ | apply jj | apply jv | apply jk) | exact HK.out)⟩,⟨by repeat (first | (with_reducible first | exact HB.out | apply qj | apply qz | apply qk | refine qx ?_ (ww.ge HI0.out)) | exact HB.out)⟩⟩
       ·rw [if_neg c13] at H
        exact absurd H (by simp)
      ·rw [if_neg c12] at H
       exact absurd H (by simp)
     ·rw [if_neg c11] at H
      have c11b0 : decide (x15_1 < (y104.length : Int)) = false := decide_eq_false c11
      (try rw [hl5_1] at c11b0)
      clear c11
      simp only [Option.some.injEq,Prod.mk.injEq] at H
      obtain ⟨rfl,rfl,rfl⟩ := H
      have hcv17 := own_string (P := Try.prog) Try.underlying26 Try.underlying5 Try.underlying9 (Kd.own_of_R HO_5.out)
      go_wp2
      go_ret
      exact ⟨by first | rfl | (simp [kz,jx] <;> rfl) | (simp only [← hji4];first | rfl | (simp [kz,jx] <;> rfl)) | (simp [*,kz,jx] <;> rfl),by repeat (first | (with_reducible first | exact HI0.out | apply ww.alloc | apply ww.drewN | apply ww.drew | apply ww.set_1 | apply ww.set_2) | exact HI0.out),by repeat (first | (with_reducible first | exact HB.out | apply qj | apply qz | apply qk | refine qx ?_ (ww.ge HI0.out)) | exact HB.out),by repeat (first | (with_reducible first | exact HK.out | apply zk.set_ | apply jj | apply jv | apply jk) | exact HK.out)⟩
  ·rw [if_neg c6] at H
   exact absurd H (by simp)
 ·rw [if_neg c5] at H
  exact absurd H (by simp)
def qkv.f (s0_0 : List Int) (s0_1 : Int) (s0_2 : Int) (a1 : Int) : Option (Bool × Int × Int) := (qkx.f s0_0 s0_1 s0_2 a1).bind fun bt101 => (some ((bt101.1 == 0),bt101.2.1,bt101.2.2))
set_option maxHeartbeats 8000000 in
set_option maxRecDepth 100000 in
theorem qkv.calls (g : Nat) (s0_0 : List Int) (s0_1 : Int) (s0_2 : Int) (a1 : Int) (r1 : Bool) (r2 : Int) (r3 : Int) (w0 w : World) (hI : ww w0 w g s0_0 s0_1 s0_2) (hB : Below w0.heap.size w0 w) (h : qkv.f s0_0 s0_1 s0_2 a1 = some (r1,r2,r3)) :
  Calls Try.prog 90 #[.pointer (some ⟨g,0,none⟩),.int .i64 a1] w fun e w' => e = .returned (.bool r1) ∧ ww w0 w' g s0_0 r2 r3 ∧ Below w0.heap.size w0 w' ∧ zk w w' g none := by
 have HI0 := qq.mk hI
 have HK := qq.mk (zk.refl w g none)
 have HL := qq.mk hB.size
 clear hI
 have HW0 := qq.mk hB.size
 have HB := qq.mk hB
 clear hB
 have H : ((qkx.f s0_0 s0_1 s0_2 a1).bind fun bt101 => (some ((bt101.1 == 0),bt101.2.1,bt101.2.2))) = some (r1,r2,r3) := h
 clear h
 replace H := Option.bind_eq_some_iff.mp H
 obtain ⟨⟨t101,t102,t103⟩,A30,H⟩ := H
 replace H : (some ((t101 == 0),t102,t103)) = some (r1,r2,r3) := H
 have A3 := qq.mk A30
 clear A30
 simp only [Option.some.injEq,Prod.mk.injEq] at H
 obtain ⟨rfl,rfl,rfl⟩ := H
 go_enter Try.func90,Try.ntmps90
 go_wp2_with (first | ((with_reducible refine kj (f := 88) rfl ?_);refine goesL_ (some 7) rfl rfl Try.func88 (by kernel_rfl) rfl #[.pointer (some ⟨g,0,none⟩),.int .i64 a1] rfl (by (try simp only [List.map_toArray,List.map_cons,List.map_nil]);first | done | rfl | (simp only [List.length_drop,List.length_take];rfl)) ?_;(with_reducible refine (qkx.calls g s0_0 s0_1 s0_2 a1 t101 t102 t103 w0 _ ?side1 ?side2 A3.out).mono ?_);(case side1 => repeat (first | (with_reducible first | exact HI0.out | apply ww.alloc | apply ww.drewN | apply ww.drew | apply ww.set_1 | apply ww.set_2) | exact HI0.out));(case side2 => repeat (first | (with_reducible first | exact HB.out | apply qj | apply qz | apply qk | refine qx ?_ (ww.ge HI0.out)) | exact HB.out));rintro e w4 ⟨rfl,hi,hb,hk⟩;refine ⟨_,rfl,?_⟩;have n0_ := qq.mk (zk.trans (by repeat (first | (with_reducible first | exact HK.out | apply zk.set_ | apply jj | apply jv | apply jk) | exact HK.out)) hk (.inl rfl));have n1_ := qq.mk (hb);have n2_ := qq.mk (hi);clear HK;clear HB;clear HI0;have HK := n0_;have HB := n1_;have HI0 := n2_;clear n0_ n1_ n2_;(try clear hb);(try clear hb2);(try clear hk);(try clear hi)))
 go_ret
 exact ⟨by first | rfl | (simp [*,kz,jx] <;> rfl),by repeat (first | (with_reducible first | exact HI0.out | apply ww.alloc | apply ww.drewN | apply ww.drew | apply ww.set_1 | apply ww.set_2) | exact HI0.out),by repeat (first | (with_reducible first | exact HB.out | apply qj | apply qz | apply qk | refine qx ?_ (ww.ge HI0.out)) | exact HB.out),by repeat (first | (with_reducible first | exact HK.out | apply zk.set_ | apply jj | apply jv | apply jk) | exact HK.out)⟩
def qkq.l0 : Nat → List Int → Int → List Int → Int → Int → Option (List Int × Int × Int)
 | 0,_,_,_,_,_ => none
 | k + 1,x5,x6,x1000,x1001,x1002 => if x6 > 0 then ((qkj.f x1000 x1001 x1002).bind fun bt104 => (if x5.length < 140737488355328 then (qkq.l0 k (x5 ++ [(bt104.1) % 256]) (wrap64 (x6 - 1)) x1000 bt104.2.1 bt104.2.2) else (none))) else (some (x5,x1001,x1002))
def qkq.f (k : Nat) (s0_0 : List Int) (s0_1 : Int) (s0_2 : Int) (a1 : Int) : Option (List Int × Int × Int) := (qkx.f s0_0 s0_1 s0_2 a1).bind fun bt101 => (qkq.l0 k ([] : List Int) bt101.1 s0_0 bt101.2.1 bt101.2.2)
set_option maxHeartbeats 8000000 in
set_option maxRecDepth 100000 in
theorem qkq.calls (k : Nat) (g : Nat) (s0_0 : List Int) (s0_1 : Int) (s0_2 : Int) (a1 : Int) (r1 : List Int) (r2 : Int) (r3 : Int) (w0 w : World) (hI : ww w0 w g s0_0 s0_1 s0_2) (hB : Below w0.heap.size w0 w) (h : qkq.f k s0_0 s0_1 s0_2 a1 = some (r1,r2,r3)) :
  Calls Try.prog 94 #[.pointer (some ⟨g,0,none⟩),.int .i64 a1] w fun e w' => ∃ v0_ : Value,e = .returned (v0_) ∧ Kd.R (Kd.int .u8) 5 w' w.heap.size (fun _ => True) v0_ r1 ∧ ww w0 w' g s0_0 r2 r3 ∧ Below w0.heap.size w0 w' ∧ zk w w' g none := by
 have HI0 := qq.mk hI
 have HK := qq.mk (zk.refl w g none)
 have HL := qq.mk hB.size
 clear hI
 have HW0 := qq.mk hB.size
 have HB := qq.mk hB
 clear hB
 have H : ((qkx.f s0_0 s0_1 s0_2 a1).bind fun bt101 => (qkq.l0 k ([] : List Int) bt101.1 s0_0 bt101.2.1 bt101.2.2)) = some (r1,r2,r3) := h
 clear h
 replace H := Option.bind_eq_some_iff.mp H
 obtain ⟨⟨t101,t102,t103⟩,A30,H⟩ := H
 replace H : (qkq.l0 k ([] : List Int) t101 s0_0 t102 t103) = some (r1,r2,r3) := H
 have A3 := qq.mk A30
 clear A30
 have H' := qq.mk H
 clear H
 go_enter Try.func94,Try.ntmps94
 go_wp2_with (first | ((with_reducible refine kj (f := 88) rfl ?_);refine goesL_ (some 9) rfl rfl Try.func88 (by kernel_rfl) rfl #[.pointer (some ⟨g,0,none⟩),.int .i64 a1] rfl (by (try simp only [List.map_toArray,List.map_cons,List.map_nil]);first | done | rfl | (simp only [List.length_drop,List.length_take];rfl)) ?_;(with_reducible refine (qkx.calls g s0_0 s0_1 s0_2 a1 t101 t102 t103 w0 _ ?side1 ?side2 A3.out).mono ?_);(case side1 => repeat (first | (with_reducible first | exact HI0.out | apply ww.alloc | apply ww.drewN | apply ww.drew | apply ww.set_1 | apply ww.set_2) | exact HI0.out));(case side2 => repeat (first | (with_reducible first | exact HB.out | apply qj | apply qz | apply qk | refine qx ?_ (ww.ge HI0.out)) | exact HB.out));rintro e w4 ⟨rfl,hi,hb,hk⟩;refine ⟨_,rfl,?_⟩;have n0_ := qq.mk (zk.trans (by repeat (first | (with_reducible first | exact HK.out | apply zk.set_ | apply jj | apply jv | apply jk) | exact HK.out)) hk (.inl rfl));have n1_ := qq.mk (hb);have n2_ := qq.mk (hi);clear HK;clear HB;clear HI0;have HK := n0_;have HB := n1_;have HI0 := n2_;clear n0_ n1_ n2_;(try clear hb);(try clear hb2);(try clear hk);(try clear hi)))
 go_loopg [5,6] k (fun kq v5 v6 w' => ∃ (x5_1 : List Int) (x6_1 : Int) (x1001_1 : Int) (x1002_1 : Int),v6 = .int .i64 x6_1 ∧ qq (qkq.l0 kq x5_1 x6_1 s0_0 x1001_1 x1002_1 = some (r1,r2,r3)) ∧ qq (kq ≤ k) ∧ qq (Kd.R (Kd.int .u8) 5 w' w.heap.size (fun _ => True) v5 x5_1) ∧ qq (ww w0 w' g s0_0 x1001_1 x1002_1) ∧ qq (zk w w' g none) ∧ qq (Below w0.heap.size w0 w'))
 case atStart => exact ⟨(([] : List Int)),(t101),(t102),(t103),(by first | rfl | (simp;done) | (simp [*];done)),H',⟨Nat.le_refl _⟩,⟨by first | exact Kd.R_nil _ _ _ _ _ | exact Kd.N_nil _ _ _ _ _ | exact Kd.V_nil _ _ _ _ _ | exact Kd.Q_nil _ _ _ _ _ | exact Kd.S_nil _ _ _ _ _⟩,⟨by repeat (first | (with_reducible first | exact HI0.out | apply ww.alloc | apply ww.drewN | apply ww.drew | apply ww.set_1 | apply ww.set_2) | exact HI0.out)⟩,⟨by repeat (first | (with_reducible first | exact HK.out | apply zk.set_ | apply jj | apply jv | apply jk) | exact HK.out)⟩,⟨by repeat (first | (with_reducible first | exact HB.out | apply qj | apply qz | apply qk | refine qx ?_ (ww.ge HI0.out)) | exact HB.out)⟩⟩
 case round =>
  clear H'
  try clear p2
  obtain ⟨x5_1,x6_1,x1001_1,x1002_1,rfl,HA,HK1,HO_5,HI0,HK,HB⟩ := hrel
  cases gk with
  | zero => exact absurd HA.out (by simp [qkq.l0])
  | succ k1 =>
   have H := HA.out
   clear HA
   simp only [qkq.l0] at H
   by_cases c5 : x6_1 > 0
   ·rw [if_pos c5] at H
    have c5b0 : decide (0 < x6_1) = true := decide_eq_true c5
    clear c5
    replace H := Option.bind_eq_some_iff.mp H
    obtain ⟨⟨t104,t105,t106⟩,A60,H⟩ := H
    replace H : (if x5_1.length < 140737488355328 then (qkq.l0 k1 (x5_1 ++ [(t104) % 256]) (wrap64 (x6_1 - 1)) s0_0 t105 t106) else (none)) = some (r1,r2,r3) := H
    have A6 := qq.mk A60
    clear A60
    by_cases c7 : x5_1.length < 140737488355328
    ·rw [if_pos c7] at H
     have LMc7 := qq.mk c7
     clear c7
     obtain ⟨y107,hy107⟩ : ∃ y_ : List Int,y_ = (x5_1 ++ [(t104) % 256]) := ⟨_,rfl⟩
     replace H : (qkq.l0 k1 y107 (wrap64 (x6_1 - 1)) s0_0 t105 t106) = some (r1,r2,r3) := by first | (rw [hy107];with_reducible exact H) | (have H2_ := (Option.bind_some _ _).symm.trans H;rw [hy107];with_reducible exact H2_) | (have H2_ := (Option.bind_some _ _).symm.trans H;with_reducible exact H2_) | with_reducible exact H | (rw [hy107];exact H) | exact H
     have Ny107 := qq.mk hy107
     clear hy107
     have H' := qq.mk H
     clear H
     go_wp2_with (first | ((with_reducible refine kj (f := 130) rfl ?_);refine goesL_ (some 16) rfl rfl Try.func130 (by kernel_rfl) rfl #[.pointer (some ⟨g,0,none⟩)] rfl (by (try simp only [List.map_toArray,List.map_cons,List.map_nil]);first | done | rfl | (simp only [List.length_drop,List.length_take];rfl)) ?_;(with_reducible refine (qkj.calls g s0_0 x1001_1 x1002_1 t104 t105 t106 w0 _ ?side1 ?side2 A6.out).mono ?_);(case side1 => repeat (first | (with_reducible first | exact HI0.out | apply ww.alloc | apply ww.drewN | apply ww.drew | apply ww.set_1 | apply ww.set_2) | exact HI0.out));(case side2 => repeat (first | (with_reducible first | exact HB.out | apply qj | apply qz | apply qk | refine qx ?_ (ww.ge HI0.out)) | exact HB.out));rintro e w8 ⟨rfl,hi,hb,hk⟩;refine ⟨_,rfl,?_⟩;have n0_ := qq.mk (Kd.R_mono (Kd.R_keep (ww.apart (show ww w0 _ g s0_0 x1001_1 x1002_1 from by repeat (first | (with_reducible first | exact HI0.out | apply ww.alloc | apply ww.drewN | apply ww.drew | apply ww.set_1 | apply ww.set_2) | exact HI0.out)) (by (with_reducible repeat (first | apply Kd.jq | apply Kd.zx | apply Kd.jz));exact HO_5.out) (by decide)) hk (fun _ h => h.2)) (fun _ h => h.1));have n1_ := qq.mk (zk.trans (by repeat (first | (with_reducible first | exact HK.out | apply zk.set_ | apply jj | apply jv | apply jk) | exact HK.out)) hk (.inl rfl));have n2_ := qq.mk (hb);have n3_ := qq.mk (hi);clear HO_5;clear HK;clear HB;clear HI0;have HO_5 := n0_;have HK := n1_;have HB := n2_;have HI0 := n3_;clear n0_ n1_ n2_ n3_;(try clear hb);(try clear hb2);(try clear hk);(try clear hi)) | ((with_reducible refine gate_builtin (b := .append) (xs := #[.tmp 14,.tmp 18]) rfl ?_);at_builtin;refine Kd.R_append (Kd.int .u8) w.heap.size rfl (.tmp 14) (.tmp 18) 26 5 (.int .u8 0) 1 rfl Try.underlying26 info5 rfl (by decide) (by omega) u5 x5_1 ((t104) % 256) [.int .u8 ((t104) % 256)] (fun _ => True) (fun _ => False) rfl rfl ?aP (fun _ hk => hk.elim) ?aF ?aO (Below.refl _ _) ?aS ?aL ?_;(case aP => exact rfl);(case aF => exact (fun _ _ => trivial));(case aO => exact (by (with_reducible repeat (first | apply Kd.jq | apply Kd.zx | apply Kd.jz));exact HO_5.out));(case aS => exact (keep_size (w := w) (g := g) (row := none) (by repeat (first | (with_reducible first | exact HK.out | apply zk.set_ | apply jj | apply jv | apply jk) | exact HK.out))));(case aL => have := LMc7.out;omega);intro v108 w9 ho hb hg hat;rw [← Ny107.out] at ho;have n0_ := qq.mk (ww.grown (by repeat (first | (with_reducible first | exact HI0.out | apply ww.alloc | apply ww.drewN | apply ww.drew | apply ww.set_1 | apply ww.set_2) | exact HI0.out)) hg (ww.own_ne HI0.out HO_5.out (by decide)));have n1_ := qq.mk (below_weaken (by repeat (first | (with_reducible first | exact HB.out | apply qj | apply qz | apply qk | refine qx ?_ (ww.ge HI0.out)) | exact HB.out)) HL.out hb);have n2_ := qq.mk (zk.trans (by repeat (first | (with_reducible first | exact HK.out | apply zk.set_ | apply jj | apply jv | apply jk) | exact HK.out)) (zk.of_grown hg g) (Kd.R_base2 HO_5.out));have n3_ := qq.mk (ho);clear HI0;clear HB;clear HK;clear HO_5;have HI0 := n0_;have HB := n1_;have HK := n2_;have HO109 := n3_;clear n0_ n1_ n2_ n3_;clear ho hb hg hat))
     go_roundg k1
     case measure => have := HK1.out;omega
     case rel => exact ⟨(y107),(wrap64 (x6_1 - 1)),(t105),(t106),(by first | rfl | (simp;done) | (simp [*];done)),H',⟨by have := HK1.out;omega⟩,⟨by (with_reducible repeat (first | apply Kd.jq | apply Kd.zx | apply Kd.jz));exact HO109.out⟩,⟨by repeat (first | (with_reducible first | exact HI0.out | apply ww.alloc | apply ww.drewN | apply ww.drew | apply ww.set_1 | apply ww.set_2) | exact HI0.out)⟩,⟨by repeat (first | (with_reducible first | exact HK.out | apply zk.set_ | apply jj | apply jv | apply jk) | exact HK.out)⟩,⟨by repeat (first | (with_reducible first | exact HB.out | apply qj | apply qz | apply qk | refine qx ?_ (ww.ge HI0.out)) | exact HB.out)⟩⟩
    ·rw [if_neg c7] at H
     exact absurd H (by simp)
   ·rw [if_neg c5] at H
    have c5b0 : decide (0 < x6_1) = false := decide_eq_false c5
    clear c5
    simp only [Option.some.injEq,Prod.mk.injEq] at H
    obtain ⟨rfl,rfl,rfl⟩ := H
    go_wp2
    go_ret
    exact ⟨_,by first | rfl | (simp [*,kz,jx] <;> rfl),by (with_reducible repeat (first | apply Kd.jq | apply Kd.zx | apply Kd.jz));exact HO_5.out,by repeat (first | (with_reducible first | exact HI0.out | apply ww.alloc | apply ww.drewN | apply ww.drew | apply ww.set_1 | apply ww.set_2) | exact HI0.out),by repeat (first | (with_reducible first | exact HB.out | apply qj | apply qz | apply qk | refine qx ?_ (ww.ge HI0.out)) | exact HB.out),by repeat (first | (with_reducible first | exact HK.out | apply zk.set_ | apply jj | apply jv | apply jk) | exact HK.out)⟩
def qvq.f (s0_0 : List Int) (s0_1 : Int) (s0_2 : Int) (a1 : Int) : Option (Int × Int × Int) := (qkv.f s0_0 s0_1 s0_2 8).bind fun bt101 => (if bt101.1 = true then ((qkx.f s0_0 bt101.2.1 bt101.2.2 (wrap64 (a1 - 1))).bind fun bt104 => (some (wrap64 (1 + bt104.1),bt104.2.1,bt104.2.2))) else (some (0,bt101.2.1,bt101.2.2)))
set_option maxHeartbeats 8000000 in
set_option maxRecDepth 100000 in
theorem qvq.calls (g : Nat) (s0_0 : List Int) (s0_1 : Int) (s0_2 : Int) (a1 : Int) (r1 : Int) (r2 : Int) (r3 : Int) (w0 w : World) (hI : ww w0 w g s0_0 s0_1 s0_2) (hB : Below w0.heap.size w0 w) (h : qvq.f s0_0 s0_1 s0_2 a1 = some (r1,r2,r3)) :
  Calls Try.prog 95 #[.pointer (some ⟨g,0,none⟩),.int .i64 a1] w fun e w' => e = .returned (.int .i64 r1) ∧ ww w0 w' g s0_0 r2 r3 ∧ Below w0.heap.size w0 w' ∧ zk w w' g none := by
 have HI0 := qq.mk hI
 have HK := qq.mk (zk.refl w g none)
 have HL := qq.mk hB.size
 clear hI
 have HW0 := qq.mk hB.size
 have HB := qq.mk hB
 clear hB
 have H : ((qkv.f s0_0 s0_1 s0_2 8).bind fun bt101 => (if bt101.1 = true then ((qkx.f s0_0 bt101.2.1 bt101.2.2 (wrap64 (a1 - 1))).bind fun bt104 => (some (wrap64 (1 + bt104.1),bt104.2.1,bt104.2.2))) else (some (0,bt101.2.1,bt101.2.2)))) = some (r1,r2,r3) := h
 clear h
 replace H := Option.bind_eq_some_iff.mp H
 obtain ⟨⟨t101,t102,t103⟩,A30,H⟩ := H
 replace H : (if t101 = true then ((qkx.f s0_0 t102 t103 (wrap64 (a1 - 1))).bind fun bt104 => (some (wrap64 (1 + bt104.1),bt104.2.1,bt104.2.2))) else (some (0,t102,t103))) = some (r1,r2,r3) := H
 have A3 := qq.mk A30
 clear A30
 by_cases c4 : t101 = true
 ·subst c4
  have H1 : ((qkx.f s0_0 t102 t103 (wrap64 (a1 - 1))).bind fun bt104 => (some (wrap64 (1 + bt104.1),bt104.2.1,bt104.2.2))) = some (r1,r2,r3) := by rw [if_pos rfl] at H;exact H
  clear H
  have H := H1
  clear H1
  replace H := Option.bind_eq_some_iff.mp H
  obtain ⟨⟨t104,t105,t106⟩,A50,H⟩ := H
  replace H : (some (wrap64 (1 + t104),t105,t106)) = some (r1,r2,r3) := H
  have A5 := qq.mk A50
  clear A50
  simp only [Option.some.injEq,Prod.mk.injEq] at H
  obtain ⟨rfl,rfl,rfl⟩ := H
  go_enter Try.func95,Try.ntmps95
  go_wp2_with (first | ((with_reducible refine kj (f := 90) rfl ?_);refine goesL_ (some 6) rfl rfl Try.func90 (by kernel_rfl) rfl #[.pointer (some ⟨g,0,none⟩),.int .i64 8] rfl (by (try simp only [List.map_toArray,List.map_cons,List.map_nil]);first | done | rfl | (simp only [List.length_drop,List.length_take];rfl)) ?_;(with_reducible refine (qkv.calls g s0_0 s0_1 s0_2 8 true t102 t103 w0 _ ?side1 ?side2 A3.out).mono ?_);(case side1 => repeat (first | (with_reducible first | exact HI0.out | apply ww.alloc | apply ww.drewN | apply ww.drew | apply ww.set_1 | apply ww.set_2) | exact HI0.out));(case side2 => repeat (first | (with_reducible first | exact HB.out | apply qj | apply qz | apply qk | refine qx ?_ (ww.ge HI0.out)) | exact HB.out));rintro e w6 ⟨rfl,hi,hb,hk⟩;refine ⟨_,rfl,?_⟩;have n0_ := qq.mk (zk.trans (by repeat (first | (with_reducible first | exact HK.out | apply zk.set_ | apply jj | apply jv | apply jk) | exact HK.out)) hk (.inl rfl));have n1_ := qq.mk (hb);have n2_ := qq.mk (hi);clear HK;clear HB;clear HI0;have HK := n0_;have HB := n1_;have HI0 := n2_;clear n0_ n1_ n2_;(try clear hb);(try clear hb2);(try clear hk);(try clear hi)) | ((with_reducible refine kj (f := 88) rfl ?_);refine goesL_ (some 11) rfl rfl Try.func88 (by kernel_rfl) rfl #[.pointer (some ⟨g,0,none⟩),.int .i64 (wrap64 (a1 - 1))] rfl (by (try simp only [List.map_toArray,List.map_cons,List.map_nil]);first | done | rfl | (simp only [List.length_drop,List.length_take];rfl)) ?_;(with_reducible refine (qkx.calls g s0_0 t102 t103 (wrap64 (a1 - 1)) t104 t105 t106 w0 _ ?side1 ?side2 A5.out).mono ?_);(case side1 => repeat (first | (with_reducible first | exact HI0.out | apply ww.alloc | apply ww.drewN | apply ww.drew | apply ww.set_1 | apply ww.set_2) | exact HI0.out));(case side2 => repeat (first | (with_reducible first | exact HB.out | apply qj | apply qz | apply qk | refine qx ?_ (ww.ge HI0.out)) | exact HB.out));rintro e w7 ⟨rfl,hi,hb,hk⟩;refine ⟨_,rfl,?_⟩;have n0_ := qq.mk (zk.trans (by repeat (first | (with_reducible first | exact HK.out | apply zk.set_ | apply jj | apply jv | apply jk) | exact HK.out)) hk (.inl rfl));have n1_ := qq.mk (hb);have n2_ := qq.mk (hi);clear HK;clear HB;clear HI0;have HK := n0_;have HB := n1_;have HI0 := n2_;clear n0_ n1_ n2_;(try clear hb);(try clear hb2);(try clear hk);(try clear hi)))
  go_ret
  exact ⟨by first | rfl | (simp [*,kz,jx] <;> rfl),by repeat (first | (with_reducible first | exact HI0.out | apply ww.alloc | apply ww.drewN | apply ww.drew | apply ww.set_1 | apply ww.set_2) | exact HI0.out),by repeat (first | (with_reducible first | exact HB.out | apply qj | apply qz | apply qk | refine qx ?_ (ww.ge HI0.out)) | exact HB.out),by repeat (first | (with_reducible first | exact HK.out | apply zk.set_ | apply jj | apply jv | apply jk) | exact HK.out)⟩
 ·replace c4 := Bool.eq_false_iff.mpr c4
  subst c4
  have H1 : (some (0,t102,t103)) = some (r1,r2,r3) := by rw [if_neg (show ¬ (false = true) by decide)] at H;exact H
  clear H
  have H := H1
  clear H1
  simp only [Option.some.injEq,Prod.mk.injEq] at H
  obtain ⟨rfl,rfl,rfl⟩ := H
  go_enter Try.func95,Try.ntmps95
  go_wp2_with (first | ((with_reducible refine kj (f := 90) rfl ?_);refine goesL_ (some 6) rfl rfl Try.func90 (by kernel_rfl) rfl #[.pointer (some ⟨g,0,none⟩),.int .i64 8] rfl (by (try simp only [List.map_toArray,List.map_cons,List.map_nil]);first | done | rfl | (simp only [List.length_drop,List.length_take];rfl)) ?_;(with_reducible refine (qkv.calls g s0_0 s0_1 s0_2 8 false t102 t103 w0 _ ?side1 ?side2 A3.out).mono ?_);(case side1 => repeat (first | (with_reducible first | exact HI0.out | apply ww.alloc | apply ww.drewN | apply ww.drew | apply ww.set_1 | apply ww.set_2) | exact HI0.out));(case side2 => repeat (first | (with_reducible first | exact HB.out | apply qj | apply qz | apply qk | refine qx ?_ (ww.ge HI0.out)) | exact HB.out));rintro e w8 ⟨rfl,hi,hb,hk⟩;refine ⟨_,rfl,?_⟩;have n0_ := qq.mk (zk.trans (by repeat (first | (with_reducible first | exact HK.out | apply zk.set_ | apply jj | apply jv | apply jk) | exact HK.out)) hk (.inl rfl));have n1_ := qq.mk (hb);have n2_ := qq.mk (hi);clear HK;clear HB;clear HI0;have HK := n0_;have HB := n1_;have HI0 := n2_;clear n0_ n1_ n2_;(try clear hb);(try clear hb2);(try clear hk);(try clear hi)))
  go_ret
  exact ⟨by first | rfl | (simp [*,kz,jx] <;> rfl),by repeat (first | (with_reducible first | exact HI0.out | apply ww.alloc | apply ww.drewN | apply ww.drew | apply ww.set_1 | apply ww.set_2) | exact HI0.out),by repeat (first | (with_reducible first | exact HB.out | apply qj | apply qz | apply qk | refine qx ?_ (ww.ge HI0.out)) | exact HB.out),by repeat (first | (with_reducible first | exact HK.out | apply zk.set_ | apply jj | apply jv | apply jk) | exact HK.out)⟩
def qzv.j0 : Nat → ByteArray → List Int → Int → Int → Option (ByteArray × List Int × Int)
 | 0,_,_,_,_ => none
 | k + 1,x6,x105000,x105001,x105002 => (qkq.f k x105000 x105001 x105002 8).bind fun bt114 => ((qkv.f x105000 bt114.2.1 bt114.2.2 20).bind fun bt119 => (if bt119.1 = true then ((qkz.f k x105000 bt119.2.1 bt119.2.2 64).bind fun bt122 => ((bytesOfS.f bt122.1).bind fun t125 => ((qkx.f x105000 bt122.2.1 bt122.2.2 5).bind fun bt128 => ((some (([wrap64 (1 + bt128.1),0,1,1000,1001] : List Int) : List Int)).bind fun y131 => ((qvq.f x105000 bt128.2.1 bt128.2.2 5).bind fun bt134 => (if 0 ≤ bt134.1 then (if bt134.1 < (y131.length : Int) then (some (x6,t125,rd y131 bt134.1)) else (none)) else (none))))))) else ((qkx.f x105000 bt119.2.1 bt119.2.2 5).bind fun bt138 => ((some (([wrap64 (1 + bt138.1),0,1,1000,1001] : List Int) : List Int)).bind fun y141 => ((qvq.f x105000 bt138.2.1 bt138.2.2 5).bind fun bt144 => (if 0 ≤ bt144.1 then (if bt144.1 < (y141.length : Int) then (some (x6,bt114.1,rd y141 bt144.1)) else (none)) else (none)))))))
def qzv.f (k : Nat) (l0 : List Int) : Option (ByteArray × List Int × Int) := (newCur.f l0 0 0).bind fun bt101 => ((qkw.f bt101.1 bt101.2.1 bt101.2.2).bind fun bt105 => ((qkv.f bt101.1 bt105.2.1 bt105.2.2 20).bind fun bt108 => (if bt108.1 = true then ((qkz.f k bt101.1 bt108.2.1 bt108.2.2 64).bind fun bt111 => (qzv.j0 k bt111.1 bt101.1 bt111.2.1 bt111.2.2)) else (qzv.j0 k bt105.1 bt101.1 bt108.2.1 bt108.2.2))))
def qzv.T8 : Bool × List (List Nat × List Nat) := (true,[([],[]),([],[]),([],[]),([2],[2]),([3],[3]),([4],[4]),([],[]),([6,3],[6]),([5,7],[5,7]),([8],[8]),([0,7,0],[0]),([1,10,0,1,10],[1]),([9,11,0,1,2,3,4,5,6,7,8,9,10,11],[9])])
def qzv.B8 : List Nat := [0,0,0,4,12,28,0,76,252,508,205,1231,4095]
theorem qzv.tab8 : rtab .any (opsOf Try.f43 8) = qzv.T8 := by kernel_rfl
theorem qzv.bits8 : waitsOk qzv.T8.2 qzv.B8 = true := by kernel_rfl
set_option maxHeartbeats 8000000 in
set_option maxRecDepth 100000 in
theorem qzv.calls (k : Nat) (A0 : Option Addr) (c0 : Nat) (l0 : List Int) (r1 : ByteArray) (r2 : List Int) (r3 : Int) (w : World) (hr0 : Kd.C (Kd.int .u8) w A0 l0.length l0) (hc0 : l0.length ≤ c0) (h : qzv.f k l0 = some (r1,r2,r3)) :
  Calls Try.prog 43 #[.slice A0 l0.length c0] w fun e w' => ∃ v1_ : Value,e = .returned (.tuple #[.string r1,v1_,.int .i64 r3]) ∧ Kd.V (Kd.int .u8) 5 w' w.heap.size (fun k_ => (w.heap.size ≤ k_)) v1_ r2 ∧ Below w.heap.size w w' := by
 have hu119 := Try.underlying119
 have HR0 := qq.mk hr0
 have HC0 := qq.mk hc0
 clear hr0 hc0
 have HB := qq.mk (Below.refl w.heap.size w)
 have H : ((newCur.f l0 0 0).bind fun bt101 => ((qkw.f bt101.1 bt101.2.1 bt101.2.2).bind fun bt105 => ((qkv.f bt101.1 bt105.2.1 bt105.2.2 20).bind fun bt108 => (if bt108.1 = true then ((qkz.f k bt101.1 bt108.2.1 bt108.2.2 64).bind fun bt111 => (qzv.j0 k bt111.1 bt101.1 bt111.2.1 bt111.2.2)) else (qzv.j0 k bt105.1 bt101.1 bt108.2.1 bt108.2.2))))) = some (r1,r2,r3) := h
 clear h
 replace H := Option.bind_eq_some_iff.mp H
 obtain ⟨⟨t101,t102,t103⟩,A20,H⟩ := H
 replace H : ((qkw.f t101 t102 t103).bind fun bt105 => ((qkv.f t101 bt105.2.1 bt105.2.2 20).bind fun bt108 => (if bt108.1 = true then ((qkz.f k t101 bt108.2.1 bt108.2.2 64).bind fun bt111 => (qzv.j0 k bt111.1 t101 bt111.2.1 bt111.2.2)) else (qzv.j0 k bt105.1 t101 bt108.2.1 bt108.2.2)))) = some (r1,r2,r3) := H
 have A2 := qq.mk A20
 clear A20
 replace H := Option.bind_eq_some_iff.mp H
 obtain ⟨⟨t105,t106,t107⟩,A30,H⟩ := H
 replace H : ((qkv.f t101 t106 t107 20).bind fun bt108 => (if bt108.1 = true then ((qkz.f k t101 bt108.2.1 bt108.2.2 64).bind fun bt111 => (qzv.j0 k bt111.1 t101 bt111.2.1 bt111.2.2)) else (qzv.j0 k t105 t101 bt108.2.1 bt108.2.2))) = some (r1,r2,r3) := H
 have A3 := qq.mk A30
 clear A30
 replace H := Option.bind_eq_some_iff.mp H
 obtain ⟨⟨t108,t109,t110⟩,A40,H⟩ := H
 replace H : (if t108 = true then ((qkz.f k t101 t109 t110 64).bind fun bt111 => (qzv.j0 k bt111.1 t101 bt111.2.1 bt111.2.2)) else (qzv.j0 k t105 t101 t109 t110)) = some (r1,r2,r3) := H
 have A4 := qq.mk A40
 clear A40
 have HC5 := qq.mk H
 clear H
 go_enter Try.func43,Try.ntmps43
 go_upto_if 14 with (first | ((with_reducible refine gate_box (t := 119) rfl ?_);refine boxGoesL_ (some 10) rfl rfl (t := 119) (cs := #[.slice A0 l0.length c0,.int .i64 0,.int .u64 0]) (by first | (go_simp;done) | (go_simp;rfl)) ?_;(with_reducible refine (newCur.calls _ _ l0 0 0 t101 t102 t103 w _ ?side1 ?side2 ?side3 A2.out).mono ?_);(case side1 => repeat (first | (with_reducible first | exact HB.out | apply qj | apply qz | apply qk) | exact HB.out));(case side2 => exact HR0.out);(case side3 => exact HC0.out);rintro e w6 ⟨g104,rfl,hi,hb,hb2⟩;refine ⟨_,rfl,?_⟩;have n0_ := qq.mk (hb);have n1_ := qq.mk (hi);clear HB;have HB := n0_;have HI104 := n1_;clear n0_ n1_;(try clear hb);(try clear hb2);(try clear hk);(try clear hi)) | ((with_reducible refine kj (f := 101) rfl ?_);refine goesL_ (some 12) rfl rfl Try.func101 (by kernel_rfl) rfl #[.pointer (some ⟨g104,0,none⟩)] rfl (by (try simp only [List.map_toArray,List.map_cons,List.map_nil]);first | done | rfl | (simp only [List.length_drop,List.length_take];rfl)) ?_;(with_reducible refine (qkw.calls g104 t101 t102 t103 t105 t106 t107 w _ ?side1 ?side2 A3.out).mono ?_);(case side1 => repeat (first | (with_reducible first | exact HI104.out | apply ww.alloc | apply ww.drewN | apply ww.drew | apply ww.set_1 | apply ww.set_2) | exact HI104.out));(case side2 => repeat (first | (with_reducible first | exact HB.out | apply qj | apply qz | apply qk | refine qx ?_ (ww.ge HI104.out)) | exact HB.out));rintro e w7 ⟨rfl,hi,hb,hk⟩;refine ⟨_,rfl,?_⟩;have n0_ := qq.mk (hb);have n1_ := qq.mk (hi);clear HB;clear HI104;have HB := n0_;have HI104 := n1_;clear n0_ n1_;(try clear hb);(try clear hb2);(try clear hk);(try clear hi)) | ((with_reducible refine kj (f := 90) rfl ?_);refine goesL_ (some 14) rfl rfl Try.func90 (by kernel_rfl) rfl #[.pointer (some ⟨g104,0,none⟩),.int .i64 20] rfl (by (try simp only [List.map_toArray,List.map_cons,List.map_nil]);first | done | rfl | (simp only [List.length_drop,List.length_take];rfl)) ?_;(with_reducible refine (qkv.calls g104 t101 t106 t107 20 t108 t109 t110 w _ ?side1 ?side2 A4.out).mono ?_);(case side1 => repeat (first | (with_reducible first | exact HI104.out | apply ww.alloc | apply ww.drewN | apply ww.drew | apply ww.set_1 | apply ww.set_2) | exact HI104.out));(case side2 => repeat (first | (with_reducible first | exact HB.out | apply qj | apply qz | apply qk | refine qx ?_ (ww.ge HI104.out)) | exact HB.out));rintro e w8 ⟨rfl,hi,hb,hk⟩;refine ⟨_,rfl,?_⟩;have n0_ := qq.mk (hb);have n1_ := qq.mk (hi);clear HB;clear HI104;have HB := n0_;have HI104 := n1_;clear n0_ n1_;(try clear hb);(try clear hb2);(try clear hk);(try clear hi)))
 (try simp only [Act.put,List.setIfInBounds_toArray,List.set_cons_zero,List.set_cons_succ])
 go_cut [6] (fun v6 wc => ∃ (kq : Nat) (x6_4 : ByteArray) (x105001_4 : Int) (x105002_4 : Int),v6 = .string x6_4 ∧ qq (qzv.j0 kq x6_4 t101 x105001_4 x105002_4 = some (r1,r2,r3)) ∧ qq (kq ≤ k) ∧ qq (ww w wc g104 t101 x105001_4 x105002_4) ∧ qq (Below w.heap.size w wc))
 case first =>
  have H := HC5.out
  clear HC5
  by_cases c9 : t108 = true
  ·subst c9
   have H1 : ((qkz.f k t101 t109 t110 64).bind fun bt111 => (qzv.j0 k bt111.1 t101 bt111.2.1 bt111.2.2)) = some (r1,r2,r3) := by rw [if_pos rfl] at H;exact H
   clear H
   have H := H1
   clear H1
   replace H := Option.bind_eq_some_iff.mp H
   obtain ⟨⟨t111,t112,t113⟩,A100,H⟩ := H
   replace H : (qzv.j0 k t111 t101 t112 t113) = some (r1,r2,r3) := H
   have A10 := qq.mk A100
   clear A100
   have H' := qq.mk H
   clear H
   go_wp2_with (first | ((with_reducible refine kj (f := 102) rfl ?_);refine goesL_ (some 16) rfl rfl Try.func102 (by kernel_rfl) rfl #[.pointer (some ⟨g104,0,none⟩),.int .i64 64] rfl (by (try simp only [List.map_toArray,List.map_cons,List.map_nil]);first | done | rfl | (simp only [List.length_drop,List.length_take];rfl)) ?_;(with_reducible refine (qkz.calls k g104 t101 t109 t110 64 t111 t112 t113 w _ ?side1 ?side2 A10.out).mono ?_);(case side1 => repeat (first | (with_reducible first | exact HI104.out | apply ww.alloc | apply ww.drewN | apply ww.drew | apply ww.set_1 | apply ww.set_2) | exact HI104.out));(case side2 => repeat (first | (with_reducible first | exact HB.out | apply qj | apply qz | apply qk | refine qx ?_ (ww.ge HI104.out)) | exact HB.out));rintro e w11 ⟨rfl,hi,hb,hk⟩;refine ⟨_,rfl,?_⟩;have n0_ := qq.mk (hb);have n1_ := qq.mk (hi);clear HB;clear HI104;have HB := n0_;have HI104 := n1_;clear n0_ n1_;(try clear hb);(try clear hb2);(try clear hk);(try clear hi)))
   go_meet
   case rel => exact ⟨_,(t111),(t112),(t113),(by first | rfl | (simp;done) | (simp [*];done)),H',⟨by first | omega | exact Nat.le_refl _⟩,⟨by repeat (first | (with_reducible first | exact HI104.out | apply ww.alloc | apply ww.drewN | apply ww.drew | apply ww.set_1 | apply ww.set_2) | exact HI104.out)⟩,⟨by repeat (first | (with_reducible first | exact HB.out | apply qj | apply qz | apply qk | refine qx ?_ (ww.ge HI104.out)) | exact HB.out)⟩⟩
  ·replace c9 := Bool.eq_false_iff.mpr c9
   subst c9
   have H1 : (qzv.j0 k t105 t101 t109 t110) = some (r1,r2,r3) := by rw [if_neg (show ¬ (false = true) by decide)] at H;exact H
   clear H
   have H := H1
   clear H1
   have H' := qq.mk H
   clear H
   go_wp2
   go_meet
   case rel => exact ⟨_,(t105),(t109),(t110),(by first | rfl | (simp;done) | (simp [*];done)),H',⟨by first | omega | exact Nat.le_refl _⟩,⟨by repeat (first | (with_reducible first | exact HI104.out | apply ww.alloc | apply ww.drewN | apply ww.drew | apply ww.set_1 | apply ww.set_2) | exact HI104.out)⟩,⟨by repeat (first | (with_reducible first | exact HB.out | apply qj | apply qz | apply qk | refine qx ?_ (ww.ge HI104.out)) | exact HB.out)⟩⟩
 case rest =>
  clear HC5
  try clear c1
  try clear p2
  try clear c4
  try clear c9
  try clear c10
  obtain ⟨kq,x6_4,x105001_4,x105002_4,rfl,HA,HJ4,HI104,HB⟩ := hcut
  cases kq with
  | zero => exact absurd HA.out (by simp [qzv.j0])
  | succ kj4 =>
   have H := HA.out
   clear HA
   simp only [qzv.j0] at H
   replace H := Option.bind_eq_some_iff.mp H
   obtain ⟨⟨t114,t117,t118⟩,A120,H⟩ := H
   replace H : ((qkv.f t101 t117 t118 20).bind fun bt119 => (if bt119.1 = true then ((qkz.f kj4 t101 bt119.2.1 bt119.2.2 64).bind fun bt122 => ((bytesOfS.f bt122.1).bind fun t125 => ((qkx.f t101 bt122.2.1 bt122.2.2 5).bind fun bt128 => ((some (([wrap64 (1 + bt128.1),0,1,1000,1001] : List Int) : List Int)).bind fun y131 => ((qvq.f t101 bt128.2.1 bt128.2.2 5).bind fun bt134 => (if 0 ≤ bt134.1 then (if bt134.1 < (y131.length : Int) then (some (x6_4,t125,rd y131 bt134.1)) else (none)) else (none))))))) else ((qkx.f t101 bt119.2.1 bt119.2.2 5).bind fun bt138 => ((some (([wrap64 (1 + bt138.1),0,1,1000,1001] : List Int) : List Int)).bind fun y141 => ((qvq.f t101 bt138.2.1 bt138.2.2 5).bind fun bt144 => (if 0 ≤ bt144.1 then (if bt144.1 < (y141.length : Int) then (some (x6_4,t114,rd y141 bt144.1)) else (none)) else (none))))))) = some (r1,r2,r3) := H
   have A12 := qq.mk A120
   clear A120
   replace H := Option.bind_eq_some_iff.mp H
   obtain ⟨⟨t119,t120,t121⟩,A130,H⟩ := H
   replace H : (if t119 = true then ((qkz.f kj4 t101 t120 t121 64).bind fun bt122 => ((bytesOfS.f bt122.1).bind fun t125 => ((qkx.f t101 bt122.2.1 bt122.2.2 5).bind fun bt128 => ((some (([wrap64 (1 + bt128.1),0,1,1000,1001] : List Int) : List Int)).bind fun y131 => ((qvq.f t101 bt128.2.1 bt128.2.2 5).bind fun bt134 => (if 0 ≤ bt134.1 then (if bt134.1 < (y131.length : Int) then (some (x6_4,t125,rd y131 bt134.1)) else (none)) else (none))))))) else ((qkx.f t101 t120 t121 5).bind fun bt138 => ((some (([wrap64 (1 + bt138.1),0,1,1000,1001] : List Int) : List Int)).bind fun y141 => ((qvq.f t101 bt138.2.1 bt138.2.2 5).bind fun bt144 => (if 0 ≤ bt144.1 then (if bt144.1 < (y141.length : Int) then (some (x6_4,t114,rd y141 bt144.1)) else (none)) else (none)))))) = some (r1,r2,r3) := H
   have A13 := qq.mk A130
   clear A130
   by_cases c14 : t119 = true
   ·subst c14
    have H1 : ((qkz.f kj4 t101 t120 t121 64).bind fun bt122 => ((bytesOfS.f bt122.1).bind fun t125 => ((qkx.f t101 bt122.2.1 bt122.2.2 5).bind fun bt128 => ((some (([wrap64 (1 + bt128.1),0,1,1000,1001] : List Int) : List Int)).bind fun y131 => ((qvq.f t101 bt128.2.1 bt128.2.2 5).bind fun bt134 => (if 0 ≤ bt134.1 then (if bt134.1 < (y131.length : Int) then (some (x6_4,t125,rd y131 bt134.1)) else (none)) else (none))))))) = some (r1,r2,r3) := by rw [if_pos rfl] at H;exact H
    clear H
    have H := H1
    clear H1
    replace H := Option.bind_eq_some_iff.mp H
    obtain ⟨⟨t122,t123,t124⟩,A150,H⟩ := H
    replace H : ((bytesOfS.f t122).bind fun t125 => ((qkx.f t101 t123 t124 5).bind fun bt128 => ((some (([wrap64 (1 + bt128.1),0,1,1000,1001] : List Int) : List Int)).bind fun y131 => ((qvq.f t101 bt128.2.1 bt128.2.2 5).bind fun bt134 => (if 0 ≤ bt134.1 then (if bt134.1 < (y131.length : Int) then (some (x6_4,t125,rd y131 bt134.1)) else (none)) else (none)))))) = some (r1,r2,r3) := H
    have A15 := qq.mk A150
    clear A150
    replace H := Option.bind_eq_some_iff.mp H
    obtain ⟨t125,A160,H⟩ := H
    replace H : ((qkx.f t101 t123 t124 5).bind fun bt128 => ((some (([wrap64 (1 + bt128.1),0,1,1000,1001] : List Int) : List Int)).bind fun y131 => ((qvq.f t101 bt128.2.1 bt128.2.2 5).bind fun bt134 => (if 0 ≤ bt134.1 then (if bt134.1 < (y131.length : Int) then (some (x6_4,t125,rd y131 bt134.1)) else (none)) else (none))))) = some (r1,r2,r3) := H
    have A16 := qq.mk A160
    clear A160
    replace H := Option.bind_eq_some_iff.mp H
    obtain ⟨⟨t128,t129,t130⟩,A170,H⟩ := H
    replace H : ((some (([wrap64 (1 + t128),0,1,1000,1001] : List Int) : List Int)).bind fun y131 => ((qvq.f t101 t129 t130 5).bind fun bt134 => (if 0 ≤ bt134.1 then (if bt134.1 < (y131.length : Int) then (some (x6_4,t125,rd y131 bt134.1)) else (none)) else (none)))) = some (r1,r2,r3) := H
    have A17 := qq.mk A170
    clear A170
    obtain ⟨y131,hy131⟩ : ∃ y_ : List Int,y_ = (([wrap64 (1 + t128),0,1,1000,1001] : List Int)) := ⟨_,rfl⟩
    replace H : ((qvq.f t101 t129 t130 5).bind fun bt134 => (if 0 ≤ bt134.1 then (if bt134.1 < (y131.length : Int) then (some (x6_4,t125,rd y131 bt134.1)) else (none)) else (none))) = some (r1,r2,r3) := by first | (rw [hy131];with_reducible exact H) | (have H2_ := (Option.bind_some _ _).symm.trans H;rw [hy131];with_reducible exact H2_) | (have H2_ := (Option.bind_some _ _).symm.trans H;with_reducible exact H2_) | with_reducible exact H | (rw [hy131];exact H) | exact H
    have Ny131 := qq.mk hy131
    clear hy131
    replace H := Option.bind_eq_some_iff.mp H
    obtain ⟨⟨t134,t135,t136⟩,A180,H⟩ := H
    replace H : (if 0 ≤ t134 then (if t134 < (y131.length : Int) then (some (x6_4,t125,rd y131 t134)) else (none)) else (none)) = some (r1,r2,r3) := H
    have A18 := qq.mk A180
    clear A180
    by_cases c19 : 0 ≤ t134
    ·rw [if_pos c19] at H
     have c19b0 : decide (0 ≤ t134) = true := decide_eq_true c19
     clear c19
     by_cases c20 : t134 < (y131.length : Int)
     ·rw [if_pos c20] at H
      have c20b0 : decide (t134 < (y131.length : Int)) = true := decide_eq_true c20
      clear c20
      simp only [Option.some.injEq,Prod.mk.injEq] at H
      obtain ⟨rfl,rfl,rfl⟩ := H
      try go_wp2_with (first | ((with_reducible refine kj (f := 94) rfl ?_);refine goesL_ (some 18) rfl rfl Try.func94 (by kernel_rfl) rfl #[.pointer (some ⟨g104,0,none⟩),.int .i64 8] rfl (by (try simp only [List.map_toArray,List.map_cons,List.map_nil]);first | done | rfl | (simp only [List.length_drop,List.length_take];rfl)) ?_;(with_reducible refine (qkq.calls kj4 g104 t101 x105001_4 x105002_4 8 t114 t117 t118 w _ ?side1 ?side2 A12.out).mono ?_);(case side1 => repeat (first | (with_reducible first | exact HI104.out | apply ww.alloc | apply ww.drewN | apply ww.drew | apply ww.set_1 | apply ww.set_2) | exact HI104.out));(case side2 => repeat (first | (with_reducible first | exact HB.out | apply qj | apply qz | apply qk | refine qx ?_ (ww.ge HI104.out)) | exact HB.out));rintro e w21 ⟨v115,rfl,ho0,hi,hb,hk⟩;refine ⟨_,rfl,?_⟩;have n0_ := qq.mk (Kd.R_lower (Kd.R_newM (M := fun k_ => (w.heap.size ≤ k_)) ho0 (zw (by repeat (first | (with_reducible first | exact HB.out | apply qj | apply qz | apply qk | refine qx ?_ (ww.ge HI104.out)) | exact HB.out))) (fun k_ h_ => h_)) (zw (by repeat (first | (with_reducible first | exact HB.out | apply qj | apply qz | apply qk | refine qx ?_ (ww.ge HI104.out)) | exact HB.out))));have n1_ := qq.mk (hb);have n2_ := qq.mk (hi);clear HB;clear HI104;have HO116 := n0_;have HB := n1_;have HI104 := n2_;clear n0_ n1_ n2_;(try clear hb);(try clear hb2);(try clear hk);(try clear hi);(try clear ho0)) | ((with_reducible refine kj (f := 90) rfl ?_);refine goesL_ (some 20) rfl rfl Try.func90 (by kernel_rfl) rfl #[.pointer (some ⟨g104,0,none⟩),.int .i64 20] rfl (by (try simp only [List.map_toArray,List.map_cons,List.map_nil]);first | done | rfl | (simp only [List.length_drop,List.length_take];rfl)) ?_;(with_reducible refine (qkv.calls g104 t101 t117 t118 20 true t120 t121 w _ ?side1 ?side2 A13.out).mono ?_);(case side1 => repeat (first | (with_reducible first | exact HI104.out | apply ww.alloc | apply ww.drewN | apply ww.drew | apply ww.set_1 | apply ww.set_2) | exact HI104.out));(case side2 => repeat (first | (with_reducible first | exact HB.out | apply qj | apply qz | apply qk | refine qx ?_ (ww.ge HI104.out)) | exact HB.out));rintro e w22 ⟨rfl,hi,hb,hk⟩;refine ⟨_,rfl,?_⟩;have n0_ := qq.mk (Kd.R_mono (Kd.R_keep (ww.apart (show ww w _ g104 t101 t117 t118 from by repeat (first | (with_reducible first | exact HI104.out | apply ww.alloc | apply ww.drewN | apply ww.drew | apply ww.set_1 | apply ww.set_2) | exact HI104.out)) (by (with_reducible repeat (first | apply Kd.jq | apply Kd.zx | apply Kd.jz));first | exact HO116.out | exact Kd.R_mono HO116.out (fun _ hk => by first | trivial | (simp_all;done) | grind)) (by decide)) hk (fun _ h => h.2)) (fun _ h => h.1));have n1_ := qq.mk (hb);have n2_ := qq.mk (hi);clear HO116;clear HB;clear HI104;have HO116 := n0_;have HB := n1_;have HI104 := n2_;clear n0_ n1_ n2_;(try clear hb);(try clear hb2);(try clear hk);(try clear hi)) | ((with_reducible refine kj (f := 102) rfl ?_);refine goesL_ (some 22) rfl rfl Try.func102 (by kernel_rfl) rfl #[.pointer (some ⟨g104,0,none⟩),.int .i64 64] rfl (by (try simp only [List.map_toArray,List.map_cons,List.map_nil]);first | done | rfl | (simp only [List.length_drop,List.length_take];rfl)) ?_;(with_reducible refine (qkz.calls kj4 g104 t101 t120 t121 64 t122 t123 t124 w _ ?side1 ?side2 A15.out).mono ?_);(case side1 => repeat (first | (with_reducible first | exact HI104.out | apply ww.alloc | apply ww.drewN | apply ww.drew | apply ww.set_1 | apply ww.set_2) | exact HI104.out));(case side2 => repeat (first | (with_reducible first | exact HB.out | apply qj | apply qz | apply qk | refine qx ?_ (ww.ge HI104.out)) | exact HB.out));rintro e w23 ⟨rfl,hi,hb,hk⟩;refine ⟨_,rfl,?_⟩;have n0_ := qq.mk (Kd.R_mono (Kd.R_keep (ww.apart (show ww w _ g104 t101 t120 t121 from by repeat (first | (with_reducible first | exact HI104.out | apply ww.alloc | apply ww.drewN | apply ww.drew | apply ww.set_1 | apply ww.set_2) | exact HI104.out)) (by (with_reducible repeat (first | apply Kd.jq | apply Kd.zx | apply Kd.jz));first | exact HO116.out | exact Kd.R_mono HO116.out (fun _ hk => by first | trivial | (simp_all;done) | grind)) (by decide)) hk (fun _ h => h.2)) (fun _ h => h.1));have n1_ := qq.mk (hb);have n2_ := qq.mk (hi);clear HO116;clear HB;clear HI104;have HO116 := n0_;have HB := n1_;have HI104 := n2_;clear n0_ n1_ n2_;(try clear hb);(try clear hb2);(try clear hk);(try clear hi)) | ((with_reducible refine gate_convert (src := 9) (dst := 26) rfl ?_);refine bytesGoesL_ (some 23) rfl rfl (s := t122) rfl rfl ?_;(with_reducible refine (bytesOfS.calls t122 t125 _ A16.out).mono ?_);rintro e w24 ⟨v126,rfl,ho0,hb⟩;refine ⟨_,rfl,?_⟩;have n0_ := qq.mk (Kd.R_below (by (with_reducible repeat (first | apply Kd.jq | apply Kd.zx | apply Kd.jz));first | exact HO116.out | exact Kd.R_mono HO116.out (fun _ hk => by first | trivial | (simp_all;done) | grind)) hb);have n1_ := qq.mk (Kd.V_lower (Kd.V_mono (ok' := fun k_ => (w.heap.size ≤ k_) ∧ some k_ ≠ (v115 : Value).ownBlock ∧ k_ ≠ g104) ho0 (fun k_ hk_ => ⟨(Nat.le_trans (zw (by repeat (first | (with_reducible first | exact HB.out | apply qj | apply qz | apply qk | refine qx ?_ (ww.ge HI104.out)) | exact HB.out))) hk_),(Kd.fresh' (Kd.R_lt (by (with_reducible repeat (first | apply Kd.jq | apply Kd.zx | apply Kd.jz));first | exact HO116.out | exact Kd.R_mono HO116.out (fun _ hk => by first | trivial | (simp_all;done) | grind))) k_ hk_),(ww.fresh (by repeat (first | (with_reducible first | exact HI104.out | apply ww.alloc | apply ww.drewN | apply ww.drew | apply ww.set_1 | apply ww.set_2) | exact HI104.out)) k_ hk_)⟩)) (zw (by repeat (first | (with_reducible first | exact HB.out | apply qj | apply qz | apply qk | refine qx ?_ (ww.ge HI104.out)) | exact HB.out))));have n2_ := qq.mk (ww.below (by repeat (first | (with_reducible first | exact HI104.out | apply ww.alloc | apply ww.drewN | apply ww.drew | apply ww.set_1 | apply ww.set_2) | exact HI104.out)) hb);have n3_ := qq.mk (zv (by repeat (first | (with_reducible first | exact HB.out | apply qj | apply qz | apply qk | refine qx ?_ (ww.ge HI104.out)) | exact HB.out)) hb);clear HO116;clear HI104;clear HB;have HO116 := n0_;have HO127 := n1_;have HI104 := n2_;have HB := n3_;clear n0_ n1_ n2_ n3_;(try clear hb);(try clear hb2);(try clear hk);(try clear hi);(try clear ho0)))
      have pi137 : (0 ≤ (t134 : Int)) = True := eq_true (of_decide_eq_true (by assumption))
      have qi137 : (t134 < (y131.length : Int)) = True := eq_true (of_decide_eq_true (by assumption))
      have n0_ := qq.mk (Kd.jz HO116.out)
      have n1_ := qq.mk (Kd.wz HO127.out)
      have n2_ := qq.mk (ww.drew HI104.out)
      have n3_ := qq.mk (qk HB.out)
      clear HO116
      clear HO127
      clear HI104
      clear HB
      have HO116 := n0_
      have HO127 := n1_
      have HI104 := n2_
      have HB := n3_
      clear n0_ n1_ n2_ n3_
      refine start_ (n := 13) (S := fun w' => True) (ds := []) #[false,false,false,false,false,false,false,false,false,false,false,false,false] (by kernel_rfl) rfl rfl trivial (fun hHeld => ?_);refine with_tabW qzv.tab8 qzv.bits8 (fun HT_ HW_ => ?_)
      generalize w24.drew = w25 at HO116 HO127 HI104 HB hHeld ⊢
      refine pure_ (i := 0) (N := some 24) (v := ?_) (a' := ?_) #[true,false,false,false,false,false,false,false,false,false,false,false,false] rfl rfl (any_of HT_.out (by kernel_rfl)) (fun _ _ _ h => h) (Or.inl ⟨by rfl,?_⟩) ?_ ?_
      rotate_left
      ·intro w'
       go_simp
       with_reducible rfl
      rotate_left
      ·simp only [Act.put,List.setIfInBounds_toArray,List.set_cons_zero,List.set_cons_succ,i64_w,i32_w]
       rfl
      refine pure_ (i := 1) (N := some 25) (v := ?_) (a' := ?_) #[true,true,false,false,false,false,false,false,false,false,false,false,false] rfl rfl (any_of HT_.out (by kernel_rfl)) (fun _ _ _ h => h) (Or.inl ⟨by rfl,?_⟩) ?_ ?_
      rotate_left
      ·intro w'
       go_simp
       with_reducible rfl
      rotate_left
      ·simp only [Act.put,List.setIfInBounds_toArray,List.set_cons_zero,List.set_cons_succ,i64_w,i32_w]
       rfl
      refine pure_ (i := 2) (N := some 26) (v := ?_) (a' := ?_) #[true,true,true,false,false,false,false,false,false,false,false,false,false] rfl rfl (any_of HT_.out (by kernel_rfl)) (fun _ _ _ h => h) (Or.inl ⟨by rfl,?_⟩) ?_ ?_
      rotate_left
      ·intro w'
       go_simp
       with_reducible rfl
      rotate_left
      ·simp only [Act.put,List.setIfInBounds_toArray,List.set_cons_zero,List.set_cons_succ,i64_w,i32_w]
       rfl
      refine pure_ (i := 6) (N := some 30) (v := ?_) (a' := ?_) #[true,true,true,false,false,false,true,false,false,false,false,false,false] rfl rfl (any_of HT_.out (by kernel_rfl)) (fun _ _ _ h => h) (Or.inl ⟨by rfl,?_⟩) ?_ ?_
      rotate_left
      ·intro w'
       go_simp
       with_reducible rfl
      rotate_left
      ·simp only [Act.put,List.setIfInBounds_toArray,List.set_cons_zero,List.set_cons_succ,i64_w,i32_w]
       rfl
      refine inv_at [3,4,5,7,8,9,10,11,12] (fun a0_ b a w' => ∃ (v132 : Value) (adz_v132 : Addr) (m8_ : Value),a = putSel a0_ b [(3,27,.int .i64 t128),(4,28,.int .i64 (wrap64 (1 + t128))),(5,29,v132),(7,31,.int .i64 t134),(8,32,m8_),(9,33,.int .i64 (rd y131 t134)),(10,2,.string x6_4),(11,3,v126),(12,4,.int .i64 (rd y131 t134))] ∧ (Kd.R (Kd.int .u8) 5 w' w.heap.size (fun k_ => (w.heap.size ≤ k_)) v115 t114) ∧ (Kd.V (Kd.int .u8) 5 w' w.heap.size (fun k_ => (w.heap.size ≤ k_) ∧ some k_ ≠ (v115 : Value).ownBlock ∧ k_ ≠ g104) v126 t125) ∧ (b 3 = false → ww w w' g104 t101 t123 t124) ∧ (Below w.heap.size w w') ∧ (b 3 = true → b 7 = false → ww w w' g104 t101 t129 t130) ∧ (b 5 = true → Kd.R (Kd.int .i64) 3 w' w.heap.size (fun k_ => (w.heap.size ≤ k_)) v132 y131) ∧ (b 5 = true → ∃ c_,(v132 : Value) = .slice (some adz_v132) y131.length c_) ∧ (b 7 = true → ww w w' g104 t101 t135 t136) ∧ (b 8 = true → (m8_ : Value) = .pointer (some (adz_v132.add (t134).toNat)))) HT_.out HW_.out (by kernel_rfl) (by kernel_rfl) ?_ ?_ ?_
      ·exact ⟨.bool false,⟨0,0,none⟩,.bool false,by simp only [putSel,Bool.false_eq_true,if_false],(by first | exact HO116.out | exact Kd.R_mono HO116.out (fun _ hk => by first | trivial | (simp_all;done) | grind) | exact Kd.V_mono HO116.out (fun _ hk => by first | trivial | (simp_all;done) | grind) | exact Kd.S_mono HO116.out (fun _ hk => by first | trivial | (simp_all;done) | grind) | exact Kd.Q_mono HO116.out (fun _ hk => by first | trivial | (simp_all;done) | grind) | exact Kd.N_mono HO116.out (fun _ hk => by first | trivial | (simp_all;done) | grind)),(by first | exact HO127.out | exact Kd.R_mono HO127.out (fun _ hk => by first | trivial | (simp_all;done) | grind) | exact Kd.V_mono HO127.out (fun _ hk => by first | trivial | (simp_all;done) | grind) | exact Kd.S_mono HO127.out (fun _ hk => by first | trivial | (simp_all;done) | grind) | exact Kd.Q_mono HO127.out (fun _ hk => by first | trivial | (simp_all;done) | grind) | exact Kd.N_mono HO127.out (fun _ hk => by first | trivial | (simp_all;done) | grind)),fun _ => HI104.out,HB.out,fun h_ => absurd h_ (by decide),fun h_ => absurd h_ (by decide),fun h_ => absurd h_ (by decide),fun h_ => absurd h_ (by decide),fun h_ => absurd h_ (by decide)⟩
      ·skip
       clear HB HI104 HO116 HO127
       refine steps_cons ?_ ?_
       ·rintro b a w' ⟨v132,adz_v132,m8_,ha,Q_HO116,Q_HO127,Q_HI104,Q_HB,Q_HI104_e3,Q_HO133,Q_HA_HO133,Q_HI104_e7,Q_X8_⟩ hb_ hon hoff
        refine ⟨_,rfl,fun K hK => ?_⟩
        have e26 : a.tmps[26]? = some (.pointer (some ⟨g104,0,none⟩)) := by rw [ha];exact (putSel_off rfl).trans rfl
        replace ha := qq.mk ha
        have HO116 := qq.mk Q_HO116
        have HO127 := qq.mk Q_HO127
        have HI104 := qq.mk (Q_HI104 hb_)
        have HB := qq.mk Q_HB
        refine goes_ Try.func88 (by kernel_rfl) rfl #[.pointer (some ⟨g104,0,none⟩),.int .i64 5] (by rfl) rfl rfl (by first | (simp only [List.map_toArray,List.map_cons,List.map_nil,Act.eval,Array.getD_eq_getD_getElem?,Option.getD_some,e26];done) | (simp only [List.map_toArray,List.map_cons,List.map_nil,Act.eval,Array.getD_eq_getD_getElem?,Option.getD_some,e26];rfl)) ?_
        with_reducible refine (qkx.calls g104 t101 t123 t124 5 t128 t129 t130 w _ ?side1 ?side2 A17.out).mono ?_
        (case side1 => repeat (first | (with_reducible first | exact HI104.out | apply ww.alloc | apply ww.drewN | apply ww.drew | apply ww.set_1 | apply ww.set_2) | exact HI104.out))
        (case side2 => repeat (first | (with_reducible first | exact HB.out | apply qj | apply qz | apply qk | refine qx ?_ (ww.ge HI104.out)) | exact HB.out))
        rintro e w26 ⟨rfl,hi,hb,hk⟩
        refine ⟨_,rfl,?_⟩
        have n0_ := qq.mk (Kd.R_mono (Kd.R_keep (ww.apart (show ww w _ g104 t101 t123 t124 from by repeat (first | (with_reducible first | exact HI104.out | apply ww.alloc | apply ww.drewN | apply ww.drew | apply ww.set_1 | apply ww.set_2) | exact HI104.out)) (by (with_reducible repeat (first | apply Kd.jq | apply Kd.zx | apply Kd.jz));first | exact HO116.out | exact Kd.R_mono HO116.out (fun _ hk => by first | trivial | (simp_all;done) | grind)) (by decide)) hk (fun _ h => h.2)) (fun _ h => h.1))
        have n1_ := qq.mk (Kd.V_mono (Kd.V_keep (Kd.V_mono (ok := fun k_ => (((w.heap.size ≤ k_)) ∧ (some k_ ≠ (v115 : Value).ownBlock ∧ k_ ≠ g104))) (by (with_reducible repeat (first | apply Kd.wq | apply Kd.vx | apply Kd.wz));first | exact HO127.out | exact Kd.V_mono HO127.out (fun _ hk => by first | trivial | (simp_all;done) | grind)) (fun k_ hk_ => (⟨hk_,hk_.2.2⟩ : _ ∧ k_ ≠ g104))) hk (fun _ h => h.2)) (fun _ h => h.1))
        have n2_ := qq.mk (hb)
        have n3_ := qq.mk (hi)
        clear HO116
        clear HO127
        clear HB
        clear HI104
        have HO116 := n0_
        have HO127 := n1_
        have HB := n2_
        have HI104 := n3_
        clear n0_ n1_ n2_ n3_
        (try clear hb)
        (try clear hb2)
        (try clear hk)
        (try clear hi)
        refine hK.out _ _ ⟨v132,adz_v132,m8_,(by rw [ha.out];exact putSel_upk 0 hb_ rfl rfl rfl),(by (with_reducible repeat (first | apply Kd.jq | apply Kd.zx | apply Kd.jz));exact Kd.R_mono HO116.out (fun _ hk => by first | exact hk.1 | trivial | (simp_all;done) | grind)),(by (with_reducible repeat (first | apply Kd.wq | apply Kd.vx | apply Kd.wz));first | exact HO127.out | exact Kd.V_mono HO127.out (fun _ hk => by first | trivial | (simp_all;done) | grind)),fun h0_ => absurd ((up_self b 3).symm.trans h0_) (by decide),(by repeat (first | (with_reducible first | exact HB.out | apply qj | apply qz | apply qk | refine qx ?_ (ww.ge HI104.out)) | exact HB.out)),fun _ _ => (by repeat (first | (with_reducible first | exact HI104.out | apply ww.alloc | apply ww.drewN | apply ww.drew | apply ww.set_1 | apply ww.set_2) | exact HI104.out)),fun h0_ => absurd ((hoff 5 (by kernel_rfl)).symm.trans h0_) (by decide),fun h0_ => absurd ((hoff 5 (by kernel_rfl)).symm.trans h0_) (by decide),fun h0_ => absurd ((hoff 7 (by kernel_rfl)).symm.trans h0_) (by decide),fun h0_ => absurd ((hoff 8 (by kernel_rfl)).symm.trans h0_) (by decide)⟩
       refine steps_cons ?_ ?_
       ·rintro b a w' ⟨v132,adz_v132,m8_,ha,Q_HO116,Q_HO127,Q_HI104,Q_HB,Q_HI104_e3,Q_HO133,Q_HA_HO133,Q_HI104_e7,Q_X8_⟩ hb_ hon hoff
        refine ⟨_,rfl,fun K hK => ?_⟩
        have e27 : a.tmps[27]? = some (.int .i64 t128) := by rw [ha];exact putSel_on (e := (3,27,.int .i64 t128)) 0 rfl rfl (hon 3 (by kernel_rfl)) rfl
        replace ha := qq.mk ha
        have HO116 := qq.mk Q_HO116
        have HO127 := qq.mk Q_HO127
        have HB := qq.mk Q_HB
        refine value_ (w1 := w') (v := .int .i64 (wrap64 (1 + t128))) (by rfl) rfl ?_ ?_
        ·go_simp
         (try simp only [i64_w])
         try rfl
        refine hK.out _ _ ⟨v132,adz_v132,m8_,(by rw [ha.out];exact putSel_upk 1 hb_ rfl rfl rfl),Q_HO116,Q_HO127,fun h0_ => absurd ((hon 3 (by kernel_rfl)).symm.trans h0_) (by decide),Q_HB,Q_HI104_e3,fun h0_ => absurd ((hoff 5 (by kernel_rfl)).symm.trans h0_) (by decide),fun h0_ => absurd ((hoff 5 (by kernel_rfl)).symm.trans h0_) (by decide),Q_HI104_e7,fun h0_ => absurd ((hoff 8 (by kernel_rfl)).symm.trans h0_) (by decide)⟩
       refine steps_cons ?_ ?_
       ·rintro b a w' ⟨v132,adz_v132,m8_,ha,Q_HO116,Q_HO127,Q_HI104,Q_HB,Q_HI104_e3,Q_HO133,Q_HA_HO133,Q_HI104_e7,Q_X8_⟩ hb_ hon hoff
        refine ⟨_,rfl,fun K hK => ?_⟩
        have e28 : a.tmps[28]? = some (.int .i64 (wrap64 (1 + t128))) := by rw [ha];exact putSel_on (e := (4,28,.int .i64 (wrap64 (1 + t128)))) 1 rfl rfl (hon 4 (by kernel_rfl)) rfl
        replace ha := qq.mk ha
        have HO116 := qq.mk Q_HO116
        have HO127 := qq.mk Q_HO127
        have HB := qq.mk Q_HB
        refine Kd.R_lit_step (Kd.int .i64) _ 3 ?hg (N := 29) ?hd (xs := ([wrap64 (1 + t128),0,1,1000,1001] : List Int)) (inner := [.int .i64 (wrap64 (1 + t128)),.int .i64 0,.int .i64 1,.int .i64 1000,.int .i64 1001]) (ok := fun _ => True) (okp := fun _ => True) ?hr ?hp (fun _ hk => by first | exact hk | trivial | (simp_all;done) | grind) trivial (Below.refl _ _) (Nat.le_refl _) (by simp) ?_;(case hd => rfl);(case hg => rfl);(case hr => first | (go_simp;done) | (go_simp;rfl));(case hp => exact (Reps.one (show Kd.M (Kd.int .i64) _ _ _ (wrap64 (1 + t128)) [.int .i64 (wrap64 (1 + t128))] from rfl) (Reps.one (show Kd.M (Kd.int .i64) _ _ _ 0 [.int .i64 0] from rfl) (Reps.one (show Kd.M (Kd.int .i64) _ _ _ 1 [.int .i64 1] from rfl) (Reps.one (show Kd.M (Kd.int .i64) _ _ _ 1000 [.int .i64 1000] from rfl) (Reps.one (show Kd.M (Kd.int .i64) _ _ _ 1001 [.int .i64 1001] from rfl) (Reps.none _ _)))))))
        intro v132 w28 ho29 hb hg_ hnew_
        clear hg_ hnew_
        (first | rw [← Ny131.out] at ho29 | (simp only [Int.reduceToNat] at ho29;rw [← Ny131.out] at ho29))
        have n0_ := qq.mk (Kd.R_below (by (with_reducible repeat (first | apply Kd.jq | apply Kd.zx | apply Kd.jz));first | exact HO116.out | exact Kd.R_mono HO116.out (fun _ hk => by first | trivial | (simp_all;done) | grind)) hb)
        have n1_ := qq.mk (Kd.V_elder' (by (with_reducible repeat (first | apply Kd.wq | apply Kd.vx | apply Kd.wz));first | exact HO127.out | exact Kd.V_mono HO127.out (fun _ hk => by first | trivial | (simp_all;done) | grind)) (Kd.R_base ho29) hb)
        have n2_ := qq.mk (Kd.R_lower (Kd.R_newM (M := fun k_ => (w.heap.size ≤ k_)) ho29 (zw (by repeat (first | (with_reducible first | exact HB.out | apply qj | apply qz | apply qk) | exact HB.out))) (fun k_ h_ => h_)) (zw (by repeat (first | (with_reducible first | exact HB.out | apply qj | apply qz | apply qk) | exact HB.out))))
        have n4_ := qq.mk (zv (by repeat (first | (with_reducible first | exact HB.out | apply qj | apply qz | apply qk) | exact HB.out)) hb)
        have z_HI104_e3 := fun (h0_ : b 3 = true) (h1_ : b 7 = false) => (show ww w w28 g104 t101 t129 t130 from by first | exact (ww.below (by repeat (first | (with_reducible first | exact (Q_HI104_e3 h0_ h1_) | apply ww.alloc | apply ww.drewN | apply ww.drew | apply ww.set_1 | apply ww.set_2) | exact (Q_HI104_e3 h0_ h1_))) hb))
        have z_HI104_e7 := fun (h0_ : b 7 = true) => (show ww w w28 g104 t101 t135 t136 from by first | exact (ww.below (by repeat (first | (with_reducible first | exact (Q_HI104_e7 h0_) | apply ww.alloc | apply ww.drewN | apply ww.drew | apply ww.set_1 | apply ww.set_2) | exact (Q_HI104_e7 h0_))) hb))
        clear HO116
        clear HO127
        clear HB
        have HO116 := n0_
        have HO127 := n1_
        have HO133 := n2_
        have HB := n4_
        clear n0_ n1_ n2_ n4_
        clear hb ho29
        obtain ⟨Ao30,co30,eo30⟩ := Kd.R_slice HO133.out
        subst eo30
        obtain ⟨ado30,fo30,_⟩ := Kd.at_int (Kd.R_reads' HO133.out).2.2 0 (by decide) (by rw [Ny131.out];simp)
        cases fo30
        refine hK.out _ _ ⟨.slice (some ado30) y131.length co30,ado30,m8_,(by rw [ha.out];exact putSel_upk 2 hb_ rfl rfl rfl),(by (with_reducible repeat (first | apply Kd.jq | apply Kd.zx | apply Kd.jz));first | exact HO116.out | exact Kd.R_mono HO116.out (fun _ hk => by first | trivial | (simp_all;done) | grind)),(by (with_reducible repeat (first | apply Kd.wq | apply Kd.vx | apply Kd.wz));exact Kd.V_mono HO127.out (fun _ hk => by first | exact ⟨hk.1.1,⟨hk.1.2.1,⟨hk.2,hk.1.2.2⟩⟩⟩ | trivial | (simp_all;done) | grind)),fun h0_ => absurd ((hon 3 (by kernel_rfl)).symm.trans h0_) (by decide),(by repeat (first | (with_reducible first | exact HB.out | apply qj | apply qz | apply qk) | exact HB.out)),z_HI104_e3,fun _ => (by (with_reducible repeat (first | apply Kd.jq | apply Kd.zx | apply Kd.jz));exact Kd.R_mono HO133.out (fun _ hk => by first | exact hk.1 | trivial | (simp_all;done) | grind)),fun _ => ⟨_,rfl⟩,z_HI104_e7,fun h0_ => absurd ((hoff 8 (by kernel_rfl)).symm.trans h0_) (by decide)⟩
       refine steps_cons ?_ ?_
       ·rintro b a w' ⟨v132,adz_v132,m8_,ha,Q_HO116,Q_HO127,Q_HI104,Q_HB,Q_HI104_e3,Q_HO133,Q_HA_HO133,Q_HI104_e7,Q_X8_⟩ hb_ hon hoff
        refine ⟨_,rfl,fun K hK => ?_⟩
        have e30 : a.tmps[30]? = some (.pointer (some ⟨g104,0,none⟩)) := by rw [ha];exact (putSel_off rfl).trans rfl
        replace ha := qq.mk ha
        have HO116 := qq.mk Q_HO116
        have HO127 := qq.mk Q_HO127
        have HB := qq.mk Q_HB
        have HI104 := qq.mk (Q_HI104_e3 (hon 3 (by kernel_rfl)) hb_)
        refine goes_ Try.func95 (by kernel_rfl) rfl #[.pointer (some ⟨g104,0,none⟩),.int .i64 5] (by rfl) rfl rfl (by first | (simp only [List.map_toArray,List.map_cons,List.map_nil,Act.eval,Array.getD_eq_getD_getElem?,Option.getD_some,e30];done) | (simp only [List.map_toArray,List.map_cons,List.map_nil,Act.eval,Array.getD_eq_getD_getElem?,Option.getD_some,e30];rfl)) ?_
        with_reducible refine (qvq.calls g104 t101 t129 t130 5 t134 t135 t136 w _ ?side1 ?side2 A18.out).mono ?_
        (case side1 => repeat (first | (with_reducible first | exact HI104.out | apply ww.alloc | apply ww.drewN | apply ww.drew | apply ww.set_1 | apply ww.set_2) | exact HI104.out))
        (case side2 => repeat (first | (with_reducible first | exact HB.out | apply qj | apply qz | apply qk | refine qx ?_ (ww.ge HI104.out)) | exact HB.out))
        rintro e w28 ⟨rfl,hi,hb,hk⟩
        refine ⟨_,rfl,?_⟩
        have n0_ := qq.mk (Kd.R_mono (Kd.R_keep (ww.apart (show ww w _ g104 t101 t129 t130 from by repeat (first | (with_reducible first | exact HI104.out | apply ww.alloc | apply ww.drewN | apply ww.drew | apply ww.set_1 | apply ww.set_2) | exact HI104.out)) (by (with_reducible repeat (first | apply Kd.jq | apply Kd.zx | apply Kd.jz));first | exact HO116.out | exact Kd.R_mono HO116.out (fun _ hk => by first | trivial | (simp_all;done) | grind)) (by decide)) hk (fun _ h => h.2)) (fun _ h => h.1))
        have n1_ := qq.mk (Kd.V_mono (Kd.V_keep (Kd.V_mono (ok := fun k_ => (((w.heap.size ≤ k_)) ∧ (some k_ ≠ (v115 : Value).ownBlock ∧ k_ ≠ g104))) (by (with_reducible repeat (first | apply Kd.wq | apply Kd.vx | apply Kd.wz));first | exact HO127.out | exact Kd.V_mono HO127.out (fun _ hk => by first | trivial | (simp_all;done) | grind)) (fun k_ hk_ => (⟨hk_,hk_.2.2⟩ : _ ∧ k_ ≠ g104))) hk (fun _ h => h.2)) (fun _ h => h.1))
        have n2_ := qq.mk (hb)
        have n3_ := qq.mk (hi)
        have z_HO133 := fun (h0_ : b 5 = true) => (show Kd.R (Kd.int .i64) 3 w28 w.heap.size (fun k_ => (w.heap.size ≤ k_)) v132 y131 from by first | exact (Kd.R_mono (Kd.R_keep (ww.apart (show ww w _ g104 t101 t129 t130 from by repeat (first | (with_reducible first | exact HI104.out | apply ww.alloc | apply ww.drewN | apply ww.drew | apply ww.set_1 | apply ww.set_2) | exact HI104.out)) (by (with_reducible repeat (first | apply Kd.jq | apply Kd.zx | apply Kd.jz));exact (Q_HO133 h0_)) (by decide)) hk (fun _ h => h.2)) (fun _ h => h.1)) | exact Kd.R_mono (Kd.R_mono (Kd.R_keep (ww.apart (show ww w _ g104 t101 t129 t130 from by repeat (first | (with_reducible first | exact HI104.out | apply ww.alloc | apply ww.drewN | apply ww.drew | apply ww.set_1 | apply ww.set_2) | exact HI104.out)) (by (with_reducible repeat (first | apply Kd.jq | apply Kd.zx | apply Kd.jz));exact (Q_HO133 h0_)) (by decide)) hk (fun _ h => h.2)) (fun _ h => h.1)) (fun _ h_ => by first | trivial | exact h_ | exact h_.1))
        clear HO116
        clear HO127
        clear HB
        clear HI104
        have HO116 := n0_
        have HO127 := n1_
        have HB := n2_
        have HI104 := n3_
        clear n0_ n1_ n2_ n3_
        (try clear hb)
        (try clear hb2)
        (try clear hk)
        (try clear hi)
        refine hK.out _ _ ⟨v132,adz_v132,m8_,(by rw [ha.out];exact putSel_upk 3 hb_ rfl rfl rfl),(by (with_reducible repeat (first | apply Kd.jq | apply Kd.zx | apply Kd.jz));first | exact HO116.out | exact Kd.R_mono HO116.out (fun _ hk => by first | trivial | (simp_all;done) | grind)),(by (with_reducible repeat (first | apply Kd.wq | apply Kd.vx | apply Kd.wz));first | exact HO127.out | exact Kd.V_mono HO127.out (fun _ hk => by first | trivial | (simp_all;done) | grind)),fun h0_ => absurd ((hon 3 (by kernel_rfl)).symm.trans h0_) (by decide),(by repeat (first | (with_reducible first | exact HB.out | apply qj | apply qz | apply qk | refine qx ?_ (ww.ge HI104.out)) | exact HB.out)),fun _ h1_ => absurd ((up_self b 7).symm.trans h1_) (by decide),z_HO133,Q_HA_HO133,fun _ => (by repeat (first | (with_reducible first | exact HI104.out | apply ww.alloc | apply ww.drewN | apply ww.drew | apply ww.set_1 | apply ww.set_2) | exact HI104.out)),fun h0_ => absurd ((hoff 8 (by kernel_rfl)).symm.trans h0_) (by decide)⟩
       refine steps_cons ?_ ?_
       ·rintro b a w' ⟨v132,adz_v132,m8_,ha,Q_HO116,Q_HO127,Q_HI104,Q_HB,Q_HI104_e3,Q_HO133,Q_HA_HO133,Q_HI104_e7,Q_X8_⟩ hb_ hon hoff
        refine ⟨_,rfl,fun K hK => ?_⟩
        have e29 : a.tmps[29]? = some (v132) := by rw [ha];exact putSel_on (e := (5,29,v132)) 2 rfl rfl (hon 5 (by kernel_rfl)) rfl
        have e31 : a.tmps[31]? = some (.int .i64 t134) := by rw [ha];exact putSel_on (e := (7,31,.int .i64 t134)) 3 rfl rfl (hon 7 (by kernel_rfl)) rfl
        replace ha := qq.mk ha
        have HO116 := qq.mk Q_HO116
        have HO127 := qq.mk Q_HO127
        have HB := qq.mk Q_HB
        have HO133 := qq.mk (Q_HO133 (hon 5 (by kernel_rfl)))
        have HA_HO133 := qq.mk (Q_HA_HO133 (hon 5 (by kernel_rfl)))
        have HI104 := qq.mk (Q_HI104_e7 (hon 7 (by kernel_rfl)))
        obtain ⟨c_,hv_⟩ := HA_HO133.out
        rw [hv_] at e29
        refine value_ (w1 := w') (v := .pointer (some (adz_v132.add (t134).toNat))) (by rfl) rfl ?_ ?_
        ·go_simp
         (try simp only [i64_w])
         try rfl
        refine hK.out _ _ ⟨v132,adz_v132,(.pointer (some (adz_v132.add (t134).toNat))),(by rw [ha.out];exact putSel_upk 4 hb_ rfl rfl rfl),Q_HO116,Q_HO127,fun h0_ => absurd ((hon 3 (by kernel_rfl)).symm.trans h0_) (by decide),Q_HB,fun _ h1_ => absurd ((hon 7 (by kernel_rfl)).symm.trans h1_) (by decide),Q_HO133,Q_HA_HO133,Q_HI104_e7,fun _ => rfl⟩
       refine steps_cons ?_ ?_
       ·rintro b a w' ⟨v132,adz_v132,m8_,ha,Q_HO116,Q_HO127,Q_HI104,Q_HB,Q_HI104_e3,Q_HO133,Q_HA_HO133,Q_HI104_e7,Q_X8_⟩ hb_ hon hoff
        refine ⟨_,rfl,fun K hK => ?_⟩
        have e32 : a.tmps[32]? = some (m8_) := by rw [ha];exact putSel_on (e := (8,32,m8_)) 4 rfl rfl (hon 8 (by kernel_rfl)) rfl
        rw [Q_X8_ (hon 8 (by kernel_rfl))] at e32
        replace ha := qq.mk ha
        have HO116 := qq.mk Q_HO116
        have HO127 := qq.mk Q_HO127
        have HB := qq.mk Q_HB
        have HO133 := qq.mk (Q_HO133 (hon 5 (by kernel_rfl)))
        have HA_HO133 := qq.mk (Q_HA_HO133 (hon 5 (by kernel_rfl)))
        have HI104 := qq.mk (Q_HI104_e7 (hon 7 (by kernel_rfl)))
        obtain ⟨c_,hv_⟩ := HA_HO133.out
        have hF_ := HO133.out
        rw [hv_] at hF_
        obtain ⟨ad_,ea_,hx_⟩ := Kd.at_int (Kd.R_reads' hF_).2.2 t134 (of_eq_true pi137) (of_eq_true qi137)
        cases ea_
        refine value_ (w1 := w') (v := .int .i64 (rd y131 t134)) (by rfl) rfl ?_ ?_
        ·go_simp
         (try simp only [i64_w])
         try rfl
        refine hK.out _ _ ⟨v132,adz_v132,m8_,(by rw [ha.out];exact putSel_upk 5 hb_ rfl rfl rfl),Q_HO116,Q_HO127,fun h0_ => absurd ((hon 3 (by kernel_rfl)).symm.trans h0_) (by decide),Q_HB,fun _ h1_ => absurd ((hon 7 (by kernel_rfl)).symm.trans h1_) (by decide),Q_HO133,Q_HA_HO133,Q_HI104_e7,Q_X8_⟩
       refine steps_cons ?_ ?_
       ·rintro b a w' ⟨v132,adz_v132,m8_,ha,Q_HO116,Q_HO127,Q_HI104,Q_HB,Q_HI104_e3,Q_HO133,Q_HA_HO133,Q_HI104_e7,Q_X8_⟩ hb_ hon hoff
        refine ⟨_,rfl,fun K hK => ?_⟩
        have e24 : a.tmps[24]? = some (.string x6_4) := by rw [ha];exact (putSel_off rfl).trans rfl
        replace ha := qq.mk ha
        have HO116 := qq.mk Q_HO116
        have HO127 := qq.mk Q_HO127
        have HB := qq.mk Q_HB
        have HI104 := qq.mk (Q_HI104_e7 (hon 7 (by kernel_rfl)))
        refine value_ (w1 := w') (v := .string x6_4) (by rfl) rfl ?_ ?_
        ·go_simp
         (try simp only [i64_w])
         try rfl
        refine hK.out _ _ ⟨v132,adz_v132,m8_,(by rw [ha.out];exact putSel_upk 6 hb_ rfl rfl rfl),Q_HO116,Q_HO127,fun h0_ => absurd ((hon 3 (by kernel_rfl)).symm.trans h0_) (by decide),Q_HB,fun _ h1_ => absurd ((hon 7 (by kernel_rfl)).symm.trans h1_) (by decide),Q_HO133,Q_HA_HO133,Q_HI104_e7,Q_X8_⟩
       refine steps_cons ?_ ?_
       ·rintro b a w' ⟨v132,adz_v132,m8_,ha,Q_HO116,Q_HO127,Q_HI104,Q_HB,Q_HI104_e3,Q_HO133,Q_HA_HO133,Q_HI104_e7,Q_X8_⟩ hb_ hon hoff
        refine ⟨_,rfl,fun K hK => ?_⟩
        have e25 : a.tmps[25]? = some (v126) := by rw [ha];exact (putSel_off rfl).trans rfl
        replace ha := qq.mk ha
        have HO116 := qq.mk Q_HO116
        have HO127 := qq.mk Q_HO127
        have HB := qq.mk Q_HB
        have HI104 := qq.mk (Q_HI104_e7 (hon 7 (by kernel_rfl)))
        refine value_ (w1 := w') (v := v126) (by rfl) rfl ?_ ?_
        ·go_simp
         (try simp only [i64_w])
         try rfl
        refine hK.out _ _ ⟨v132,adz_v132,m8_,(by rw [ha.out];exact putSel_upk 7 hb_ rfl rfl rfl),Q_HO116,Q_HO127,fun h0_ => absurd ((hon 3 (by kernel_rfl)).symm.trans h0_) (by decide),Q_HB,fun _ h1_ => absurd ((hon 7 (by kernel_rfl)).symm.trans h1_) (by decide),Q_HO133,Q_HA_HO133,Q_HI104_e7,Q_X8_⟩
       refine steps_cons ?_ ?_
       ·rintro b a w' ⟨v132,adz_v132,m8_,ha,Q_HO116,Q_HO127,Q_HI104,Q_HB,Q_HI104_e3,Q_HO133,Q_HA_HO133,Q_HI104_e7,Q_X8_⟩ hb_ hon hoff
        refine ⟨_,rfl,fun K hK => ?_⟩
        have e33 : a.tmps[33]? = some (.int .i64 (rd y131 t134)) := by rw [ha];exact putSel_on (e := (9,33,.int .i64 (rd y131 t134))) 5 rfl rfl (hon 9 (by kernel_rfl)) rfl
        replace ha := qq.mk ha
        have HO116 := qq.mk Q_HO116
        have HO127 := qq.mk Q_HO127
        have HB := qq.mk Q_HB
        have HO133 := qq.mk (Q_HO133 (hon 5 (by kernel_rfl)))
        have HA_HO133 := qq.mk (Q_HA_HO133 (hon 5 (by kernel_rfl)))
        have HI104 := qq.mk (Q_HI104_e7 (hon 7 (by kernel_rfl)))
        refine value_ (w1 := w') (v := .int .i64 (rd y131 t134)) (by rfl) rfl ?_ ?_
        ·go_simp
         (try simp only [i64_w])
         try rfl
        refine hK.out _ _ ⟨v132,adz_v132,m8_,(by rw [ha.out];exact putSel_upk 8 hb_ rfl rfl rfl),Q_HO116,Q_HO127,fun h0_ => absurd ((hon 3 (by kernel_rfl)).symm.trans h0_) (by decide),Q_HB,fun _ h1_ => absurd ((hon 7 (by kernel_rfl)).symm.trans h1_) (by decide),Q_HO133,Q_HA_HO133,Q_HI104_e7,Q_X8_⟩
       exact steps_nil
      rintro b a w31 hall ⟨v132,adz_v132,m8_,ha,Q_HO116,Q_HO127,Q_HI104,Q_HB,Q_HI104_e3,Q_HO133,Q_HA_HO133,Q_HI104_e7,Q_X8_⟩
      clear HB HI104 HO116 HO127
      have hb3_ := hall 3 (by kernel_rfl)
      have hb4_ := hall 4 (by kernel_rfl)
      have hb5_ := hall 5 (by kernel_rfl)
      have hb7_ := hall 7 (by kernel_rfl)
      have hb8_ := hall 8 (by kernel_rfl)
      have hb9_ := hall 9 (by kernel_rfl)
      have hb10_ := hall 10 (by kernel_rfl)
      have hb11_ := hall 11 (by kernel_rfl)
      have hb12_ := hall 12 (by kernel_rfl)
      subst ha
      obtain rfl := Q_X8_ hb8_
      simp only [putSel,hb3_,hb4_,hb5_,hb7_,hb8_,hb9_,hb10_,hb11_,hb12_,if_true,Act.put,List.setIfInBounds_toArray,List.set_cons_zero,List.set_cons_succ]
      have HO116 := qq.mk Q_HO116
      clear Q_HO116
      have HO127 := qq.mk Q_HO127
      clear Q_HO127
      clear Q_HI104
      have HB := qq.mk Q_HB
      clear Q_HB
      clear Q_HI104_e3
      have HO133 := qq.mk (Q_HO133 hb5_)
      clear Q_HO133
      have HA_HO133 := qq.mk (Q_HA_HO133 hb5_)
      clear Q_HA_HO133
      have HI104 := qq.mk (Q_HI104_e7 hb7_)
      clear Q_HI104_e7
      clear hall hb3_ hb4_ hb5_ hb7_ hb8_ hb9_ hb10_ hb11_ hb12_
      obtain ⟨co32,eo32⟩ := HA_HO133.out
      clear HA_HO133
      subst eo32
      try go_wp2
      go_ret3
      exact ⟨_,by first | rfl | (simp [*,kz,jx] <;> rfl),by (with_reducible repeat (first | apply Kd.wq | apply Kd.vx | apply Kd.wz));exact Kd.V_mono HO127.out (fun _ hk => by first | exact hk.1 | trivial | (simp_all;done) | grind),by repeat (first | (with_reducible first | exact HB.out | apply qj | apply qz | apply qk | refine qx ?_ (ww.ge HI104.out)) | exact HB.out)⟩
     ·rw [if_neg c20] at H
      exact absurd H (by simp)
    ·rw [if_neg c19] at H
     exact absurd H (by simp)
   ·replace c14 := Bool.eq_false_iff.mpr c14
    subst c14
    have H1 : ((qkx.f t101 t120 t121 5).bind fun bt138 => ((some (([wrap64 (1 + bt138.1),0,1,1000,1001] : List Int) : List Int)).bind fun y141 => ((qvq.f t101 bt138.2.1 bt138.2.2 5).bind fun bt144 => (if 0 ≤ bt144.1 then (if bt144.1 < (y141.length : Int) then (some (x6_4,t114,rd y141 bt144.1)) else (none)) else (none))))) = some (r1,r2,r3) := by rw [if_neg (show ¬ (false = true) by decide)] at H;exact H
    clear H
    have H := H1
    clear H1
    replace H := Option.bind_eq_some_iff.mp H
    obtain ⟨⟨t138,t139,t140⟩,A330,H⟩ := H
    replace H : ((some (([wrap64 (1 + t138),0,1,1000,1001] : List Int) : List Int)).bind fun y141 => ((qvq.f t101 t139 t140 5).bind fun bt144 => (if 0 ≤ bt144.1 then (if bt144.1 < (y141.length : Int) then (some (x6_4,t114,rd y141 bt144.1)) else (none)) else (none)))) = some (r1,r2,r3) := H
    have A33 := qq.mk A330
    clear A330
    obtain ⟨y141,hy141⟩ : ∃ y_ : List Int,y_ = (([wrap64 (1 + t138),0,1,1000,1001] : List Int)) := ⟨_,rfl⟩
    replace H : ((qvq.f t101 t139 t140 5).bind fun bt144 => (if 0 ≤ bt144.1 then (if bt144.1 < (y141.length : Int) then (some (x6_4,t114,rd y141 bt144.1)) else (none)) else (none))) = some (r1,r2,r3) := by first | (rw [hy141];with_reducible exact H) | (have H2_ := (Option.bind_some _ _).symm.trans H;rw [hy141];with_reducible exact H2_) | (have H2_ := (Option.bind_some _ _).symm.trans H;with_reducible exact H2_) | with_reducible exact H | (rw [hy141];exact H) | exact H
    have Ny141 := qq.mk hy141
    clear hy141
    replace H := Option.bind_eq_some_iff.mp H
    obtain ⟨⟨t144,t145,t146⟩,A340,H⟩ := H
    replace H : (if 0 ≤ t144 then (if t144 < (y141.length : Int) then (some (x6_4,t114,rd y141 t144)) else (none)) else (none)) = some (r1,r2,r3) := H
    have A34 := qq.mk A340
    clear A340
    by_cases c35 : 0 ≤ t144
    ·rw [if_pos c35] at H
     have c35b0 : decide (0 ≤ t144) = true := decide_eq_true c35
     clear c35
     by_cases c36 : t144 < (y141.length : Int)
     ·rw [if_pos c36] at H
      have c36b0 : decide (t144 < (y141.length : Int)) = true := decide_eq_true c36
      clear c36
      simp only [Option.some.injEq,Prod.mk.injEq] at H
      obtain ⟨rfl,rfl,rfl⟩ := H
      try go_wp2_with (first | ((with_reducible refine kj (f := 94) rfl ?_);refine goesL_ (some 18) rfl rfl Try.func94 (by kernel_rfl) rfl #[.pointer (some ⟨g104,0,none⟩),.int .i64 8] rfl (by (try simp only [List.map_toArray,List.map_cons,List.map_nil]);first | done | rfl | (simp only [List.length_drop,List.length_take];rfl)) ?_;(with_reducible refine (qkq.calls kj4 g104 t101 x105001_4 x105002_4 8 t114 t117 t118 w _ ?side1 ?side2 A12.out).mono ?_);(case side1 => repeat (first | (with_reducible first | exact HI104.out | apply ww.alloc | apply ww.drewN | apply ww.drew | apply ww.set_1 | apply ww.set_2) | exact HI104.out));(case side2 => repeat (first | (with_reducible first | exact HB.out | apply qj | apply qz | apply qk | refine qx ?_ (ww.ge HI104.out)) | exact HB.out));rintro e w37 ⟨v115,rfl,ho0,hi,hb,hk⟩;refine ⟨_,rfl,?_⟩;have n0_ := qq.mk (Kd.R_lower (Kd.R_newM (M := fun k_ => (w.heap.size ≤ k_)) ho0 (zw (by repeat (first | (with_reducible first | exact HB.out | apply qj | apply qz | apply qk | refine qx ?_ (ww.ge HI104.out)) | exact HB.out))) (fun k_ h_ => h_)) (zw (by repeat (first | (with_reducible first | exact HB.out | apply qj | apply qz | apply qk | refine qx ?_ (ww.ge HI104.out)) | exact HB.out))));have n1_ := qq.mk (hb);have n2_ := qq.mk (hi);clear HB;clear HI104;have HO116 := n0_;have HB := n1_;have HI104 := n2_;clear n0_ n1_ n2_;(try clear hb);(try clear hb2);(try clear hk);(try clear hi);(try clear ho0)) | ((with_reducible refine kj (f := 90) rfl ?_);refine goesL_ (some 20) rfl rfl Try.func90 (by kernel_rfl) rfl #[.pointer (some ⟨g104,0,none⟩),.int .i64 20] rfl (by (try simp only [List.map_toArray,List.map_cons,List.map_nil]);first | done | rfl | (simp only [List.length_drop,List.length_take];rfl)) ?_;(with_reducible refine (qkv.calls g104 t101 t117 t118 20 false t120 t121 w _ ?side1 ?side2 A13.out).mono ?_);(case side1 => repeat (first | (with_reducible first | exact HI104.out | apply ww.alloc | apply ww.drewN | apply ww.drew | apply ww.set_1 | apply ww.set_2) | exact HI104.out));(case side2 => repeat (first | (with_reducible first | exact HB.out | apply qj | apply qz | apply qk | refine qx ?_ (ww.ge HI104.out)) | exact HB.out));rintro e w38 ⟨rfl,hi,hb,hk⟩;refine ⟨_,rfl,?_⟩;have n0_ := qq.mk (Kd.R_mono (Kd.R_keep (ww.apart (show ww w _ g104 t101 t117 t118 from by repeat (first | (with_reducible first | exact HI104.out | apply ww.alloc | apply ww.drewN | apply ww.drew | apply ww.set_1 | apply ww.set_2) | exact HI104.out)) (by (with_reducible repeat (first | apply Kd.jq | apply Kd.zx | apply Kd.jz));first | exact HO116.out | exact Kd.R_mono HO116.out (fun _ hk => by first | trivial | (simp_all;done) | grind)) (by decide)) hk (fun _ h => h.2)) (fun _ h => h.1));have n1_ := qq.mk (hb);have n2_ := qq.mk (hi);clear HO116;clear HB;clear HI104;have HO116 := n0_;have HB := n1_;have HI104 := n2_;clear n0_ n1_ n2_;(try clear hb);(try clear hb2);(try clear hk);(try clear hi)))
      have pi147 : (0 ≤ (t144 : Int)) = True := eq_true (of_decide_eq_true (by assumption))
      have qi147 : (t144 < (y141.length : Int)) = True := eq_true (of_decide_eq_true (by assumption))
      have n0_ := qq.mk (Kd.jz HO116.out)
      have n1_ := qq.mk (ww.drew HI104.out)
      have n2_ := qq.mk (qk HB.out)
      clear HO116
      clear HI104
      clear HB
      have HO116 := n0_
      have HI104 := n1_
      have HB := n2_
      clear n0_ n1_ n2_
      refine start_ (n := 13) (S := fun w' => True) (ds := []) #[false,false,false,false,false,false,false,false,false,false,false,false,false] (by kernel_rfl) rfl rfl trivial (fun hHeld => ?_);refine with_tabW qzv.tab8 qzv.bits8 (fun HT_ HW_ => ?_)
      generalize w38.drew = w39 at HO116 HI104 HB hHeld ⊢
      refine pure_ (i := 0) (N := some 24) (v := ?_) (a' := ?_) #[true,false,false,false,false,false,false,false,false,false,false,false,false] rfl rfl (any_of HT_.out (by kernel_rfl)) (fun _ _ _ h => h) (Or.inl ⟨by rfl,?_⟩) ?_ ?_
      rotate_left
      ·intro w'
       go_simp
       with_reducible rfl
      rotate_left
      ·simp only [Act.put,List.setIfInBounds_toArray,List.set_cons_zero,List.set_cons_succ,i64_w,i32_w]
       rfl
      refine pure_ (i := 1) (N := some 25) (v := ?_) (a' := ?_) #[true,true,false,false,false,false,false,false,false,false,false,false,false] rfl rfl (any_of HT_.out (by kernel_rfl)) (fun _ _ _ h => h) (Or.inl ⟨by rfl,?_⟩) ?_ ?_
      rotate_left
      ·intro w'
       go_simp
       with_reducible rfl
      rotate_left
      ·simp only [Act.put,List.setIfInBounds_toArray,List.set_cons_zero,List.set_cons_succ,i64_w,i32_w]
       rfl
      refine pure_ (i := 2) (N := some 26) (v := ?_) (a' := ?_) #[true,true,true,false,false,false,false,false,false,false,false,false,false] rfl rfl (any_of HT_.out (by kernel_rfl)) (fun _ _ _ h => h) (Or.inl ⟨by rfl,?_⟩) ?_ ?_
      rotate_left
      ·intro w'
       go_simp
       with_reducible rfl
      rotate_left
      ·simp only [Act.put,List.setIfInBounds_toArray,List.set_cons_zero,List.set_cons_succ,i64_w,i32_w]
       rfl
      refine pure_ (i := 6) (N := some 30) (v := ?_) (a' := ?_) #[true,true,true,false,false,false,true,false,false,false,false,false,false] rfl rfl (any_of HT_.out (by kernel_rfl)) (fun _ _ _ h => h) (Or.inl ⟨by rfl,?_⟩) ?_ ?_
      rotate_left
      ·intro w'
       go_simp
       with_reducible rfl
      rotate_left
      ·simp only [Act.put,List.setIfInBounds_toArray,List.set_cons_zero,List.set_cons_succ,i64_w,i32_w]
       rfl
      refine inv_at [3,4,5,7,8,9,10,11,12] (fun a0_ b a w' => ∃ (v142 : Value) (adz_v142 : Addr) (m8_ : Value),a = putSel a0_ b [(3,27,.int .i64 t138),(4,28,.int .i64 (wrap64 (1 + t138))),(5,29,v142),(7,31,.int .i64 t144),(8,32,m8_),(9,33,.int .i64 (rd y141 t144)),(10,2,.string x6_4),(11,3,v115),(12,4,.int .i64 (rd y141 t144))] ∧ (Kd.R (Kd.int .u8) 5 w' w.heap.size (fun k_ => (w.heap.size ≤ k_)) v115 t114) ∧ (b 3 = false → ww w w' g104 t101 t120 t121) ∧ (Below w.heap.size w w') ∧ (b 3 = true → b 7 = false → ww w w' g104 t101 t139 t140) ∧ (b 5 = true → Kd.R (Kd.int .i64) 3 w' w.heap.size (fun k_ => (w.heap.size ≤ k_)) v142 y141) ∧ (b 5 = true → ∃ c_,(v142 : Value) = .slice (some adz_v142) y141.length c_) ∧ (b 7 = true → ww w w' g104 t101 t145 t146) ∧ (b 8 = true → (m8_ : Value) = .pointer (some (adz_v142.add (t144).toNat)))) HT_.out HW_.out (by kernel_rfl) (by kernel_rfl) ?_ ?_ ?_
      ·exact ⟨.bool false,⟨0,0,none⟩,.bool false,by simp only [putSel,Bool.false_eq_true,if_false],(by first | exact HO116.out | exact Kd.R_mono HO116.out (fun _ hk => by first | trivial | (simp_all;done) | grind) | exact Kd.V_mono HO116.out (fun _ hk => by first | trivial | (simp_all;done) | grind) | exact Kd.S_mono HO116.out (fun _ hk => by first | trivial | (simp_all;done) | grind) | exact Kd.Q_mono HO116.out (fun _ hk => by first | trivial | (simp_all;done) | grind) | exact Kd.N_mono HO116.out (fun _ hk => by first | trivial | (simp_all;done) | grind)),fun _ => HI104.out,HB.out,fun h_ => absurd h_ (by decide),fun h_ => absurd h_ (by decide),fun h_ => absurd h_ (by decide),fun h_ => absurd h_ (by decide),fun h_ => absurd h_ (by decide)⟩
      ·skip
       clear HB HI104 HO116
       refine steps_cons ?_ ?_
       ·rintro b a w' ⟨v142,adz_v142,m8_,ha,Q_HO116,Q_HI104,Q_HB,Q_HI104_e3,Q_HO143,Q_HA_HO143,Q_HI104_e7,Q_X8_⟩ hb_ hon hoff
        refine ⟨_,rfl,fun K hK => ?_⟩
        have e26 : a.tmps[26]? = some (.pointer (some ⟨g104,0,none⟩)) := by rw [ha];exact (putSel_off rfl).trans rfl
        replace ha := qq.mk ha
        have HO116 := qq.mk Q_HO116
        have HI104 := qq.mk (Q_HI104 hb_)
        have HB := qq.mk Q_HB
        refine goes_ Try.func88 (by kernel_rfl) rfl #[.pointer (some ⟨g104,0,none⟩),.int .i64 5] (by rfl) rfl rfl (by first | (simp only [List.map_toArray,List.map_cons,List.map_nil,Act.eval,Array.getD_eq_getD_getElem?,Option.getD_some,e26];done) | (simp only [List.map_toArray,List.map_cons,List.map_nil,Act.eval,Array.getD_eq_getD_getElem?,Option.getD_some,e26];rfl)) ?_
        with_reducible refine (qkx.calls g104 t101 t120 t121 5 t138 t139 t140 w _ ?side1 ?side2 A33.out).mono ?_
        (case side1 => repeat (first | (with_reducible first | exact HI104.out | apply ww.alloc | apply ww.drewN | apply ww.drew | apply ww.set_1 | apply ww.set_2) | exact HI104.out))
        (case side2 => repeat (first | (with_reducible first | exact HB.out | apply qj | apply qz | apply qk | refine qx ?_ (ww.ge HI104.out)) | exact HB.out))
        rintro e w40 ⟨rfl,hi,hb,hk⟩
        refine ⟨_,rfl,?_⟩
        have n0_ := qq.mk (Kd.R_mono (Kd.R_keep (ww.apart (show ww w _ g104 t101 t120 t121 from by repeat (first | (with_reducible first | exact HI104.out | apply ww.alloc | apply ww.drewN | apply ww.drew | apply ww.set_1 | apply ww.set_2) | exact HI104.out)) (by (with_reducible repeat (first | apply Kd.jq | apply Kd.zx | apply Kd.jz));first | exact HO116.out | exact Kd.R_mono HO116.out (fun _ hk => by first | trivial | (simp_all;done) | grind)) (by decide)) hk (fun _ h => h.2)) (fun _ h => h.1))
        have n1_ := qq.mk (hb)
        have n2_ := qq.mk (hi)
        clear HO116
        clear HB
        clear HI104
        have HO116 := n0_
        have HB := n1_
        have HI104 := n2_
        clear n0_ n1_ n2_
        (try clear hb)
        (try clear hb2)
        (try clear hk)
        (try clear hi)
        refine hK.out _ _ ⟨v142,adz_v142,m8_,(by rw [ha.out];exact putSel_upk 0 hb_ rfl rfl rfl),(by (with_reducible repeat (first | apply Kd.jq | apply Kd.zx | apply Kd.jz));exact Kd.R_mono HO116.out (fun _ hk => by first | exact hk.1 | trivial | (simp_all;done) | grind)),fun h0_ => absurd ((up_self b 3).symm.trans h0_) (by decide),(by repeat (first | (with_reducible first | exact HB.out | apply qj | apply qz | apply qk | refine qx ?_ (ww.ge HI104.out)) | exact HB.out)),fun _ _ => (by repeat (first | (with_reducible first | exact HI104.out | apply ww.alloc | apply ww.drewN | apply ww.drew | apply ww.set_1 | apply ww.set_2) | exact HI104.out)),fun h0_ => absurd ((hoff 5 (by kernel_rfl)).symm.trans h0_) (by decide),fun h0_ => absurd ((hoff 5 (by kernel_rfl)).symm.trans h0_) (by decide),fun h0_ => absurd ((hoff 7 (by kernel_rfl)).symm.trans h0_) (by decide),fun h0_ => absurd ((hoff 8 (by kernel_rfl)).symm.trans h0_) (by decide)⟩
       refine steps_cons ?_ ?_
       ·rintro b a w' ⟨v142,adz_v142,m8_,ha,Q_HO116,Q_HI104,Q_HB,Q_HI104_e3,Q_HO143,Q_HA_HO143,Q_HI104_e7,Q_X8_⟩ hb_ hon hoff
        refine ⟨_,rfl,fun K hK => ?_⟩
        have e27 : a.tmps[27]? = some (.int .i64 t138) := by rw [ha];exact putSel_on (e := (3,27,.int .i64 t138)) 0 rfl rfl (hon 3 (by kernel_rfl)) rfl
        replace ha := qq.mk ha
        have HO116 := qq.mk Q_HO116
        have HB := qq.mk Q_HB
        refine value_ (w1 := w') (v := .int .i64 (wrap64 (1 + t138))) (by rfl) rfl ?_ ?_
        ·go_simp
         (try simp only [i64_w])
         try rfl
        refine hK.out _ _ ⟨v142,adz_v142,m8_,(by rw [ha.out];exact putSel_upk 1 hb_ rfl rfl rfl),Q_HO116,fun h0_ => absurd ((hon 3 (by kernel_rfl)).symm.trans h0_) (by decide),Q_HB,Q_HI104_e3,fun h0_ => absurd ((hoff 5 (by kernel_rfl)).symm.trans h0_) (by decide),fun h0_ => absurd ((hoff 5 (by kernel_rfl)).symm.trans h0_) (by decide),Q_HI104_e7,fun h0_ => absurd ((hoff 8 (by kernel_rfl)).symm.trans h0_) (by decide)⟩
       refine steps_cons ?_ ?_
       ·rintro b a w' ⟨v142,adz_v142,m8_,ha,Q_HO116,Q_HI104,Q_HB,Q_HI104_e3,Q_HO143,Q_HA_HO143,Q_HI104_e7,Q_X8_⟩ hb_ hon hoff
        refine ⟨_,rfl,fun K hK => ?_⟩
        have e28 : a.tmps[28]? = some (.int .i64 (wrap64 (1 + t138))) := by rw [ha];exact putSel_on (e := (4,28,.int .i64 (wrap64 (1 + t138)))) 1 rfl rfl (hon 4 (by kernel_rfl)) rfl
        replace ha := qq.mk ha
        have HO116 := qq.mk Q_HO116
        have HB := qq.mk Q_HB
        refine Kd.R_lit_step (Kd.int .i64) _ 3 ?hg (N := 29) ?hd (xs := ([wrap64 (1 + t138),0,1,1000,1001] : List Int)) (inner := [.int .i64 (wrap64 (1 + t138)),.int .i64 0,.int .i64 1,.int .i64 1000,.int .i64 1001]) (ok := fun _ => True) (okp := fun _ => True) ?hr ?hp (fun _ hk => by first | exact hk | trivial | (simp_all;done) | grind) trivial (Below.refl _ _) (Nat.le_refl _) (by simp) ?_;(case hd => rfl);(case hg => rfl);(case hr => first | (go_simp;done) | (go_simp;rfl));(case hp => exact (Reps.one (show Kd.M (Kd.int .i64) _ _ _ (wrap64 (1 + t138)) [.int .i64 (wrap64 (1 + t138))] from rfl) (Reps.one (show Kd.M (Kd.int .i64) _ _ _ 0 [.int .i64 0] from rfl) (Reps.one (show Kd.M (Kd.int .i64) _ _ _ 1 [.int .i64 1] from rfl) (Reps.one (show Kd.M (Kd.int .i64) _ _ _ 1000 [.int .i64 1000] from rfl) (Reps.one (show Kd.M (Kd.int .i64) _ _ _ 1001 [.int .i64 1001] from rfl) (Reps.none _ _)))))))
        intro v142 w42 ho43 hb hg_ hnew_
        clear hg_ hnew_
        (first | rw [← Ny141.out] at ho43 | (simp only [Int.reduceToNat] at ho43;rw [← Ny141.out] at ho43))
        have n0_ := qq.mk (Kd.R_below (by (with_reducible repeat (first | apply Kd.jq | apply Kd.zx | apply Kd.jz));first | exact HO116.out | exact Kd.R_mono HO116.out (fun _ hk => by first | trivial | (simp_all;done) | grind)) hb)
        have n1_ := qq.mk (Kd.R_lower (Kd.R_newM (M := fun k_ => (w.heap.size ≤ k_)) ho43 (zw (by repeat (first | (with_reducible first | exact HB.out | apply qj | apply qz | apply qk) | exact HB.out))) (fun k_ h_ => h_)) (zw (by repeat (first | (with_reducible first | exact HB.out | apply qj | apply qz | apply qk) | exact HB.out))))
        have n3_ := qq.mk (zv (by repeat (first | (with_reducible first | exact HB.out | apply qj | apply qz | apply qk) | exact HB.out)) hb)
        have z_HI104_e3 := fun (h0_ : b 3 = true) (h1_ : b 7 = false) => (show ww w w42 g104 t101 t139 t140 from by first | exact (ww.below (by repeat (first | (with_reducible first | exact (Q_HI104_e3 h0_ h1_) | apply ww.alloc | apply ww.drewN | apply ww.drew | apply ww.set_1 | apply ww.set_2) | exact (Q_HI104_e3 h0_ h1_))) hb))
        have z_HI104_e7 := fun (h0_ : b 7 = true) => (show ww w w42 g104 t101 t145 t146 from by first | exact (ww.below (by repeat (first | (with_reducible first | exact (Q_HI104_e7 h0_) | apply ww.alloc | apply ww.drewN | apply ww.drew | apply ww.set_1 | apply ww.set_2) | exact (Q_HI104_e7 h0_))) hb))
        clear HO116
        clear HB
        have HO116 := n0_
        have HO143 := n1_
        have HB := n3_
        clear n0_ n1_ n3_
        clear hb ho43
        obtain ⟨Ao44,co44,eo44⟩ := Kd.R_slice HO143.out
        subst eo44
        obtain ⟨ado44,fo44,_⟩ := Kd.at_int (Kd.R_reads' HO143.out).2.2 0 (by decide) (by rw [Ny141.out];simp)
        cases fo44
        refine hK.out _ _ ⟨.slice (some ado44) y141.length co44,ado44,m8_,(by rw [ha.out];exact putSel_upk 2 hb_ rfl rfl rfl),(by (with_reducible repeat (first | apply Kd.jq | apply Kd.zx | apply Kd.jz));first | exact HO116.out | exact Kd.R_mono HO116.out (fun _ hk => by first | trivial | (simp_all;done) | grind)),fun h0_ => absurd ((hon 3 (by kernel_rfl)).symm.trans h0_) (by decide),(by repeat (first | (with_reducible first | exact HB.out | apply qj | apply qz | apply qk) | exact HB.out)),z_HI104_e3,fun _ => (by (with_reducible repeat (first | apply Kd.jq | apply Kd.zx | apply Kd.jz));exact Kd.R_mono HO143.out (fun _ hk => by first | exact hk.1 | trivial | (simp_all;done) | grind)),fun _ => ⟨_,rfl⟩,z_HI104_e7,fun h0_ => absurd ((hoff 8 (by kernel_rfl)).symm.trans h0_) (by decide)⟩
       refine steps_cons ?_ ?_
       ·rintro b a w' ⟨v142,adz_v142,m8_,ha,Q_HO116,Q_HI104,Q_HB,Q_HI104_e3,Q_HO143,Q_HA_HO143,Q_HI104_e7,Q_X8_⟩ hb_ hon hoff
        refine ⟨_,rfl,fun K hK => ?_⟩
        have e30 : a.tmps[30]? = some (.pointer (some ⟨g104,0,none⟩)) := by rw [ha];exact (putSel_off rfl).trans rfl
        replace ha := qq.mk ha
        have HO116 := qq.mk Q_HO116
        have HB := qq.mk Q_HB
        have HI104 := qq.mk (Q_HI104_e3 (hon 3 (by kernel_rfl)) hb_)
        refine goes_ Try.func95 (by kernel_rfl) rfl #[.pointer (some ⟨g104,0,none⟩),.int .i64 5] (by rfl) rfl rfl (by first | (simp only [List.map_toArray,List.map_cons,List.map_nil,Act.eval,Array.getD_eq_getD_getElem?,Option.getD_some,e30];done) | (simp only [List.map_toArray,List.map_cons,List.map_nil,Act.eval,Array.getD_eq_getD_getElem?,Option.getD_some,e30];rfl)) ?_
        with_reducible refine (qvq.calls g104 t101 t139 t140 5 t144 t145 t146 w _ ?side1 ?side2 A34.out).mono ?_
        (case side1 => repeat (first | (with_reducible first | exact HI104.out | apply ww.alloc | apply ww.drewN | apply ww.drew | apply ww.set_1 | apply ww.set_2) | exact HI104.out))
        (case side2 => repeat (first | (with_reducible first | exact HB.out | apply qj | apply qz | apply qk | refine qx ?_ (ww.ge HI104.out)) | exact HB.out))
        rintro e w42 ⟨rfl,hi,hb,hk⟩
        refine ⟨_,rfl,?_⟩
        have n0_ := qq.mk (Kd.R_mono (Kd.R_keep (ww.apart (show ww w _ g104 t101 t139 t140 from by repeat (first | (with_reducible first | exact HI104.out | apply ww.alloc | apply ww.drewN | apply ww.drew | apply ww.set_1 | apply ww.set_2) | exact HI104.out)) (by (with_reducible repeat (first | apply Kd.jq | apply Kd.zx | apply Kd.jz));first | exact HO116.out | exact Kd.R_mono HO116.out (fun _ hk => by first | trivial | (simp_all;done) | grind)) (by decide)) hk (fun _ h => h.2)) (fun _ h => h.1))
        have n1_ := qq.mk (hb)
        have n2_ := qq.mk (hi)
        have z_HO143 := fun (h0_ : b 5 = true) => (show Kd.R (Kd.int .i64) 3 w42 w.heap.size (fun k_ => (w.heap.size ≤ k_)) v142 y141 from by first | exact (Kd.R_mono (Kd.R_keep (ww.apart (show ww w _ g104 t101 t139 t140 from by repeat (first | (with_reducible first | exact HI104.out | apply ww.alloc | apply ww.drewN | apply ww.drew | apply ww.set_1 | apply ww.set_2) | exact HI104.out)) (by (with_reducible repeat (first | apply Kd.jq | apply Kd.zx | apply Kd.jz));exact (Q_HO143 h0_)) (by decide)) hk (fun _ h => h.2)) (fun _ h => h.1)) | exact Kd.R_mono (Kd.R_mono (Kd.R_keep (ww.apart (show ww w _ g104 t101 t139 t140 from by repeat (first | (with_reducible first | exact HI104.out | apply ww.alloc | apply ww.drewN | apply ww.drew | apply ww.set_1 | apply ww.set_2) | exact HI104.out)) (by (with_reducible repeat (first | apply Kd.jq | apply Kd.zx | apply Kd.jz));exact (Q_HO143 h0_)) (by decide)) hk (fun _ h => h.2)) (fun _ h => h.1)) (fun _ h_ => by first | trivial | exact h_ | exact h_.1))
        clear HO116
        clear HB
        clear HI104
        have HO116 := n0_
        have HB := n1_
        have HI104 := n2_
        clear n0_ n1_ n2_
        (try clear hb)
        (try clear hb2)
        (try clear hk)
        (try clear hi)
        refine hK.out _ _ ⟨v142,adz_v142,m8_,(by rw [ha.out];exact putSel_upk 3 hb_ rfl rfl rfl),(by (with_reducible repeat (first | apply Kd.jq | apply Kd.zx | apply Kd.jz));first | exact HO116.out | exact Kd.R_mono HO116.out (fun _ hk => by first | trivial | (simp_all;done) | grind)),fun h0_ => absurd ((hon 3 (by kernel_rfl)).symm.trans h0_) (by decide),(by repeat (first | (with_reducible first | exact HB.out | apply qj | apply qz | apply qk | refine qx ?_ (ww.ge HI104.out)) | exact HB.out)),fun _ h1_ => absurd ((up_self b 7).symm.trans h1_) (by decide),z_HO143,Q_HA_HO143,fun _ => (by repeat (first | (with_reducible first | exact HI104.out | apply ww.alloc | apply ww.drewN | apply ww.drew | apply ww.set_1 | apply ww.set_2) | exact HI104.out)),fun h0_ => absurd ((hoff 8 (by kernel_rfl)).symm.trans h0_) (by decide)⟩
       refine steps_cons ?_ ?_
       ·rintro b a w' ⟨v142,adz_v142,m8_,ha,Q_HO116,Q_HI104,Q_HB,Q_HI104_e3,Q_HO143,Q_HA_HO143,Q_HI104_e7,Q_X8_⟩ hb_ hon hoff
        refine ⟨_,rfl,fun K hK => ?_⟩
        have e29 : a.tmps[29]? = some (v142) := by rw [ha];exact putSel_on (e := (5,29,v142)) 2 rfl rfl (hon 5 (by kernel_rfl)) rfl
        have e31 : a.tmps[31]? = some (.int .i64 t144) := by rw [ha];exact putSel_on (e := (7,31,.int .i64 t144)) 3 rfl rfl (hon 7 (by kernel_rfl)) rfl
        replace ha := qq.mk ha
        have HO116 := qq.mk Q_HO116
        have HB := qq.mk Q_HB
        have HO143 := qq.mk (Q_HO143 (hon 5 (by kernel_rfl)))
        have HA_HO143 := qq.mk (Q_HA_HO143 (hon 5 (by kernel_rfl)))
        have HI104 := qq.mk (Q_HI104_e7 (hon 7 (by kernel_rfl)))
        obtain ⟨c_,hv_⟩ := HA_HO143.out
        rw [hv_] at e29
        refine value_ (w1 := w') (v := .pointer (some (adz_v142.add (t144).toNat))) (by rfl) rfl ?_ ?_
        ·go_simp
         (try simp only [i64_w])
         try rfl
        refine hK.out _ _ ⟨v142,adz_v142,(.pointer (some (adz_v142.add (t144).toNat))),(by rw [ha.out];exact putSel_upk 4 hb_ rfl rfl rfl),Q_HO116,fun h0_ => absurd ((hon 3 (by kernel_rfl)).symm.trans h0_) (by decide),Q_HB,fun _ h1_ => absurd ((hon 7 (by kernel_rfl)).symm.trans h1_) (by decide),Q_HO143,Q_HA_HO143,Q_HI104_e7,fun _ => rfl⟩
       refine steps_cons ?_ ?_
       ·rintro b a w' ⟨v142,adz_v142,m8_,ha,Q_HO116,Q_HI104,Q_HB,Q_HI104_e3,Q_HO143,Q_HA_HO143,Q_HI104_e7,Q_X8_⟩ hb_ hon hoff
        refine ⟨_,rfl,fun K hK => ?_⟩
        have e32 : a.tmps[32]? = some (m8_) := by rw [ha];exact putSel_on (e := (8,32,m8_)) 4 rfl rfl (hon 8 (by kernel_rfl)) rfl
        rw [Q_X8_ (hon 8 (by kernel_rfl))] at e32
        replace ha := qq.mk ha
        have HO116 := qq.mk Q_HO116
        have HB := qq.mk Q_HB
        have HO143 := qq.mk (Q_HO143 (hon 5 (by kernel_rfl)))
        have HA_HO143 := qq.mk (Q_HA_HO143 (hon 5 (by kernel_rfl)))
        have HI104 := qq.mk (Q_HI104_e7 (hon 7 (by kernel_rfl)))
        obtain ⟨c_,hv_⟩ := HA_HO143.out
        have hF_ := HO143.out
        rw [hv_] at hF_
        obtain ⟨ad_,ea_,hx_⟩ := Kd.at_int (Kd.R_reads' hF_).2.2 t144 (of_eq_true pi147) (of_eq_true qi147)
        cases ea_
        refine value_ (w1 := w') (v := .int .i64 (rd y141 t144)) (by rfl) rfl ?_ ?_
        ·go_simp
         (try simp only [i64_w])
         try rfl
        refine hK.out _ _ ⟨v142,adz_v142,m8_,(by rw [ha.out];exact putSel_upk 5 hb_ rfl rfl rfl),Q_HO116,fun h0_ => absurd ((hon 3 (by kernel_rfl)).symm.trans h0_) (by decide),Q_HB,fun _ h1_ => absurd ((hon 7 (by kernel_rfl)).symm.trans h1_) (by decide),Q_HO143,Q_HA_HO143,Q_HI104_e7,Q_X8_⟩
       refine steps_cons ?_ ?_
       ·rintro b a w' ⟨v142,adz_v142,m8_,ha,Q_HO116,Q_HI104,Q_HB,Q_HI104_e3,Q_HO143,Q_HA_HO143,Q_HI104_e7,Q_X8_⟩ hb_ hon hoff
        refine ⟨_,rfl,fun K hK => ?_⟩
        have e24 : a.tmps[24]? = some (.string x6_4) := by rw [ha];exact (putSel_off rfl).trans rfl
        replace ha := qq.mk ha
        have HO116 := qq.mk Q_HO116
        have HB := qq.mk Q_HB
        have HI104 := qq.mk (Q_HI104_e7 (hon 7 (by kernel_rfl)))
        refine value_ (w1 := w') (v := .string x6_4) (by rfl) rfl ?_ ?_
        ·go_simp
         (try simp only [i64_w])
         try rfl
        refine hK.out _ _ ⟨v142,adz_v142,m8_,(by rw [ha.out];exact putSel_upk 6 hb_ rfl rfl rfl),Q_HO116,fun h0_ => absurd ((hon 3 (by kernel_rfl)).symm.trans h0_) (by decide),Q_HB,fun _ h1_ => absurd ((hon 7 (by kernel_rfl)).symm.trans h1_) (by decide),Q_HO143,Q_HA_HO143,Q_HI104_e7,Q_X8_⟩
       refine steps_cons ?_ ?_
       ·rintro b a w' ⟨v142,adz_v142,m8_,ha,Q_HO116,Q_HI104,Q_HB,Q_HI104_e3,Q_HO143,Q_HA_HO143,Q_HI104_e7,Q_X8_⟩ hb_ hon hoff
        refine ⟨_,rfl,fun K hK => ?_⟩
        have e25 : a.tmps[25]? = some (v115) := by rw [ha];exact (putSel_off rfl).trans rfl
        replace ha := qq.mk ha
        have HO116 := qq.mk Q_HO116
        have HB := qq.mk Q_HB
        have HI104 := qq.mk (Q_HI104_e7 (hon 7 (by kernel_rfl)))
        refine value_ (w1 := w') (v := v115) (by rfl) rfl ?_ ?_
        ·go_simp
         (try simp only [i64_w])
         try rfl
        refine hK.out _ _ ⟨v142,adz_v142,m8_,(by rw [ha.out];exact putSel_upk 7 hb_ rfl rfl rfl),Q_HO116,fun h0_ => absurd ((hon 3 (by kernel_rfl)).symm.trans h0_) (by decide),Q_HB,fun _ h1_ => absurd ((hon 7 (by kernel_rfl)).symm.trans h1_) (by decide),Q_HO143,Q_HA_HO143,Q_HI104_e7,Q_X8_⟩
       refine steps_cons ?_ ?_
       ·rintro b a w' ⟨v142,adz_v142,m8_,ha,Q_HO116,Q_HI104,Q_HB,Q_HI104_e3,Q_HO143,Q_HA_HO143,Q_HI104_e7,Q_X8_⟩ hb_ hon hoff
        refine ⟨_,rfl,fun K hK => ?_⟩
        have e33 : a.tmps[33]? = some (.int .i64 (rd y141 t144)) := by rw [ha];exact putSel_on (e := (9,33,.int .i64 (rd y141 t144))) 5 rfl rfl (hon 9 (by kernel_rfl)) rfl
        replace ha := qq.mk ha
        have HO116 := qq.mk Q_HO116
        have HB := qq.mk Q_HB
        have HO143 := qq.mk (Q_HO143 (hon 5 (by kernel_rfl)))
        have HA_HO143 := qq.mk (Q_HA_HO143 (hon 5 (by kernel_rfl)))
        have HI104 := qq.mk (Q_HI104_e7 (hon 7 (by kernel_rfl)))
        refine value_ (w1 := w') (v := .int .i64 (rd y141 t144)) (by rfl) rfl ?_ ?_
        ·go_simp
         (try simp only [i64_w])
         try rfl
        refine hK.out _ _ ⟨v142,adz_v142,m8_,(by rw [ha.out];exact putSel_upk 8 hb_ rfl rfl rfl),Q_HO116,fun h0_ => absurd ((hon 3 (by kernel_rfl)).symm.trans h0_) (by decide),Q_HB,fun _ h1_ => absurd ((hon 7 (by kernel_rfl)).symm.trans h1_) (by decide),Q_HO143,Q_HA_HO143,Q_HI104_e7,Q_X8_⟩
       exact steps_nil
      rintro b a w45 hall ⟨v142,adz_v142,m8_,ha,Q_HO116,Q_HI104,Q_HB,Q_HI104_e3,Q_HO143,Q_HA_HO143,Q_HI104_e7,Q_X8_⟩
      clear HB HI104 HO116
      have hb3_ := hall 3 (by kernel_rfl)
      have hb4_ := hall 4 (by kernel_rfl)
      have hb5_ := hall 5 (by kernel_rfl)
      have hb7_ := hall 7 (by kernel_rfl)
      have hb8_ := hall 8 (by kernel_rfl)
      have hb9_ := hall 9 (by kernel_rfl)
      have hb10_ := hall 10 (by kernel_rfl)
      have hb11_ := hall 11 (by kernel_rfl)
      have hb12_ := hall 12 (by kernel_rfl)
      subst ha
      obtain rfl := Q_X8_ hb8_
      simp only [putSel,hb3_,hb4_,hb5_,hb7_,hb8_,hb9_,hb10_,hb11_,hb12_,if_true,Act.put,List.setIfInBounds_toArray,List.set_cons_zero,List.set_cons_succ]
      have HO116 := qq.mk Q_HO116
      clear Q_HO116
      clear Q_HI104
      have HB := qq.mk Q_HB
      clear Q_HB
      clear Q_HI104_e3
      have HO143 := qq.mk (Q_HO143 hb5_)
      clear Q_HO143
      have HA_HO143 := qq.mk (Q_HA_HO143 hb5_)
      clear Q_HA_HO143
      have HI104 := qq.mk (Q_HI104_e7 hb7_)
      clear Q_HI104_e7
      clear hall hb3_ hb4_ hb5_ hb7_ hb8_ hb9_ hb10_ hb11_ hb12_
      obtain ⟨co46,eo46⟩ := HA_HO143.out
      clear HA_HO143
      subst eo46
      try go_wp2
      go_ret3
      exact ⟨_,by first | rfl | (simp [*,kz,jx] <;> rfl),Kd.R_V (by (with_reducible repeat (first | apply Kd.jq | apply Kd.zx | apply Kd.jz));first | exact HO116.out | exact Kd.R_mono HO116.out (fun _ hk => by first | trivial | (simp_all;done) | grind)),by repeat (first | (with_reducible first | exact HB.out | apply qj | apply qz | apply qk | refine qx ?_ (ww.ge HI104.out)) | exact HB.out)⟩
     ·rw [if_neg c36] at H
      exact absurd H (by simp)
    ·rw [if_neg c35] at H
     exact absurd H (by simp)
def qzz.f (l0 : List Int) (l1 : List Int) : Option (Bool) := some ((strOfNums l0).toList == (strOfNums l1).toList)
set_option maxHeartbeats 8000000 in
set_option maxRecDepth 100000 in
theorem qzz.calls (A0 : Option Addr) (c0 : Nat) (l0 : List Int) (A1 : Option Addr) (c1 : Nat) (l1 : List Int) (r : Bool) (w : World) (hr0 : Kd.C (Kd.int .u8) w A0 l0.length l0) (hc0 : l0.length ≤ c0) (hr1 : Kd.C (Kd.int .u8) w A1 l1.length l1) (hc1 : l1.length ≤ c1) (h : qzz.f l0 l1 = some r) :
  Calls Try.prog 45 #[.slice A0 l0.length c0,.slice A1 l1.length c1] w fun e w' => e = .returned (.bool r) ∧ Drawn0 w w' := by
 have HR0 := qq.mk hr0
 have HC0 := qq.mk hc0
 clear hr0 hc0
 have HR1 := qq.mk hr1
 have HC1 := qq.mk hc1
 clear hr1 hc1
 have H : (some ((strOfNums l0).toList == (strOfNums l1).toList)) = some r := h
 clear h
 obtain rfl := Option.some.inj H
 have hcv3 := Kd.C_string (P := Try.prog) (A := A0) (c := c0) Try.underlying26 Try.underlying5 Try.underlying9 HR0.out
 have hcv4 := Kd.C_string (P := Try.prog) (A := A1) (c := c1) Try.underlying26 Try.underlying5 Try.underlying9 HR1.out
 go_enter Try.func45,Try.ntmps45
 go_wp2
 go_ret
 exact ⟨by first | rfl | (simp;done) | (simp [*];done),by repeat (first | exact Drawn0.refl _ | apply Drawn0.step)⟩
def qvz.f (k : Nat) (s0_0 : List Int) (s0_1 : Int) (s0_2 : Int) : Option (List Int × Int × List Int × Int × Int) := (qkq.f k s0_0 s0_1 s0_2 5).bind fun bt102 => ((qkx.f s0_0 bt102.2.1 bt102.2.2 3).bind fun bt107 => ((qkw.f s0_0 bt107.2.1 bt107.2.2).bind fun bt111 => ((qjv.f k bt111.1 bt102.1 (wrap64 (1 + bt107.1))).bind fun t114 => (some (bt102.1,wrap64 (1 + bt107.1),t114,bt111.2.1,bt111.2.2)))))
def qvz.T2 : Bool × List (List Nat × List Nat) := (true,[([],[]),([0],[0]),([],[]),([2],[2]),([],[]),([4],[4]),([1,3,5,1],[1,3,5]),([0,1,2,3,4,5,6],[]),([7,6,6,0,1,2,3,4,5,6],[6,7])])
def qvz.B2 : List Nat := [0,1,0,4,0,16,63,127,255]
theorem qvz.tab2 : rtab .any (opsOf Try.f106 2) = qvz.T2 := by kernel_rfl
theorem qvz.bits2 : waitsOk qvz.T2.2 qvz.B2 = true := by kernel_rfl
set_option maxHeartbeats 8000000 in
set_option maxRecDepth 100000 in
theorem qvz.calls (k : Nat) (g : Nat) (s0_0 : List Int) (s0_1 : Int) (s0_2 : Int) (r1 : List Int) (r2 : Int) (r3 : List Int) (r4 : Int) (r5 : Int) (w0 w : World) (hI : ww w0 w g s0_0 s0_1 s0_2) (hB : Below w0.heap.size w0 w) (h : qvz.f k s0_0 s0_1 s0_2 = some (r1,r2,r3,r4,r5)) :
  Calls Try.prog 106 #[.pointer (some ⟨g,0,none⟩)] w fun e w' => ∃ v0_ v2_ : Value,e = .returned (.agg #[v0_,.int .i64 r2,v2_]) ∧ Kd.R (Kd.int .u8) 5 w' w.heap.size (fun k_ => some k_ ≠ (v2_ : Value).ownBlock) v0_ r1 ∧ Kd.R (Kd.int .u8) 5 w' w.heap.size (fun k_ => some k_ ≠ (v0_ : Value).ownBlock) v2_ r3 ∧ ww w0 w' g s0_0 r4 r5 ∧ Below w0.heap.size w0 w' ∧ zk w w' g none := by
 have hu82 := Try.underlying82
 have HI0 := qq.mk hI
 have HK := qq.mk (zk.refl w g none)
 have HL := qq.mk hB.size
 clear hI
 have HW0 := qq.mk hB.size
 have HB := qq.mk hB
 clear hB
 have H : ((qkq.f k s0_0 s0_1 s0_2 5).bind fun bt102 => ((qkx.f s0_0 bt102.2.1 bt102.2.2 3).bind fun bt107 => ((qkw.f s0_0 bt107.2.1 bt107.2.2).bind fun bt111 => ((qjv.f k bt111.1 bt102.1 (wrap64 (1 + bt107.1))).bind fun t114 => (some (bt102.1,wrap64 (1 + bt107.1),t114,bt111.2.1,bt111.2.2)))))) = some (r1,r2,r3,r4,r5) := h
 clear h
 replace H := Option.bind_eq_some_iff.mp H
 obtain ⟨⟨t102,t105,t106⟩,A20,H⟩ := H
 replace H : ((qkx.f s0_0 t105 t106 3).bind fun bt107 => ((qkw.f s0_0 bt107.2.1 bt107.2.2).bind fun bt111 => ((qjv.f k bt111.1 t102 (wrap64 (1 + bt107.1))).bind fun t114 => (some (t102,wrap64 (1 + bt107.1),t114,bt111.2.1,bt111.2.2))))) = some (r1,r2,r3,r4,r5) := H
 have A2 := qq.mk A20
 clear A20
 replace H := Option.bind_eq_some_iff.mp H
 obtain ⟨⟨t107,t108,t109⟩,A30,H⟩ := H
 replace H : ((qkw.f s0_0 t108 t109).bind fun bt111 => ((qjv.f k bt111.1 t102 (wrap64 (1 + t107))).bind fun t114 => (some (t102,wrap64 (1 + t107),t114,bt111.2.1,bt111.2.2)))) = some (r1,r2,r3,r4,r5) := H
 have A3 := qq.mk A30
 clear A30
 replace H := Option.bind_eq_some_iff.mp H
 obtain ⟨⟨t111,t112,t113⟩,A40,H⟩ := H
 replace H : ((qjv.f k t111 t102 (wrap64 (1 + t107))).bind fun t114 => (some (t102,wrap64 (1 + t107),t114,t112,t113))) = some (r1,r2,r3,r4,r5) := H
 have A4 := qq.mk A40
 clear A40
 replace H := Option.bind_eq_some_iff.mp H
 obtain ⟨t114,A50,H⟩ := H
 replace H : (some (t102,wrap64 (1 + t107),t114,t112,t113)) = some (r1,r2,r3,r4,r5) := H
 have A5 := qq.mk A50
 clear A50
 simp only [Option.some.injEq,Prod.mk.injEq] at H
 obtain ⟨rfl,rfl,rfl,rfl,rfl⟩ := H
 go_enter Try.func106,Try.ntmps106
 try go_wp2_with (first | ((with_reducible refine gate_dst (N := 2) rfl ?_);refine box_event ?hg (N := 2) ?hd (cs := #[.slice none 0 0,.int .i64 0,.slice none 0 0]) (t := 82) ?hr ?_;(case hd => rfl);(case hg => rfl);(case hr => first | (go_simp;done) | (go_simp;rfl));intro gb101 hg w6 hbox hb;have n0_ := qq.mk (ww.below (by repeat (first | (with_reducible first | exact HI0.out | apply ww.alloc | apply ww.drewN | apply ww.drew | apply ww.set_1 | apply ww.set_2) | exact HI0.out)) hb);have n1_ := qq.mk (zk.trans (by repeat (first | (with_reducible first | exact HK.out | apply zk.set_ | apply jj | apply jv | apply jk) | exact HK.out)) (zk.of_below hb g none) (.inl rfl));have n2_ := qq.mk (zv (by repeat (first | (with_reducible first | exact HB.out | apply qj | apply qz | apply qk | refine qx ?_ (ww.ge HI0.out)) | exact HB.out)) hb);have n3_ := qq.mk (hbox);have n4_ := qq.mk ((by rw [hg];exact (keep_size (w := w) (g := g) (row := none) (by repeat (first | (with_reducible first | exact HK.out | apply zk.set_ | apply jj | apply jv | apply jk) | exact HK.out))) : w.heap.size ≤ gb101));have n5_ := qq.mk ((Nat.le_trans HW0.out (by rw [hg];exact (keep_size (w := w) (g := g) (row := none) (by repeat (first | (with_reducible first | exact HK.out | apply zk.set_ | apply jj | apply jv | apply jk) | exact HK.out))) : w.heap.size ≤ gb101) : w0.heap.size ≤ gb101));have n6_ := qq.mk ((by rw [hg];exact Nat.ne_of_lt (ww.lt (show ww w0 _ g s0_0 s0_1 s0_2 from by repeat (first | (with_reducible first | exact HI0.out | apply ww.alloc | apply ww.drewN | apply ww.drew | apply ww.set_1 | apply ww.set_2) | exact HI0.out))) : g ≠ gb101));have n7_ := qq.mk ((by rw [hg];exact Nat.ne_of_gt (ww.lt (show ww w0 _ g s0_0 s0_1 s0_2 from by repeat (first | (with_reducible first | exact HI0.out | apply ww.alloc | apply ww.drewN | apply ww.drew | apply ww.set_1 | apply ww.set_2) | exact HI0.out))) : gb101 ≠ g));clear HI0;clear HK;clear HB;have HI0 := n0_;have HK := n1_;have HB := n2_;have BK101 := n3_;have GW101 := n4_;have GE101 := n5_;have NB0_101 := n6_;have NB101_0 := n7_;clear n0_ n1_ n2_ n3_ n4_ n5_ n6_ n7_;clear hb hbox hg) | ((with_reducible refine kj (f := 94) rfl ?_);refine goesL_ (some 5) rfl rfl Try.func94 (by kernel_rfl) rfl #[.pointer (some ⟨g,0,none⟩),.int .i64 5] rfl (by (try simp only [List.map_toArray,List.map_cons,List.map_nil]);first | done | rfl | (simp only [List.length_drop,List.length_take];rfl)) ?_;(with_reducible refine (qkq.calls k g s0_0 s0_1 s0_2 5 t102 t105 t106 w0 _ ?side1 ?side2 A2.out).mono ?_);(case side1 => repeat (first | (with_reducible first | exact HI0.out | apply ww.alloc | apply ww.drewN | apply ww.drew | apply ww.set_1 | apply ww.set_2 | refine ww.far ?_ NB0_101.out _) | exact HI0.out));(case side2 => repeat (first | (with_reducible first | exact HB.out | apply qj | apply qz | apply qk | refine qx ?_ (ww.ge HI0.out) | refine qx ?_ GE101.out) | exact HB.out));rintro e w7 ⟨v103,rfl,ho0,hi,hb,hk⟩;refine ⟨_,rfl,?_⟩;have n0_ := qq.mk (zk.blk hk (g' := gb101) (o := .cells #[.slice none 0 0,.int .i64 0,.slice none 0 0] 82 (0,0)) (by (with_reducible repeat (first | refine zz ?_ _ | refine zj ?_ | refine zq ?_ _));exact BK101.out) NB101_0.out (by simp));have n1_ := qq.mk (Kd.R_lower ho0 (keep_size (w := w) (g := g) (row := none) (by repeat (first | (with_reducible first | exact HK.out | apply zk.set_ | apply jj | apply jv | apply jk | refine jw ?_ GW101.out _) | exact HK.out))));have n2_ := qq.mk (zk.trans (by repeat (first | (with_reducible first | exact HK.out | apply zk.set_ | apply jj | apply jv | apply jk | refine jw ?_ GW101.out _) | exact HK.out)) hk (.inl rfl));have n3_ := qq.mk (hb);have n4_ := qq.mk (hi);clear BK101;clear HK;clear HB;clear HI0;have BK101 := n0_;have HO104 := n1_;have HK := n2_;have HB := n3_;have HI0 := n4_;clear n0_ n1_ n2_ n3_ n4_;(try clear hb);(try clear hb2);(try clear hk);(try clear hi);(try clear ho0)) | ((with_reducible refine kj (f := 88) rfl ?_);refine goesL_ (some 7) rfl rfl Try.func88 (by kernel_rfl) rfl #[.pointer (some ⟨g,0,none⟩),.int .i64 3] rfl (by (try simp only [List.map_toArray,List.map_cons,List.map_nil]);first | done | rfl | (simp only [List.length_drop,List.length_take];rfl)) ?_;(with_reducible refine (qkx.calls g s0_0 t105 t106 3 t107 t108 t109 w0 _ ?side1 ?side2 A3.out).mono ?_);(case side1 => repeat (first | (with_reducible first | exact HI0.out | apply ww.alloc | apply ww.drewN | apply ww.drew | apply ww.set_1 | apply ww.set_2 | refine ww.far ?_ NB0_101.out _) | exact HI0.out));(case side2 => repeat (first | (with_reducible first | exact HB.out | apply qj | apply qz | apply qk | refine qx ?_ (ww.ge HI0.out) | refine qx ?_ GE101.out) | exact HB.out));rintro e w8 ⟨rfl,hi,hb,hk⟩;refine ⟨_,rfl,?_⟩;have n0_ := qq.mk (zk.blk hk (g' := gb101) (o := .cells #[.slice none 0 0,.int .i64 0,.slice none 0 0] 82 (0,0)) (by (with_reducible repeat (first | refine zz ?_ _ | refine zj ?_ | refine zq ?_ _));exact BK101.out) NB101_0.out (by simp));have n1_ := qq.mk (Kd.R_mono (Kd.R_keep (ww.apart (show ww w0 _ g s0_0 t105 t106 from by repeat (first | (with_reducible first | exact HI0.out | apply ww.alloc | apply ww.drewN | apply ww.drew | apply ww.set_1 | apply ww.set_2 | refine ww.far ?_ NB0_101.out _) | exact HI0.out)) (by (with_reducible repeat (first | apply Kd.jq | apply Kd.zx | apply Kd.jz));exact HO104.out) (by decide)) hk (fun _ h => h.2)) (fun _ h => h.1));have n2_ := qq.mk (zk.trans (by repeat (first | (with_reducible first | exact HK.out | apply zk.set_ | apply jj | apply jv | apply jk | refine jw ?_ GW101.out _) | exact HK.out)) hk (.inl rfl));have n3_ := qq.mk (hb);have n4_ := qq.mk (hi);clear BK101;clear HO104;clear HK;clear HB;clear HI0;have BK101 := n0_;have HO104 := n1_;have HK := n2_;have HB := n3_;have HI0 := n4_;clear n0_ n1_ n2_ n3_ n4_;(try clear hb);(try clear hb2);(try clear hk);(try clear hi);obtain ⟨Ao9,co9,eo9⟩ := Kd.R_slice HO104.out;subst eo9) | ((with_reducible refine gate_dst (N := 3) rfl ?_);refine box_event ?hg (N := 3) ?hd (cs := #[.slice none 0 0,.int .i64 0,.slice none 0 0]) (t := 82) ?hr ?_;(case hd => rfl);(case hg => rfl);(case hr => first | (go_simp;done) | (go_simp;rfl));intro gb110 hg w10 hbox hb;have n0_ := qq.mk (Kd.R_below (by (with_reducible repeat (first | apply Kd.jq | apply Kd.zx | apply Kd.jz));exact HO104.out) hb);have n1_ := qq.mk (ww.below (by repeat (first | (with_reducible first | exact HI0.out | apply ww.alloc | apply ww.drewN | apply ww.drew | apply ww.set_1 | apply ww.set_2 | refine ww.far ?_ NB0_101.out _) | exact HI0.out)) hb);have n2_ := qq.mk (wj (g := gb101) (o := .cells #[.slice none 0 0,.int .i64 0,.slice none 0 0] 82 (0,0)) (by (with_reducible repeat (first | refine zz ?_ _ | refine zj ?_ | refine zq ?_ _));exact BK101.out) hb);have n3_ := qq.mk (zk.trans (by repeat (first | (with_reducible first | exact HK.out | apply zk.set_ | apply jj | apply jv | apply jk | refine jw ?_ GW101.out _) | exact HK.out)) (zk.of_below hb g none) (.inl rfl));have n4_ := qq.mk (zv (by repeat (first | (with_reducible first | exact HB.out | apply qj | apply qz | apply qk | refine qx ?_ (ww.ge HI0.out) | refine qx ?_ GE101.out) | exact HB.out)) hb);have n5_ := qq.mk (hbox);have n6_ := qq.mk ((by rw [hg];exact (keep_size (w := w) (g := g) (row := none) (by repeat (first | (with_reducible first | exact HK.out | apply zk.set_ | apply jj | apply jv | apply jk | refine jw ?_ GW101.out _) | exact HK.out))) : w.heap.size ≤ gb110));have n7_ := qq.mk ((Nat.le_trans HW0.out (by rw [hg];exact (keep_size (w := w) (g := g) (row := none) (by repeat (first | (with_reducible first | exact HK.out | apply zk.set_ | apply jj | apply jv | apply jk | refine jw ?_ GW101.out _) | exact HK.out))) : w.heap.size ≤ gb110) : w0.heap.size ≤ gb110));have n8_ := qq.mk ((by rw [hg];exact Nat.ne_of_lt (blk_lt (g := gb101) (o := .cells #[.slice none 0 0,.int .i64 0,.slice none 0 0] 82 (0,0)) (by (with_reducible repeat (first | refine zz ?_ _ | refine zj ?_ | refine zq ?_ _));exact BK101.out)) : gb101 ≠ gb110));have n9_ := qq.mk ((by rw [hg];exact Nat.ne_of_gt (blk_lt (g := gb101) (o := .cells #[.slice none 0 0,.int .i64 0,.slice none 0 0] 82 (0,0)) (by (with_reducible repeat (first | refine zz ?_ _ | refine zj ?_ | refine zq ?_ _));exact BK101.out)) : gb110 ≠ gb101));have n10_ := qq.mk ((by rw [hg];exact Nat.ne_of_lt (ww.lt (show ww w0 _ g s0_0 t108 t109 from by repeat (first | (with_reducible first | exact HI0.out | apply ww.alloc | apply ww.drewN | apply ww.drew | apply ww.set_1 | apply ww.set_2 | refine ww.far ?_ NB0_101.out _) | exact HI0.out))) : g ≠ gb110));have n11_ := qq.mk ((by rw [hg];exact Nat.ne_of_gt (ww.lt (show ww w0 _ g s0_0 t108 t109 from by repeat (first | (with_reducible first | exact HI0.out | apply ww.alloc | apply ww.drewN | apply ww.drew | apply ww.set_1 | apply ww.set_2 | refine ww.far ?_ NB0_101.out _) | exact HI0.out))) : gb110 ≠ g));clear HO104;clear HI0;clear BK101;clear HK;clear HB;have HO104 := n0_;have HI0 := n1_;have BK101 := n2_;have HK := n3_;have HB := n4_;have BK110 := n5_;have GW110 := n6_;have GE110 := n7_;have NB101_110 := n8_;have NB110_101 := n9_;have NB0_110 := n10_;have NB110_0 := n11_;clear n0_ n1_ n2_ n3_ n4_ n5_ n6_ n7_ n8_ n9_ n10_ n11_;clear hb hbox hg;have hnb11 := NB110_101.out;have hnc11 := NB101_110.out;have hnb12 := NB110_0.out;have hnc12 := NB0_110.out;have hcz13_0 : w10.cell? ⟨gb110,0,none⟩ = some (.slice none 0 0) := (qw BK110.out 0).trans rfl;have hcz13_1 : w10.cell? ⟨gb110,1,none⟩ = some (.int .i64 0) := (qw BK110.out 1).trans rfl;have hcz13_2 : w10.cell? ⟨gb110,2,none⟩ = some (.slice none 0 0) := (qw BK110.out 2).trans rfl;have hfz13_0 := qv BK110.out 0;have hfz13_1 := qv BK110.out 1;have hfz13_2 := qv BK110.out 2))
 have n0_ : qq (Kd.R (Kd.int .u8) 5 (((w10.setCell ⟨gb110,0,none⟩ (.slice Ao9 t102.length co9)).setCell ⟨gb110,1,none⟩ (.int .i64 (wrap64 (1 + t107)))).setCell ⟨gb110,2,none⟩ (.slice none 0 0)) w.heap.size (fun _ => True) (.slice Ao9 t102.length co9) t102) := ⟨by (with_reducible repeat (first | apply Kd.jq | apply Kd.zx | apply Kd.jz));exact Kd.R_mono (Kd.R_far (p := ⟨gb110,2,none⟩) (Kd.R_far (p := ⟨gb110,1,none⟩) (Kd.R_far (p := ⟨gb110,0,none⟩) (Kd.R_types HO104.out BK110.out (by decide)) (fun _ hk => hk.2) (.slice Ao9 t102.length co9)) (fun _ hk => hk.2) (.int .i64 (wrap64 (1 + t107)))) (fun _ hk => hk.2) (.slice none 0 0)) (fun _ hk => trivial)⟩
 have n1_ : qq ((((w10.setCell ⟨gb110,0,none⟩ (.slice Ao9 t102.length co9)).setCell ⟨gb110,1,none⟩ (.int .i64 (wrap64 (1 + t107)))).setCell ⟨gb110,2,none⟩ (.slice none 0 0)).heap[gb101]? = some (.cells #[.slice none 0 0,.int .i64 0,.slice none 0 0] 82 (0,0))) := ⟨by (with_reducible repeat (first | refine zz ?_ _ | refine zj ?_ | refine zq ?_ _));refine blk_far ?_ NB101_110.out _;(with_reducible repeat (first | refine zz ?_ _ | refine zj ?_ | refine zq ?_ _));refine blk_far ?_ NB101_110.out _;(with_reducible repeat (first | refine zz ?_ _ | refine zj ?_ | refine zq ?_ _));refine blk_far ?_ NB101_110.out _;(with_reducible repeat (first | refine zz ?_ _ | refine zj ?_ | refine zq ?_ _));exact BK101.out⟩
 have n2_ : qq ((((w10.setCell ⟨gb110,0,none⟩ (.slice Ao9 t102.length co9)).setCell ⟨gb110,1,none⟩ (.int .i64 (wrap64 (1 + t107)))).setCell ⟨gb110,2,none⟩ (.slice none 0 0)).heap[gb110]? = some (.cells #[.slice Ao9 t102.length co9,.int .i64 (wrap64 (1 + t107)),.slice none 0 0] 82 (0,0))) := ⟨by (with_reducible repeat (first | refine zz ?_ _ | refine zj ?_ | refine zq ?_ _));refine blk_put (cs := #[.slice Ao9 t102.length co9,.int .i64 (wrap64 (1 + t107)),.slice none 0 0]) ?_ 2 _ rfl;(with_reducible repeat (first | refine zz ?_ _ | refine zj ?_ | refine zq ?_ _));refine blk_put (cs := #[.slice Ao9 t102.length co9,.int .i64 0,.slice none 0 0]) ?_ 1 _ rfl;(with_reducible repeat (first | refine zz ?_ _ | refine zj ?_ | refine zq ?_ _));refine blk_put (cs := #[.slice none 0 0,.int .i64 0,.slice none 0 0]) ?_ 0 _ rfl;(with_reducible repeat (first | refine zz ?_ _ | refine zj ?_ | refine zq ?_ _));exact BK110.out⟩
 have n3_ : qq (ww w0 (((w10.setCell ⟨gb110,0,none⟩ (.slice Ao9 t102.length co9)).setCell ⟨gb110,1,none⟩ (.int .i64 (wrap64 (1 + t107)))).setCell ⟨gb110,2,none⟩ (.slice none 0 0)) g s0_0 t108 t109) := ⟨by repeat (first | (with_reducible first | exact HI0.out | apply ww.alloc | apply ww.drewN | apply ww.drew | apply ww.set_1 | apply ww.set_2 | refine ww.far ?_ NB0_101.out _ | refine ww.far ?_ NB0_110.out _) | exact HI0.out)⟩
 have n4_ : qq (zk w (((w10.setCell ⟨gb110,0,none⟩ (.slice Ao9 t102.length co9)).setCell ⟨gb110,1,none⟩ (.int .i64 (wrap64 (1 + t107)))).setCell ⟨gb110,2,none⟩ (.slice none 0 0)) g none) := ⟨by repeat (first | (with_reducible first | exact HK.out | apply zk.set_ | apply jj | apply jv | apply jk | refine jw ?_ GW101.out _ | refine jw ?_ GW110.out _) | exact HK.out)⟩
 have n5_ : qq (Below w0.heap.size w0 (((w10.setCell ⟨gb110,0,none⟩ (.slice Ao9 t102.length co9)).setCell ⟨gb110,1,none⟩ (.int .i64 (wrap64 (1 + t107)))).setCell ⟨gb110,2,none⟩ (.slice none 0 0))) := ⟨by repeat (first | (with_reducible first | exact HB.out | apply qj | apply qz | apply qk | refine qx ?_ (ww.ge HI0.out) | refine qx ?_ GE101.out | refine qx ?_ GE110.out) | exact HB.out)⟩
 (try clear HO104)
 (try clear BK101)
 (try clear BK110)
 (try clear HI0)
 (try clear HK)
 (try clear HB)
 generalize (((w10.setCell ⟨gb110,0,none⟩ (.slice Ao9 t102.length co9)).setCell ⟨gb110,1,none⟩ (.int .i64 (wrap64 (1 + t107)))).setCell ⟨gb110,2,none⟩ (.slice none 0 0)) = w14 at n0_ n1_ n2_ n3_ n4_ n5_ ⊢
 have HO104 := n0_
 have BK101 := n1_
 have BK110 := n2_
 have HI0 := n3_
 have HK := n4_
 have HB := n5_
 clear n0_ n1_ n2_ n3_ n4_ n5_
 have n0_ := qq.mk (Kd.jz HO104.out)
 have n1_ := qq.mk (zj BK101.out)
 have n2_ := qq.mk (zj BK110.out)
 have n3_ := qq.mk (ww.drew HI0.out)
 have n4_ := qq.mk (jv HK.out)
 have n5_ := qq.mk (qk HB.out)
 clear HO104
 clear BK101
 clear BK110
 clear HI0
 clear HK
 clear HB
 have HO104 := n0_
 have BK101 := n1_
 have BK110 := n2_
 have HI0 := n3_
 have HK := n4_
 have HB := n5_
 clear n0_ n1_ n2_ n3_ n4_ n5_
 refine start_ (n := 9) (S := fun w' => w'.cell? ⟨gb110,0,none⟩ = some (.slice Ao9 t102.length co9) ∧ w'.cell? ⟨gb110,1,none⟩ = some (.int .i64 (wrap64 (1 + t107))) ∧ w'.cell? ⟨gb110,2,none⟩ = some (.slice none 0 0)) (ds := [8]) #[false,false,false,false,false,false,false,false,false] (by kernel_rfl) rfl rfl ⟨(qw BK110.out 0).trans rfl,(qw BK110.out 1).trans rfl,(qw BK110.out 2).trans rfl⟩ (fun hHeld => ?_);refine with_tabW qvz.tab2 qvz.bits2 (fun HT_ HW_ => ?_)
 generalize w14.drew = w15 at HO104 BK101 BK110 HI0 HK HB hHeld ⊢
 refine pure_ (i := 0) (N := some 10) (v := ?_) (a' := ?_) #[true,false,false,false,false,false,false,false,false] rfl rfl (any_of HT_.out (by kernel_rfl)) (fun _ _ _ h => h) (Or.inl ⟨by rfl,?_⟩) ?_ ?_
 rotate_left
 ·intro w'
  go_simp
  with_reducible rfl
 rotate_left
 ·simp only [Act.put,List.setIfInBounds_toArray,List.set_cons_zero,List.set_cons_succ,i64_w,i32_w]
  rfl
 refine pure_ (i := 2) (N := some 12) (v := ?_) (a' := ?_) #[true,false,true,false,false,false,false,false,false] rfl rfl (any_of HT_.out (by kernel_rfl)) (fun _ _ _ h => h) (Or.inl ⟨by rfl,?_⟩) ?_ ?_
 rotate_left
 ·intro w'
  go_simp
  with_reducible rfl
 rotate_left
 ·simp only [Act.put,List.setIfInBounds_toArray,List.set_cons_zero,List.set_cons_succ,i64_w,i32_w]
  rfl
 refine pure_ (i := 4) (N := some 14) (v := ?_) (a' := ?_) #[true,false,true,false,true,false,false,false,false] rfl rfl (any_of HT_.out (by kernel_rfl)) (fun _ _ _ h => h) (Or.inl ⟨by rfl,?_⟩) ?_ ?_
 rotate_left
 ·intro w'
  go_simp
  with_reducible rfl
 rotate_left
 ·simp only [Act.put,List.setIfInBounds_toArray,List.set_cons_zero,List.set_cons_succ,i64_w,i32_w]
  rfl
 refine take_ (i := 3) (N := some 13) (v := ?_) (a' := ?_) #[true,false,true,true,true,false,false,false,false] rfl rfl (take_ofW HT_.out HW_.out (by kernel_rfl)) (fun _ _ _ h => h) (Or.inl ⟨by rfl,?_⟩) hHeld ?_ ?_
 rotate_left
 ·rintro w' ⟨s0,s1,s2⟩
  go_simp
  with_reducible rfl
 rotate_left
 ·simp only [Act.put,List.setIfInBounds_toArray,List.set_cons_zero,List.set_cons_succ,i64_w,i32_w]
  rfl
 refine take_ (i := 5) (N := some 15) (v := ?_) (a' := ?_) #[true,false,true,true,true,true,false,false,false] rfl rfl (take_ofW HT_.out HW_.out (by kernel_rfl)) (fun _ _ _ h => h) (Or.inl ⟨by rfl,?_⟩) hHeld ?_ ?_
 rotate_left
 ·rintro w' ⟨s0,s1,s2⟩
  go_simp
  with_reducible rfl
 rotate_left
 ·simp only [Act.put,List.setIfInBounds_toArray,List.set_cons_zero,List.set_cons_succ,i64_w,i32_w]
  rfl
 refine one_ (i := 1) (N := some 11) #[true,true,true,true,true,true,false,false,false] rfl rfl (one_of HT_.out (by kernel_rfl)) (by decide) (fun K hK => ?_)
 refine goes_ Try.func101 (by kernel_rfl) rfl #[.pointer (some ⟨g,0,none⟩)] (by rfl) rfl rfl (by (try simp only [List.map_toArray,List.map_cons,List.map_nil]);first | done | rfl | (simp only [List.length_drop,List.length_take];rfl)) ?_
 with_reducible refine (qkw.calls g s0_0 t108 t109 t111 t112 t113 w0 _ ?side1 ?side2 A4.out).mono ?_
 (case side1 => repeat (first | (with_reducible first | exact HI0.out | apply ww.alloc | apply ww.drewN | apply ww.drew | apply ww.set_1 | apply ww.set_2 | refine ww.far ?_ NB0_101.out _ | refine ww.far ?_ NB0_110.out _) | exact HI0.out))
 (case side2 => repeat (first | (with_reducible first | exact HB.out | apply qj | apply qz | apply qk | refine qx ?_ (ww.ge HI0.out) | refine qx ?_ GE101.out | refine qx ?_ GE110.out) | exact HB.out))
 rintro e w16 ⟨rfl,hi,hb,hk⟩
 refine ⟨_,rfl,?_⟩
 have n0_ := qq.mk (zk.blk hk (g' := gb101) (o := .cells #[.slice none 0 0,.int .i64 0,.slice none 0 0] 82 (0,0)) (by (with_reducible repeat (first | refine zz ?_ _ | refine zj ?_ | refine zq ?_ _));exact BK101.out) NB101_0.out (by simp))
 have n1_ := qq.mk (Kd.R_mono (Kd.R_keep (ww.apart (show ww w0 _ g s0_0 t108 t109 from by repeat (first | (with_reducible first | exact HI0.out | apply ww.alloc | apply ww.drewN | apply ww.drew | apply ww.set_1 | apply ww.set_2 | refine ww.far ?_ NB0_101.out _ | refine ww.far ?_ NB0_110.out _) | exact HI0.out)) (by (with_reducible repeat (first | apply Kd.jq | apply Kd.zx | apply Kd.jz));exact HO104.out) (by decide)) hk (fun _ h => h.2)) (fun _ h => h.1))
 have n2_ := qq.mk (zk.blk hk (g' := gb110) (o := .cells #[.slice Ao9 t102.length co9,.int .i64 (wrap64 (1 + t107)),.slice none 0 0] 82 (0,0)) (by (with_reducible repeat (first | refine zz ?_ _ | refine zj ?_ | refine zq ?_ _));exact BK110.out) NB110_0.out (by simp))
 have n3_ := qq.mk (zk.trans (by repeat (first | (with_reducible first | exact HK.out | apply zk.set_ | apply jj | apply jv | apply jk | refine jw ?_ GW101.out _ | refine jw ?_ GW110.out _) | exact HK.out)) hk (.inl rfl))
 have n4_ := qq.mk (hb)
 have n5_ := qq.mk (hi)
 clear BK101
 clear HO104
 clear BK110
 clear HK
 clear HB
 clear HI0
 have BK101 := n0_
 have HO104 := n1_
 have BK110 := n2_
 have HK := n3_
 have HB := n4_
 have HI0 := n5_
 clear n0_ n1_ n2_ n3_ n4_ n5_
 (try clear hb)
 (try clear hb2)
 (try clear hk)
 (try clear hi)
 refine hK.out _ _ ⟨(qw BK110.out 0).trans rfl,(qw BK110.out 1).trans rfl,(qw BK110.out 2).trans rfl⟩ (fun hHeld => ?_)
 clear hK K
 refine norm_ (a' := ?_) ?_ ?_
 rotate_left
 ·show Act.put _ (some 11) _ = _
  simp only [Act.put,List.setIfInBounds_toArray,List.set_cons_zero,List.set_cons_succ,i64_w,i32_w]
  rfl
 refine one_ (i := 6) (N := some 16) #[true,true,true,true,true,true,true,false,false] rfl rfl (one_of HT_.out (by kernel_rfl)) (by decide) (fun K hK => ?_)
 refine goes_ Try.func104 (by kernel_rfl) rfl #[.string t111,.slice Ao9 t102.length co9,.int .i64 (wrap64 (1 + t107))] (by rfl) rfl rfl (by (try simp only [List.map_toArray,List.map_cons,List.map_nil]);first | done | rfl | (simp only [List.length_drop,List.length_take];rfl)) ?_
 with_reducible refine (qjv.calls k t111 _ _ t102 (wrap64 (1 + t107)) t114 _ ?side1 ?side2 A5.out).mono ?_
 (case side1 => repeat (first | exact (Kd.R_reads' HO104.out).2.2 | (with_reducible refine Kd.C_alloc ?_ _) | (with_reducible refine Kd.C_drewN ?_ _) | (with_reducible refine Kd.C_drew ?_)))
 (case side2 => exact (Kd.R_reads' HO104.out).2.1)
 rintro e w17 ⟨v115,rfl,ho0,hb⟩
 refine ⟨_,rfl,?_⟩
 have n0_ := qq.mk (Kd.R_elder' (by (with_reducible repeat (first | apply Kd.jq | apply Kd.zx | apply Kd.jz));exact HO104.out) (Kd.R_base ho0) hb)
 have n1_ := qq.mk (Kd.R_lower (Kd.R_new' ho0 (Kd.R_lt (by (with_reducible repeat (first | apply Kd.jq | apply Kd.zx | apply Kd.jz));exact HO104.out))) (keep_size (w := w) (g := g) (row := none) (by repeat (first | (with_reducible first | exact HK.out | apply zk.set_ | apply jj | apply jv | apply jk | refine jw ?_ GW101.out _ | refine jw ?_ GW110.out _) | exact HK.out))))
 have n2_ := qq.mk (ww.below (by repeat (first | (with_reducible first | exact HI0.out | apply ww.alloc | apply ww.drewN | apply ww.drew | apply ww.set_1 | apply ww.set_2 | refine ww.far ?_ NB0_101.out _ | refine ww.far ?_ NB0_110.out _) | exact HI0.out)) hb)
 have n3_ := qq.mk (wj (g := gb101) (o := .cells #[.slice none 0 0,.int .i64 0,.slice none 0 0] 82 (0,0)) (by (with_reducible repeat (first | refine zz ?_ _ | refine zj ?_ | refine zq ?_ _));exact BK101.out) hb)
 have n4_ := qq.mk (wj (g := gb110) (o := .cells #[.slice Ao9 t102.length co9,.int .i64 (wrap64 (1 + t107)),.slice none 0 0] 82 (0,0)) (by (with_reducible repeat (first | refine zz ?_ _ | refine zj ?_ | refine zq ?_ _));exact BK110.out) hb)
 have n5_ := qq.mk (zk.trans (by repeat (first | (with_reducible first | exact HK.out | apply zk.set_ | apply jj | apply jv | apply jk | refine jw ?_ GW101.out _ | refine jw ?_ GW110.out _) | exact HK.out)) (zk.of_below hb g none) (.inl rfl))
 have n6_ := qq.mk (zv (by repeat (first | (with_reducible first | exact HB.out | apply qj | apply qz | apply qk | refine qx ?_ (ww.ge HI0.out) | refine qx ?_ GE101.out | refine qx ?_ GE110.out) | exact HB.out)) hb)
 clear HO104
 clear HI0
 clear BK101
 clear BK110
 clear HK
 clear HB
 have HO104 := n0_
 have HO116 := n1_
 have HI0 := n2_
 have BK101 := n3_
 have BK110 := n4_
 have HK := n5_
 have HB := n6_
 clear n0_ n1_ n2_ n3_ n4_ n5_ n6_
 (try clear hb)
 (try clear hb2)
 (try clear hk)
 (try clear hi)
 (try clear ho0)
 obtain ⟨Ao18,co18,eo18⟩ := Kd.R_slice HO116.out
 (first | subst eo18 | (injection eo18 with f1_ f2_ f3_;have f4_ := f1_.symm;have f5_ := f3_.symm;clear f1_ f2_ f3_;subst f4_;subst f5_))
 refine hK.out _ _ ⟨(qw BK110.out 0).trans rfl,(qw BK110.out 1).trans rfl,(qw BK110.out 2).trans rfl⟩ (fun hHeld => ?_)
 clear hK K
 refine norm_ (a' := ?_) ?_ ?_
 rotate_left
 ·show Act.put _ (some 16) _ = _
  simp only [Act.put,List.setIfInBounds_toArray,List.set_cons_zero,List.set_cons_succ,i64_w,i32_w]
  rfl
 refine pure_ (i := 7) (N := some 17) (v := ?_) (a' := ?_) #[true,true,true,true,true,true,true,true,false] rfl rfl (any_of HT_.out (by kernel_rfl)) (fun _ _ _ h => h) (Or.inl ⟨by rfl,?_⟩) ?_ ?_
 rotate_left
 ·intro w'
  go_simp
  with_reducible rfl
 rotate_left
 ·simp only [Act.put,List.setIfInBounds_toArray,List.set_cons_zero,List.set_cons_succ,i64_w,i32_w]
  rfl
 refine last_ (i := 8) (N := none) #[true,true,true,true,true,true,true,true,true] rfl rfl (one_of HT_.out (by kernel_rfl)) (by decide) (fun K hK => ?_)
 have hs19 : w17.cell? ⟨gb110,2,none⟩ = some (.slice none 0 0) := (qw BK110.out 2).trans rfl
 have hfs19 := qv BK110.out 2
 have hns19_0 := NB101_110.out
 have hms19_0 := NB110_101.out
 refine skip_ (w1 := ?_) (by rfl) rfl ?_ ?_
 rotate_left
 ·go_simp
  rfl
 refine hK.out _ _ ?_
 clear hK K
 refine done_ (done_of HT_.out (by kernel_rfl)) ?_
 have hcz20_0 : w17.cell? ⟨gb110,0,none⟩ = some (.slice Ao9 t102.length co9) := (qw BK110.out 0).trans rfl
 have hcz20_1 : w17.cell? ⟨gb110,1,none⟩ = some (.int .i64 (wrap64 (1 + t107))) := (qw BK110.out 1).trans rfl
 have hcz20_2 : w17.cell? ⟨gb110,2,none⟩ = some (.slice none 0 0) := (qw BK110.out 2).trans rfl
 have hfz20_0 := qv BK110.out 0
 have hfz20_1 := qv BK110.out 1
 have hfz20_2 := qv BK110.out 2
 have hnb21 := NB101_0.out
 have hnc21 := NB0_101.out
 have hcz22_0 : w17.cell? ⟨gb101,0,none⟩ = some (.slice none 0 0) := (qw BK101.out 0).trans rfl
 have hcz22_1 : w17.cell? ⟨gb101,1,none⟩ = some (.int .i64 0) := (qw BK101.out 1).trans rfl
 have hcz22_2 : w17.cell? ⟨gb101,2,none⟩ = some (.slice none 0 0) := (qw BK101.out 2).trans rfl
 have hfz22_0 := qv BK101.out 0
 have hfz22_1 := qv BK101.out 1
 have hfz22_2 := qv BK101.out 2
 try go_wp2
 refine bodyPost_ret (results_cell_row rfl _ _ gb101 82 #[.slice Ao9 t102.length co9,.int .i64 (wrap64 (1 + t107)),.slice Ao18 t114.length co18] (0,0) _ rfl (by (with_reducible repeat (first | refine zz ?_ _ | refine zj ?_ | refine zq ?_ _));refine blk_put (cs := #[.slice Ao9 t102.length co9,.int .i64 (wrap64 (1 + t107)),.slice none 0 0]) ?_ 2 _ rfl;(with_reducible repeat (first | refine zz ?_ _ | refine zj ?_ | refine zq ?_ _));refine blk_put (cs := #[.slice Ao9 t102.length co9,.int .i64 0,.slice none 0 0]) ?_ 1 _ rfl;(with_reducible repeat (first | refine zz ?_ _ | refine zj ?_ | refine zq ?_ _));refine blk_put (cs := #[.slice none 0 0,.int .i64 0,.slice none 0 0]) ?_ 0 _ rfl;(with_reducible repeat (first | refine zz ?_ _ | refine zj ?_ | refine zq ?_ _));refine blk_far ?_ NB101_110.out _;(with_reducible repeat (first | refine zz ?_ _ | refine zj ?_ | refine zq ?_ _));exact BK101.out) Try.underlying82 rfl (by kernel_rfl)) rfl ?_
 exact ⟨_,_,by first | rfl | (simp [*,kz,jx] <;> rfl),by (with_reducible repeat (first | apply Kd.jq | apply Kd.zx | apply Kd.jz));exact Kd.R_mono (Kd.R_far (p := ⟨gb101,2,none⟩) (Kd.R_far (p := ⟨gb101,1,none⟩) (Kd.R_far (p := ⟨gb101,0,none⟩) (Kd.R_far (p := ⟨gb110,2,none⟩) (Kd.R_types (Kd.R_types HO104.out BK110.out (by decide)) BK101.out (by decide)) (fun _ hk => hk.1.2) (.slice Ao18 t114.length co18)) (fun _ hk => hk.2) (.slice Ao9 t102.length co9)) (fun _ hk => hk.2) (.int .i64 (wrap64 (1 + t107)))) (fun _ hk => hk.2) (.slice Ao18 t114.length co18)) (fun _ hk => hk.1.1.2),by (with_reducible repeat (first | apply Kd.jq | apply Kd.zx | apply Kd.jz));exact Kd.R_mono (Kd.R_far (p := ⟨gb101,2,none⟩) (Kd.R_far (p := ⟨gb101,1,none⟩) (Kd.R_far (p := ⟨gb101,0,none⟩) (Kd.R_far (p := ⟨gb110,2,none⟩) (Kd.R_types (Kd.R_types HO116.out BK110.out (by decide)) BK101.out (by decide)) (fun _ hk => hk.1.2) (.slice Ao18 t114.length co18)) (fun _ hk => hk.2) (.slice Ao9 t102.length co9)) (fun _ hk => hk.2) (.int .i64 (wrap64 (1 + t107)))) (fun _ hk => hk.2) (.slice Ao18 t114.length co18)) (fun _ hk => hk.1.1.2),by repeat (first | (with_reducible first | exact HI0.out | apply ww.alloc | apply ww.drewN | apply ww.drew | apply ww.set_1 | apply ww.set_2 | refine ww.far ?_ NB0_101.out _ | refine ww.far ?_ NB0_110.out _) | exact HI0.out),by repeat (first | (with_reducible first | exact HB.out | apply qj | apply qz | apply qk | refine qx ?_ (ww.ge HI0.out) | refine qx ?_ GE101.out | refine qx ?_ GE110.out) | exact HB.out),by repeat (first | (with_reducible first | exact HK.out | apply zk.set_ | apply jj | apply jv | apply jk | refine jw ?_ GW101.out _ | refine jw ?_ GW110.out _) | exact HK.out)⟩
mutual
def qzk.l0 : Nat → Int → List Int → Int → Int → Int → Int → List ByteArray → Int → Option (Int × Int × List ByteArray × Int × ByteArray × ByteArray × (List (S82)))
 | 0,_,_,_,_,_,_,_,_ => none
 | k + 1,x8,x106000,x106001,x106002,x116000,x116001,x116002,x116003 => if x8 > 0 then ((qkk.f x106000 x106001 x106002 (([(⟨#[112,97,115,115]⟩ : ByteArray),(⟨#[83,69,67,82,69,84]⟩ : ByteArray),(⟨#[104,111,114,115,101]⟩ : ByteArray)] : List ByteArray))).bind fun bt122 => (if x116002.length < 8796093022208 then (qzk.l0 k (wrap64 (x8 - 1)) x106000 bt122.2.1 bt122.2.2 x116000 x116001 (x116002 ++ [bt122.1]) x116003) else (none))) else ((qkx.f x106000 x106001 x106002 4).bind fun bt128 => (qzk.l1 k ([] : List (S82)) bt128.1 x106000 bt128.2.1 bt128.2.2 x116000 x116001 x116002 x116003))
def qzk.l1 : Nat → List (S82) → Int → List Int → Int → Int → Int → Int → List ByteArray → Int → Option (Int × Int × List ByteArray × Int × ByteArray × ByteArray × (List (S82)))
 | 0,_,_,_,_,_,_,_,_,_ => none
 | k + 1,x9,x10,x106000,x106001,x106002,x116000,x116001,x116002,x116003 => if x10 > 0 then ((qvz.f k x106000 x106001 x106002).bind fun bt131 => (if x9.length < 2513169434916 then (qzk.l1 k (x9 ++ [(⟨bt131.1,bt131.2.1,bt131.2.2.1⟩ : S82)]) (wrap64 (x10 - 1)) x106000 bt131.2.2.2.1 bt131.2.2.2.2 x116000 x116001 x116002 x116003) else (none))) else ((qkx.f x106000 x106001 x106002 20).bind fun bt143 => (if bt143.1 = 0 then ((some (([0,64,65] : List Int) : List Int)).bind fun y146 => ((qkx.f x106000 bt143.2.1 bt143.2.2 3).bind fun bt149 => (if 0 ≤ bt149.1 then (if bt149.1 < (y146.length : Int) then (qzk.j2 k x9 x106000 bt149.2.1 bt149.2.2 (rd y146 bt149.1) x116001 x116002 x116003) else (none)) else (none)))) else (if bt143.1 = 1 then (qzk.j2 k x9 x106000 bt143.2.1 bt143.2.2 x116000 5 x116002 x116003) else (if bt143.1 = 2 then (qzk.j2 k x9 x106000 bt143.2.1 bt143.2.2 x116000 x116001 (([(⟨#[]⟩ : ByteArray)] : List ByteArray)) x116003) else (qzk.j2 k x9 x106000 bt143.2.1 bt143.2.2 x116000 x116001 x116002 x116003)))))
def qzk.j2 : Nat → List (S82) → List Int → Int → Int → Int → Int → List ByteArray → Int → Option (Int × Int × List ByteArray × Int × ByteArray × ByteArray × (List (S82)))
 | 0,_,_,_,_,_,_,_,_ => none
 | k + 1,x9,x106000,x106001,x106002,x116000,x116001,x116002,x116003 => (qkw.f x106000 x106001 x106002).bind fun bt156 => ((qkv.f x106000 bt156.2.1 bt156.2.2 16).bind fun bt159 => (if bt159.1 = true then ((qkz.f k x106000 bt159.2.1 bt159.2.2 64).bind fun bt162 => ((qkk.f x106000 bt162.2.1 bt162.2.2 (([(⟨#[97,110,110]⟩ : ByteArray),(⟨#[97,110]⟩ : ByteArray),(⟨#[98,111,98]⟩ : ByteArray)] : List ByteArray))).bind fun bt168 => (some (x116000,x116001,x116002,x116003,bt168.1,bt162.1,x9)))) else ((qkk.f x106000 bt159.2.1 bt159.2.2 (([(⟨#[97,110,110]⟩ : ByteArray),(⟨#[97,110]⟩ : ByteArray),(⟨#[98,111,98]⟩ : ByteArray)] : List ByteArray))).bind fun bt174 => (some (x116000,x116001,x116002,x116003,bt174.1,bt156.1,x9)))))
end
def qzk.f (k : Nat) (l0 : List Int) : Option (Int × Int × List ByteArray × Int × ByteArray × ByteArray × (List (S82))) := (newCur.f l0 0 0).bind fun bt102 => ((qkx.f bt102.1 bt102.2.1 bt102.2.2 9).bind fun bt106 => ((qkx.f bt102.1 bt106.2.1 bt106.2.2 5).bind fun bt109 => ((qkx.f bt102.1 bt109.2.1 bt109.2.2 3).bind fun bt112 => ((qkx.f bt102.1 bt112.2.1 bt112.2.2 3).bind fun bt116 => (qzk.l0 k bt116.1 bt102.1 bt116.2.1 bt116.2.2 (wrap64 (1 + bt106.1)) bt109.1 ([] : List ByteArray) bt112.1)))))
def qzk.T6 : Bool × List (List Nat × List Nat) := (true,[([],[]),([0],[0]),([],[]),([],[]),([2,3],[2,3]),([4],[4]),([1,5,4],[1,5]),([0,1,2,3,4,5,6],[]),([7,6,6,0,1,2,3,4,5,6],[6,7])])
def qzk.B6 : List Nat := [0,1,0,0,12,28,63,127,255]
theorem qzk.tab6 : rtab .any (opsOf Try.f48 6) = qzk.T6 := by kernel_rfl
theorem qzk.bits6 : waitsOk qzk.T6.2 qzk.B6 = true := by kernel_rfl
def qzk.T22 : Bool × List (List Nat × List Nat) := (true,[([],[]),([],[]),([],[]),([1,2],[1,2]),([],[]),([],[]),([0,3,0],[0]),([3,6,0,1,2,3,6],[3]),([4,7,0,1,2,3,4,6,7],[4]),([5,8,0,1,2,3,4,5,6,7,8],[5])])
def qzk.B22 : List Nat := [0,0,0,6,0,0,15,79,223,511]
theorem qzk.tab22 : rtab .any (opsOf Try.f48 22) = qzk.T22 := by kernel_rfl
theorem qzk.bits22 : waitsOk qzk.T22.2 qzk.B22 = true := by kernel_rfl
set_option maxHeartbeats 8000000 in
set_option maxRecDepth 100000 in
theorem qzk.calls (k : Nat) (A0 : Option Addr) (c0 : Nat) (l0 : List Int) (r1 : Int) (r2 : Int) (r3 : List ByteArray) (r4 : Int) (r5 : ByteArray) (r6 : ByteArray) (r7 : List (S82)) (w : World) (hr0 : Kd.C (Kd.int .u8) w A0 l0.length l0) (hc0 : l0.length ≤ c0) (h : qzk.f k l0 = some (r1,r2,r3,r4,r5,r6,r7)) :
  Calls Try.prog 48 #[.slice A0 l0.length c0] w fun e w' => ∃ v2_ v6_ : Value,e = .returned (.tuple #[.agg #[.int .i64 r1,.int .i64 r2,v2_,.int .i64 r4],.string r5,.string r6,v6_]) ∧ Kd.R Kd.string 9 w' w.heap.size (fun _ => True) v2_ r3 ∧ Kd.S k82 82 w' w.heap.size (fun _ => True) v6_ r7 ∧ Below w.heap.size w w' := by
 have hu53 := Try.underlying53
 have hu119 := Try.underlying119
 have HR0 := qq.mk hr0
 have HC0 := qq.mk hc0
 clear hr0 hc0
 have HB := qq.mk (Below.refl w.heap.size w)
 have H : ((newCur.f l0 0 0).bind fun bt102 => ((qkx.f bt102.1 bt102.2.1 bt102.2.2 9).bind fun bt106 => ((qkx.f bt102.1 bt106.2.1 bt106.2.2 5).bind fun bt109 => ((qkx.f bt102.1 bt109.2.1 bt109.2.2 3).bind fun bt112 => ((qkx.f bt102.1 bt112.2.1 bt112.2.2 3).bind fun bt116 => (qzk.l0 k bt116.1 bt102.1 bt116.2.1 bt116.2.2 (wrap64 (1 + bt106.1)) bt109.1 ([] : List ByteArray) bt112.1)))))) = some (r1,r2,r3,r4,r5,r6,r7) := h
 clear h
 replace H := Option.bind_eq_some_iff.mp H
 obtain ⟨⟨t102,t103,t104⟩,A20,H⟩ := H
 replace H : ((qkx.f t102 t103 t104 9).bind fun bt106 => ((qkx.f t102 bt106.2.1 bt106.2.2 5).bind fun bt109 => ((qkx.f t102 bt109.2.1 bt109.2.2 3).bind fun bt112 => ((qkx.f t102 bt112.2.1 bt112.2.2 3).bind fun bt116 => (qzk.l0 k bt116.1 t102 bt116.2.1 bt116.2.2 (wrap64 (1 + bt106.1)) bt109.1 ([] : List ByteArray) bt112.1))))) = some (r1,r2,r3,r4,r5,r6,r7) := H
 have A2 := qq.mk A20
 clear A20
 replace H := Option.bind_eq_some_iff.mp H
 obtain ⟨⟨t106,t107,t108⟩,A30,H⟩ := H
 replace H : ((qkx.f t102 t107 t108 5).bind fun bt109 => ((qkx.f t102 bt109.2.1 bt109.2.2 3).bind fun bt112 => ((qkx.f t102 bt112.2.1 bt112.2.2 3).bind fun bt116 => (qzk.l0 k bt116.1 t102 bt116.2.1 bt116.2.2 (wrap64 (1 + t106)) bt109.1 ([] : List ByteArray) bt112.1)))) = some (r1,r2,r3,r4,r5,r6,r7) := H
 have A3 := qq.mk A30
 clear A30
 replace H := Option.bind_eq_some_iff.mp H
 obtain ⟨⟨t109,t110,t111⟩,A40,H⟩ := H
 replace H : ((qkx.f t102 t110 t111 3).bind fun bt112 => ((qkx.f t102 bt112.2.1 bt112.2.2 3).bind fun bt116 => (qzk.l0 k bt116.1 t102 bt116.2.1 bt116.2.2 (wrap64 (1 + t106)) t109 ([] : List ByteArray) bt112.1))) = some (r1,r2,r3,r4,r5,r6,r7) := H
 have A4 := qq.mk A40
 clear A40
 replace H := Option.bind_eq_some_iff.mp H
 obtain ⟨⟨t112,t113,t114⟩,A50,H⟩ := H
 replace H : ((qkx.f t102 t113 t114 3).bind fun bt116 => (qzk.l0 k bt116.1 t102 bt116.2.1 bt116.2.2 (wrap64 (1 + t106)) t109 ([] : List ByteArray) t112)) = some (r1,r2,r3,r4,r5,r6,r7) := H
 have A5 := qq.mk A50
 clear A50
 replace H := Option.bind_eq_some_iff.mp H
 obtain ⟨⟨t116,t117,t118⟩,A60,H⟩ := H
 replace H : (qzk.l0 k t116 t102 t117 t118 (wrap64 (1 + t106)) t109 ([] : List ByteArray) t112) = some (r1,r2,r3,r4,r5,r6,r7) := H
 have A6 := qq.mk A60
 clear A60
 have H' := qq.mk H
 clear H
 go_enter Try.func48,Try.ntmps48
 go_wp2_with (first | ((with_reducible refine gate_dst (N := 2) rfl ?_);refine box_event ?hg (N := 2) ?hd (cs := #[.int .i64 0,.int .i64 0,.slice none 0 0,.int .i64 0]) (t := 53) ?hr ?_;(case hd => rfl);(case hg => rfl);(case hr => first | (go_simp;done) | (go_simp;rfl));intro gb101 hg w7 hbox hb;have n0_ := qq.mk (zv (by repeat (first | (with_reducible first | exact HB.out | apply qj | apply qz | apply qk) | exact HB.out)) hb);have n1_ := qq.mk (hbox);have n2_ := qq.mk ((by rw [hg];exact (zw (by repeat (first | (with_reducible first | exact HB.out | apply qj | apply qz | apply qk) | exact HB.out))) : w.heap.size ≤ gb101));have n3_ := qq.mk ((by rw [hg];exact (zw (by repeat (first | (with_reducible first | exact HB.out | apply qj | apply qz | apply qk) | exact HB.out))) : w.heap.size ≤ gb101));clear HB;have HB := n0_;have BK101 := n1_;have GW101 := n2_;have GE101 := n3_;clear n0_ n1_ n2_ n3_;clear hb hbox hg) | ((with_reducible refine gate_box (t := 119) rfl ?_);refine boxGoesL_ (some 14) rfl rfl (t := 119) (cs := #[.slice A0 l0.length c0,.int .i64 0,.int .u64 0]) (by first | (go_simp;done) | (go_simp;rfl)) ?_;(with_reducible refine (newCur.calls _ _ l0 0 0 t102 t103 t104 w _ ?side1 ?side2 ?side3 A2.out).mono ?_);(case side1 => repeat (first | (with_reducible first | exact HB.out | apply qj | apply qz | apply qk | refine qx ?_ GE101.out) | exact HB.out));(case side2 => exact HR0.out);(case side3 => exact HC0.out);rintro e w8 ⟨g105,rfl,hi,hb,hb2⟩;refine ⟨_,rfl,?_⟩;have n0_ := qq.mk (wj (g := gb101) (o := .cells #[.int .i64 0,.int .i64 0,.slice none 0 0,.int .i64 0] 53 (0,0)) (by (with_reducible repeat (first | refine zz ?_ _ | refine zj ?_ | refine zq ?_ _));exact BK101.out) hb2);have n1_ := qq.mk (hb);have n2_ := qq.mk (hi);have n3_ := qq.mk (ww.ne_blk hi (wj (g := gb101) (o := .cells #[.int .i64 0,.int .i64 0,.slice none 0 0,.int .i64 0] 53 (0,0)) (by (with_reducible repeat (first | refine zz ?_ _ | refine zj ?_ | refine zq ?_ _));exact BK101.out) hb2) (by decide));have n4_ := qq.mk (Ne.symm (ww.ne_blk hi (wj (g := gb101) (o := .cells #[.int .i64 0,.int .i64 0,.slice none 0 0,.int .i64 0] 53 (0,0)) (by (with_reducible repeat (first | refine zz ?_ _ | refine zj ?_ | refine zq ?_ _));exact BK101.out) hb2) (by decide)));clear BK101;clear HB;have BK101 := n0_;have HB := n1_;have HI105 := n2_;have NB105_101 := n3_;have NB101_105 := n4_;clear n0_ n1_ n2_ n3_ n4_;(try clear hb);(try clear hb2);(try clear hk);(try clear hi)) | ((with_reducible refine kj (f := 88) rfl ?_);refine goesL_ (some 16) rfl rfl Try.func88 (by kernel_rfl) rfl #[.pointer (some ⟨g105,0,none⟩),.int .i64 9] rfl (by (try simp only [List.map_toArray,List.map_cons,List.map_nil]);first | done | rfl | (simp only [List.length_drop,List.length_take];rfl)) ?_;(with_reducible refine (qkx.calls g105 t102 t103 t104 9 t106 t107 t108 w _ ?side1 ?side2 A3.out).mono ?_);(case side1 => repeat (first | (with_reducible first | exact HI105.out | apply ww.alloc | apply ww.drewN | apply ww.drew | apply ww.set_1 | apply ww.set_2 | refine ww.far ?_ NB105_101.out _) | exact HI105.out));(case side2 => repeat (first | (with_reducible first | exact HB.out | apply qj | apply qz | apply qk | refine qx ?_ (ww.ge HI105.out) | refine qx ?_ GE101.out) | exact HB.out));rintro e w9 ⟨rfl,hi,hb,hk⟩;refine ⟨_,rfl,?_⟩;have n0_ := qq.mk (zk.blk hk (g' := gb101) (o := .cells #[.int .i64 0,.int .i64 0,.slice none 0 0,.int .i64 0] 53 (0,0)) (by (with_reducible repeat (first | refine zz ?_ _ | refine zj ?_ | refine zq ?_ _));exact BK101.out) NB101_105.out (by simp));have n1_ := qq.mk (hb);have n2_ := qq.mk (hi);clear BK101;clear HB;clear HI105;have BK101 := n0_;have HB := n1_;have HI105 := n2_;clear n0_ n1_ n2_;(try clear hb);(try clear hb2);(try clear hk);(try clear hi)) | ((with_reducible refine kj (f := 88) rfl ?_);refine goesL_ (some 19) rfl rfl Try.func88 (by kernel_rfl) rfl #[.pointer (some ⟨g105,0,none⟩),.int .i64 5] rfl (by (try simp only [List.map_toArray,List.map_cons,List.map_nil]);first | done | rfl | (simp only [List.length_drop,List.length_take];rfl)) ?_;(with_reducible refine (qkx.calls g105 t102 t107 t108 5 t109 t110 t111 w _ ?side1 ?side2 A4.out).mono ?_);(case side1 => repeat (first | (with_reducible first | exact HI105.out | apply ww.alloc | apply ww.drewN | apply ww.drew | apply ww.set_1 | apply ww.set_2 | refine ww.far ?_ NB105_101.out _) | exact HI105.out));(case side2 => repeat (first | (with_reducible first | exact HB.out | apply qj | apply qz | apply qk | refine qx ?_ (ww.ge HI105.out) | refine qx ?_ GE101.out) | exact HB.out));rintro e w10 ⟨rfl,hi,hb,hk⟩;refine ⟨_,rfl,?_⟩;have n0_ := qq.mk (zk.blk hk (g' := gb101) (o := .cells #[.int .i64 0,.int .i64 0,.slice none 0 0,.int .i64 0] 53 (0,0)) (by (with_reducible repeat (first | refine zz ?_ _ | refine zj ?_ | refine zq ?_ _));exact BK101.out) NB101_105.out (by simp));have n1_ := qq.mk (hb);have n2_ := qq.mk (hi);clear BK101;clear HB;clear HI105;have BK101 := n0_;have HB := n1_;have HI105 := n2_;clear n0_ n1_ n2_;(try clear hb);(try clear hb2);(try clear hk);(try clear hi)) | ((with_reducible refine kj (f := 88) rfl ?_);refine goesL_ (some 21) rfl rfl Try.func88 (by kernel_rfl) rfl #[.pointer (some ⟨g105,0,none⟩),.int .i64 3] rfl (by (try simp only [List.map_toArray,List.map_cons,List.map_nil]);first | done | rfl | (simp only [List.length_drop,List.length_take];rfl)) ?_;(with_reducible refine (qkx.calls g105 t102 t110 t111 3 t112 t113 t114 w _ ?side1 ?side2 A5.out).mono ?_);(case side1 => repeat (first | (with_reducible first | exact HI105.out | apply ww.alloc | apply ww.drewN | apply ww.drew | apply ww.set_1 | apply ww.set_2 | refine ww.far ?_ NB105_101.out _) | exact HI105.out));(case side2 => repeat (first | (with_reducible first | exact HB.out | apply qj | apply qz | apply qk | refine qx ?_ (ww.ge HI105.out) | refine qx ?_ GE101.out) | exact HB.out));rintro e w11 ⟨rfl,hi,hb,hk⟩;refine ⟨_,rfl,?_⟩;have n0_ := qq.mk (zk.blk hk (g' := gb101) (o := .cells #[.int .i64 0,.int .i64 0,.slice none 0 0,.int .i64 0] 53 (0,0)) (by (with_reducible repeat (first | refine zz ?_ _ | refine zj ?_ | refine zq ?_ _));exact BK101.out) NB101_105.out (by simp));have n1_ := qq.mk (hb);have n2_ := qq.mk (hi);clear BK101;clear HB;clear HI105;have BK101 := n0_;have HB := n1_;have HI105 := n2_;clear n0_ n1_ n2_;(try clear hb);(try clear hb2);(try clear hk);(try clear hi)) | ((with_reducible refine gate_dst (N := 7) rfl ?_);refine box_event ?hg (N := 7) ?hd (cs := #[.int .i64 0,.int .i64 0,.slice none 0 0,.int .i64 0]) (t := 53) ?hr ?_;(case hd => rfl);(case hg => rfl);(case hr => first | (go_simp;done) | (go_simp;rfl));intro gb115 hg w12 hbox hb;have n0_ := qq.mk (wj (g := gb101) (o := .cells #[.int .i64 0,.int .i64 0,.slice none 0 0,.int .i64 0] 53 (0,0)) (by (with_reducible repeat (first | refine zz ?_ _ | refine zj ?_ | refine zq ?_ _));exact BK101.out) hb);have n1_ := qq.mk (ww.below (by repeat (first | (with_reducible first | exact HI105.out | apply ww.alloc | apply ww.drewN | apply ww.drew | apply ww.set_1 | apply ww.set_2 | refine ww.far ?_ NB105_101.out _) | exact HI105.out)) hb);have n2_ := qq.mk (zv (by repeat (first | (with_reducible first | exact HB.out | apply qj | apply qz | apply qk | refine qx ?_ (ww.ge HI105.out) | refine qx ?_ GE101.out) | exact HB.out)) hb);have n3_ := qq.mk (hbox);have n4_ := qq.mk ((by rw [hg];exact (zw (by repeat (first | (with_reducible first | exact HB.out | apply qj | apply qz | apply qk | refine qx ?_ (ww.ge HI105.out) | refine qx ?_ GE101.out) | exact HB.out))) : w.heap.size ≤ gb115));have n5_ := qq.mk ((by rw [hg];exact (zw (by repeat (first | (with_reducible first | exact HB.out | apply qj | apply qz | apply qk | refine qx ?_ (ww.ge HI105.out) | refine qx ?_ GE101.out) | exact HB.out))) : w.heap.size ≤ gb115));have n6_ := qq.mk ((by rw [hg];exact Nat.ne_of_lt (blk_lt (g := gb101) (o := .cells #[.int .i64 0,.int .i64 0,.slice none 0 0,.int .i64 0] 53 (0,0)) (by (with_reducible repeat (first | refine zz ?_ _ | refine zj ?_ | refine zq ?_ _));exact BK101.out)) : gb101 ≠ gb115));have n7_ := qq.mk ((by rw [hg];exact Nat.ne_of_gt (blk_lt (g := gb101) (o := .cells #[.int .i64 0,.int .i64 0,.slice none 0 0,.int .i64 0] 53 (0,0)) (by (with_reducible repeat (first | refine zz ?_ _ | refine zj ?_ | refine zq ?_ _));exact BK101.out)) : gb115 ≠ gb101));have n8_ := qq.mk ((by rw [hg];exact Nat.ne_of_lt (ww.lt (show ww w _ g105 t102 t113 t114 from by repeat (first | (with_reducible first | exact HI105.out | apply ww.alloc | apply ww.drewN | apply ww.drew | apply ww.set_1 | apply ww.set_2 | refine ww.far ?_ NB105_101.out _) | exact HI105.out))) : g105 ≠ gb115));have n9_ := qq.mk ((by rw [hg];exact Nat.ne_of_gt (ww.lt (show ww w _ g105 t102 t113 t114 from by repeat (first | (with_reducible first | exact HI105.out | apply ww.alloc | apply ww.drewN | apply ww.drew | apply ww.set_1 | apply ww.set_2 | refine ww.far ?_ NB105_101.out _) | exact HI105.out))) : gb115 ≠ g105));clear BK101;clear HI105;clear HB;have BK101 := n0_;have HI105 := n1_;have HB := n2_;have BK115 := n3_;have GW115 := n4_;have GE115 := n5_;have NB101_115 := n6_;have NB115_101 := n7_;have NB105_115 := n8_;have NB115_105 := n9_;clear n0_ n1_ n2_ n3_ n4_ n5_ n6_ n7_ n8_ n9_;clear hb hbox hg;have hnb13 := NB115_101.out;have hnc13 := NB101_115.out;have hnb14 := NB115_105.out;have hnc14 := NB105_115.out;have hcz15_0 : w12.cell? ⟨gb115,0,none⟩ = some (.int .i64 0) := (qw BK115.out 0).trans rfl;have hcz15_1 : w12.cell? ⟨gb115,1,none⟩ = some (.int .i64 0) := (qw BK115.out 1).trans rfl;have hcz15_2 : w12.cell? ⟨gb115,2,none⟩ = some (.slice none 0 0) := (qw BK115.out 2).trans rfl;have hcz15_3 : w12.cell? ⟨gb115,3,none⟩ = some (.int .i64 0) := (qw BK115.out 3).trans rfl;have hfz15_0 := qv BK115.out 0;have hfz15_1 := qv BK115.out 1;have hfz15_2 := qv BK115.out 2;have hfz15_3 := qv BK115.out 3) | ((with_reducible refine kj (f := 88) rfl ?_);refine goesL_ (some 24) rfl rfl Try.func88 (by kernel_rfl) rfl #[.pointer (some ⟨g105,0,none⟩),.int .i64 3] rfl (by (try simp only [List.map_toArray,List.map_cons,List.map_nil]);first | done | rfl | (simp only [List.length_drop,List.length_take];rfl)) ?_;(with_reducible refine (qkx.calls g105 t102 t113 t114 3 t116 t117 t118 w _ ?side1 ?side2 A6.out).mono ?_);(case side1 => repeat (first | (with_reducible first | exact HI105.out | apply ww.alloc | apply ww.drewN | apply ww.drew | apply ww.set_1 | apply ww.set_2 | refine ww.far ?_ NB105_101.out _ | refine ww.far ?_ NB105_115.out _) | exact HI105.out));(case side2 => repeat (first | (with_reducible first | exact HB.out | apply qj | apply qz | apply qk | refine qx ?_ (ww.ge HI105.out) | refine qx ?_ GE101.out | refine qx ?_ GE115.out) | exact HB.out));rintro e w16 ⟨rfl,hi,hb,hk⟩;refine ⟨_,rfl,?_⟩;have n0_ := qq.mk (zk.blk hk (g' := gb101) (o := .cells #[.int .i64 0,.int .i64 0,.slice none 0 0,.int .i64 0] 53 (0,0)) (by (with_reducible repeat (first | refine zz ?_ _ | refine zj ?_ | refine zq ?_ _));refine blk_far ?_ NB101_115.out _;(with_reducible repeat (first | refine zz ?_ _ | refine zj ?_ | refine zq ?_ _));refine blk_far ?_ NB101_115.out _;(with_reducible repeat (first | refine zz ?_ _ | refine zj ?_ | refine zq ?_ _));refine blk_far ?_ NB101_115.out _;(with_reducible repeat (first | refine zz ?_ _ | refine zj ?_ | refine zq ?_ _));refine blk_far ?_ NB101_115.out _;(with_reducible repeat (first | refine zz ?_ _ | refine zj ?_ | refine zq ?_ _));exact BK101.out) NB101_105.out (by simp));have n1_ := qq.mk (zk.blk hk (g' := gb115) (o := .cells #[.int .i64 (wrap64 (1 + t106)),.int .i64 t109,.slice none 0 0,.int .i64 t112] 53 (0,0)) (by (with_reducible repeat (first | refine zz ?_ _ | refine zj ?_ | refine zq ?_ _));refine blk_put (cs := #[.int .i64 (wrap64 (1 + t106)),.int .i64 t109,.slice none 0 0,.int .i64 0]) ?_ 3 _ rfl;(with_reducible repeat (first | refine zz ?_ _ | refine zj ?_ | refine zq ?_ _));refine blk_put (cs := #[.int .i64 (wrap64 (1 + t106)),.int .i64 t109,.slice none 0 0,.int .i64 0]) ?_ 2 _ rfl;(with_reducible repeat (first | refine zz ?_ _ | refine zj ?_ | refine zq ?_ _));refine blk_put (cs := #[.int .i64 (wrap64 (1 + t106)),.int .i64 0,.slice none 0 0,.int .i64 0]) ?_ 1 _ rfl;(with_reducible repeat (first | refine zz ?_ _ | refine zj ?_ | refine zq ?_ _));refine blk_put (cs := #[.int .i64 0,.int .i64 0,.slice none 0 0,.int .i64 0]) ?_ 0 _ rfl;(with_reducible repeat (first | refine zz ?_ _ | refine zj ?_ | refine zq ?_ _));exact BK115.out) NB115_105.out (by simp));have n2_ := qq.mk (hb);have n3_ := qq.mk (hi);clear BK101;clear BK115;clear HB;clear HI105;have BK101 := n0_;have BK115 := n1_;have HB := n2_;have HI105 := n3_;clear n0_ n1_ n2_ n3_;(try clear hb);(try clear hb2);(try clear hk);(try clear hi)))
 go_loopg [8] k (fun kq v8 w' => ∃ (x8_1 : Int) (x106001_1 : Int) (x106002_1 : Int) (x116002_1 : List ByteArray) (u116002 : Value),v8 = .int .i64 x8_1 ∧ qq (qzk.l0 kq x8_1 t102 x106001_1 x106002_1 (wrap64 (1 + t106)) t109 x116002_1 t112 = some (r1,r2,r3,r4,r5,r6,r7)) ∧ qq (kq ≤ k) ∧ qq (Kd.R Kd.string 9 w' w.heap.size (fun _ => True) u116002 x116002_1) ∧ qq (w'.heap[gb101]? = some (.cells #[.int .i64 0,.int .i64 0,(.slice none 0 0),.int .i64 0] 53 (0,0))) ∧ qq (w'.heap[gb115]? = some (.cells #[.int .i64 (wrap64 (1 + t106)),.int .i64 t109,u116002,.int .i64 t112] 53 (0,0))) ∧ qq (ww w w' g105 t102 x106001_1 x106002_1) ∧ qq (Below w.heap.size w w'))
 case atStart => exact ⟨(t116),(t117),(t118),(([] : List ByteArray)),(.slice none 0 0),(by first | rfl | (simp;done) | (simp [*];done)),H',⟨Nat.le_refl _⟩,⟨by first | exact Kd.R_nil _ _ _ _ _ | exact Kd.N_nil _ _ _ _ _ | exact Kd.V_nil _ _ _ _ _ | exact Kd.Q_nil _ _ _ _ _ | exact Kd.S_nil _ _ _ _ _⟩,⟨by (with_reducible repeat (first | refine zz ?_ _ | refine zj ?_ | refine zq ?_ _));exact BK101.out⟩,⟨by (with_reducible repeat (first | refine zz ?_ _ | refine zj ?_ | refine zq ?_ _));exact BK115.out⟩,⟨by repeat (first | (with_reducible first | exact HI105.out | apply ww.alloc | apply ww.drewN | apply ww.drew | apply ww.set_1 | apply ww.set_2 | refine ww.far ?_ NB105_101.out _ | refine ww.far ?_ NB105_115.out _) | exact HI105.out)⟩,⟨by repeat (first | (with_reducible first | exact HB.out | apply qj | apply qz | apply qk | refine qx ?_ (ww.ge HI105.out) | refine qx ?_ GE101.out | refine qx ?_ GE115.out) | exact HB.out)⟩⟩
 case round =>
  clear H'
  try clear c1
  try clear p2
  try clear c4
  try clear p6
  try clear c8
  try clear c13
  try clear c14
  try clear c16
  try clear hcz15_0
  try clear hcz15_1
  try clear hcz15_2
  try clear hcz15_3
  try clear hfz15_0
  try clear hfz15_1
  try clear hfz15_2
  try clear hfz15_3
  obtain ⟨x8_1,x106001_1,x106002_1,x116002_1,u116002,rfl,HA,HK1,HO_116002,BK101,BK115,HI105,HB⟩ := hrel
  cases gk with
  | zero => exact absurd HA.out (by simp [qzk.l0])
  | succ k1 =>
   have H := HA.out
   clear HA
   simp only [qzk.l0] at H
   by_cases c17 : x8_1 > 0
   ·rw [if_pos c17] at H
    have c17b0 : decide (0 < x8_1) = true := decide_eq_true c17
    clear c17
    obtain ⟨y119,hy119⟩ : ∃ y_ : List ByteArray,y_ = (([(⟨#[112,97,115,115]⟩ : ByteArray),(⟨#[83,69,67,82,69,84]⟩ : ByteArray),(⟨#[104,111,114,115,101]⟩ : ByteArray)] : List ByteArray)) := ⟨_,rfl⟩
    replace H : ((qkk.f t102 x106001_1 x106002_1 y119).bind fun bt122 => (if x116002_1.length < 8796093022208 then (qzk.l0 k1 (wrap64 (x8_1 - 1)) t102 bt122.2.1 bt122.2.2 (wrap64 (1 + t106)) t109 (x116002_1 ++ [bt122.1]) t112) else (none))) = some (r1,r2,r3,r4,r5,r6,r7) := by first | (rw [hy119];with_reducible exact H) | (have H2_ := (Option.bind_some _ _).symm.trans H;rw [hy119];with_reducible exact H2_) | (have H2_ := (Option.bind_some _ _).symm.trans H;with_reducible exact H2_) | with_reducible exact H | (rw [hy119];exact H) | exact H
    have Ny119 := qq.mk hy119
    clear hy119
    replace H := Option.bind_eq_some_iff.mp H
    obtain ⟨⟨t122,t123,t124⟩,A180,H⟩ := H
    replace H : (if x116002_1.length < 8796093022208 then (qzk.l0 k1 (wrap64 (x8_1 - 1)) t102 t123 t124 (wrap64 (1 + t106)) t109 (x116002_1 ++ [t122]) t112) else (none)) = some (r1,r2,r3,r4,r5,r6,r7) := H
    have A18 := qq.mk A180
    clear A180
    by_cases c19 : x116002_1.length < 8796093022208
    ·rw [if_pos c19] at H
     have LMc19 := qq.mk c19
     clear c19
     obtain ⟨y125,hy125⟩ : ∃ y_ : List ByteArray,y_ = (x116002_1 ++ [t122]) := ⟨_,rfl⟩
     replace H : (qzk.l0 k1 (wrap64 (x8_1 - 1)) t102 t123 t124 (wrap64 (1 + t106)) t109 y125 t112) = some (r1,r2,r3,r4,r5,r6,r7) := by first | (rw [hy125];with_reducible exact H) | (have H2_ := (Option.bind_some _ _).symm.trans H;rw [hy125];with_reducible exact H2_) | (have H2_ := (Option.bind_some _ _).symm.trans H;with_reducible exact H2_) | with_reducible exact H | (rw [hy125];exact H) | exact H
     have Ny125 := qq.mk hy125
     clear hy125
     have H' := qq.mk H
     clear H
     try go_wp2
     have n0_ := qq.mk (Kd.jz HO_116002.out)
     have n1_ := qq.mk (zj BK101.out)
     have n2_ := qq.mk (zj BK115.out)
     have n3_ := qq.mk (ww.drew HI105.out)
     have n4_ := qq.mk (qk HB.out)
     clear HO_116002
     clear BK101
     clear BK115
     clear HI105
     clear HB
     have HO_116002 := n0_
     have BK101 := n1_
     have BK115 := n2_
     have HI105 := n3_
     have HB := n4_
     clear n0_ n1_ n2_ n3_ n4_
     refine start_ (n := 9) (S := fun w' => w'.cell? ⟨gb115,0,none⟩ = some (.int .i64 (wrap64 (1 + t106))) ∧ w'.cell? ⟨gb115,1,none⟩ = some (.int .i64 t109) ∧ w'.cell? ⟨gb115,2,none⟩ = some (u116002) ∧ w'.cell? ⟨gb115,3,none⟩ = some (.int .i64 t112)) (ds := [8]) #[false,false,false,false,false,false,false,false,false] (by kernel_rfl) rfl rfl ⟨(qw BK115.out 0).trans rfl,(qw BK115.out 1).trans rfl,(qw BK115.out 2).trans rfl,(qw BK115.out 3).trans rfl⟩ (fun hHeld => ?_);refine with_tabW qzk.tab6 qzk.bits6 (fun HT_ HW_ => ?_)
     generalize wr.drew = w20 at HO_116002 BK101 BK115 HI105 HB hHeld ⊢
     refine pure_ (i := 0) (N := some 29) (v := ?_) (a' := ?_) #[true,false,false,false,false,false,false,false,false] rfl rfl (any_of HT_.out (by kernel_rfl)) (fun _ _ _ h => h) (Or.inl ⟨by rfl,?_⟩) ?_ ?_
     rotate_left
     ·intro w'
      go_simp
      with_reducible rfl
     rotate_left
     ·simp only [Act.put,List.setIfInBounds_toArray,List.set_cons_zero,List.set_cons_succ,i64_w,i32_w]
      rfl
     refine pure_ (i := 2) (N := some 31) (v := ?_) (a' := ?_) #[true,false,true,false,false,false,false,false,false] rfl rfl (any_of HT_.out (by kernel_rfl)) (fun _ _ _ h => h) (Or.inl ⟨by rfl,?_⟩) ?_ ?_
     rotate_left
     ·intro w'
      go_simp
      with_reducible rfl
     rotate_left
     ·simp only [Act.put,List.setIfInBounds_toArray,List.set_cons_zero,List.set_cons_succ,i64_w,i32_w]
      rfl
     refine take_ (i := 1) (N := some 30) (v := ?_) (a' := ?_) #[true,true,true,false,false,false,false,false,false] rfl rfl (take_ofW HT_.out HW_.out (by kernel_rfl)) (fun _ _ _ h => h) (Or.inl ⟨by rfl,?_⟩) hHeld ?_ ?_
     rotate_left
     ·rintro w' ⟨s0,s1,s2,s3⟩
      go_simp
      with_reducible rfl
     rotate_left
     ·simp only [Act.put,List.setIfInBounds_toArray,List.set_cons_zero,List.set_cons_succ,i64_w,i32_w]
      rfl
     refine one_ (i := 3) (N := some 32) #[true,true,true,true,false,false,false,false,false] rfl rfl (one_of HT_.out (by kernel_rfl)) (by decide) (fun K hK => ?_)
     refine Kd.R_lit_step Kd.string _ 9 ?hg (N := 32) ?hd (xs := ([(⟨#[112,97,115,115]⟩ : ByteArray),(⟨#[83,69,67,82,69,84]⟩ : ByteArray),(⟨#[104,111,114,115,101]⟩ : ByteArray)] : List ByteArray)) (inner := [.string (⟨#[112,97,115,115]⟩ : ByteArray),.string (⟨#[83,69,67,82,69,84]⟩ : ByteArray),.string (⟨#[104,111,114,115,101]⟩ : ByteArray)]) (ok := fun _ => True) (okp := fun _ => True) ?hr ?hp (fun _ hk => hk) trivial (Below.refl _ _) (Nat.le_refl _) (by simp) ?_;(case hd => rfl);(case hg => rfl);(case hr => first | (go_simp;done) | (go_simp;rfl));(case hp => exact (Reps.one (show Kd.M Kd.string _ _ _ (⟨#[112,97,115,115]⟩ : ByteArray) [.string (⟨#[112,97,115,115]⟩ : ByteArray)] from rfl) (Reps.one (show Kd.M Kd.string _ _ _ (⟨#[83,69,67,82,69,84]⟩ : ByteArray) [.string (⟨#[83,69,67,82,69,84]⟩ : ByteArray)] from rfl) (Reps.one (show Kd.M Kd.string _ _ _ (⟨#[104,111,114,115,101]⟩ : ByteArray) [.string (⟨#[104,111,114,115,101]⟩ : ByteArray)] from rfl) (Reps.none _ _)))))
     intro v120 w21 ho22 hb hg_ hnew_
     clear hg_ hnew_
     (first | rw [← Ny119.out] at ho22 | (simp only [Int.reduceToNat] at ho22;rw [← Ny119.out] at ho22))
     have n0_ := qq.mk (Kd.R_elder' (by (with_reducible repeat (first | apply Kd.jq | apply Kd.zx | apply Kd.jz));exact HO_116002.out) (Kd.R_base ho22) hb)
     have n1_ := qq.mk (Kd.R_lower (Kd.R_new' ho22 (Kd.R_lt (by (with_reducible repeat (first | apply Kd.jq | apply Kd.zx | apply Kd.jz));exact HO_116002.out))) (zw (by repeat (first | (with_reducible first | exact HB.out | apply qj | apply qz | apply qk | refine qx ?_ (ww.ge HI105.out) | refine qx ?_ GE101.out | refine qx ?_ GE115.out) | exact HB.out))))
     have n2_ := qq.mk (wj (g := gb101) (o := .cells #[.int .i64 0,.int .i64 0,.slice none 0 0,.int .i64 0] 53 (0,0)) (by (with_reducible repeat (first | refine zz ?_ _ | refine zj ?_ | refine zq ?_ _));exact BK101.out) hb)
     have n3_ := qq.mk (wj (g := gb115) (o := .cells #[.int .i64 (wrap64 (1 + t106)),.int .i64 t109,u116002,.int .i64 t112] 53 (0,0)) (by (with_reducible repeat (first | refine zz ?_ _ | refine zj ?_ | refine zq ?_ _));exact BK115.out) hb)
     have n4_ := qq.mk (ww.below (by repeat (first | (with_reducible first | exact HI105.out | apply ww.alloc | apply ww.drewN | apply ww.drew | apply ww.set_1 | apply ww.set_2 | refine ww.far ?_ NB105_101.out _ | refine ww.far ?_ NB105_115.out _) | exact HI105.out)) hb)
     have n5_ := qq.mk (zv (by repeat (first | (with_reducible first | exact HB.out | apply qj | apply qz | apply qk | refine qx ?_ (ww.ge HI105.out) | refine qx ?_ GE101.out | refine qx ?_ GE115.out) | exact HB.out)) hb)
     clear HO_116002
     clear BK101
     clear BK115
     clear HI105
     clear HB
     have HO_116002 := n0_
     have HO121 := n1_
     have BK101 := n2_
     have BK115 := n3_
     have HI105 := n4_
     have HB := n5_
     clear n0_ n1_ n2_ n3_ n4_ n5_
     clear hb ho22
     obtain ⟨Ao23,co23,eo23⟩ := Kd.R_slice HO121.out
     (first | subst eo23 | (injection eo23 with f1_ f2_ f3_;have f4_ := f1_.symm;have f5_ := f3_.symm;clear f1_ f2_ f3_;subst f4_;subst f5_))
     refine hK.out _ _ ⟨(qw BK115.out 0).trans rfl,(qw BK115.out 1).trans rfl,(qw BK115.out 2).trans rfl,(qw BK115.out 3).trans rfl⟩ (fun hHeld => ?_)
     clear hK K
     refine norm_ (a' := ?_) ?_ ?_
     rotate_left
     ·show Act.put _ (some 32) _ = _
      simp only [Act.put,List.setIfInBounds_toArray,List.set_cons_zero,List.set_cons_succ,i64_w,i32_w]
      rfl
     refine one_ (i := 4) (N := some 33) #[true,true,true,true,true,false,false,false,false] rfl rfl (one_of HT_.out (by kernel_rfl)) (by decide) (fun K hK => ?_)
     refine goes_ Try.func93 (by kernel_rfl) rfl #[.pointer (some ⟨g105,0,none⟩),.slice Ao23 y119.length co23] (by rfl) rfl rfl (by (try simp only [List.map_toArray,List.map_cons,List.map_nil]);first | done | rfl | (simp only [List.length_drop,List.length_take];rfl)) ?_
     with_reducible refine (qkk.calls g105 t102 x106001_1 x106002_1 _ _ y119 t122 t123 t124 w _ ?side1 ?side2 ?side3 ?side4 ?side5 A18.out).mono ?_
     (case side1 => repeat (first | (with_reducible first | exact HI105.out | apply ww.alloc | apply ww.drewN | apply ww.drew | apply ww.set_1 | apply ww.set_2 | refine ww.far ?_ NB105_101.out _ | refine ww.far ?_ NB105_115.out _) | exact HI105.out))
     (case side2 => repeat (first | (with_reducible first | exact HB.out | apply qj | apply qz | apply qk | refine qx ?_ (ww.ge HI105.out) | refine qx ?_ GE101.out | refine qx ?_ GE115.out) | exact HB.out))
     (case side3 => repeat (first | exact (Kd.R_reads' HO121.out).2.2 | (with_reducible refine Kd.C_alloc ?_ _) | (with_reducible refine Kd.C_drewN ?_ _) | (with_reducible refine Kd.C_drew ?_)))
     (case side4 => exact (Kd.R_reads' HO121.out).2.1)
     (case side5 => exact far_slice (ww.own_ne HI105.out HO121.out (by decide)))
     rintro e w24 ⟨rfl,hi,hb,hk⟩
     refine ⟨_,rfl,?_⟩
     have n0_ := qq.mk (Kd.R_mono (Kd.R_keep (ww.apart (show ww w _ g105 t102 x106001_1 x106002_1 from by repeat (first | (with_reducible first | exact HI105.out | apply ww.alloc | apply ww.drewN | apply ww.drew | apply ww.set_1 | apply ww.set_2 | refine ww.far ?_ NB105_101.out _ | refine ww.far ?_ NB105_115.out _) | exact HI105.out)) (by (with_reducible repeat (first | apply Kd.jq | apply Kd.zx | apply Kd.jz));exact HO_116002.out) (by decide)) hk (fun _ h => h.2)) (fun _ h => h.1))
     have n1_ := qq.mk (zk.blk hk (g' := gb101) (o := .cells #[.int .i64 0,.int .i64 0,.slice none 0 0,.int .i64 0] 53 (0,0)) (by (with_reducible repeat (first | refine zz ?_ _ | refine zj ?_ | refine zq ?_ _));exact BK101.out) NB101_105.out (by simp))
     have n2_ := qq.mk (zk.blk hk (g' := gb115) (o := .cells #[.int .i64 (wrap64 (1 + t106)),.int .i64 t109,u116002,.int .i64 t112] 53 (0,0)) (by (with_reducible repeat (first | refine zz ?_ _ | refine zj ?_ | refine zq ?_ _));exact BK115.out) NB115_105.out (by simp))
     have n3_ := qq.mk (Kd.R_mono (Kd.R_keep (ww.apart (show ww w _ g105 t102 x106001_1 x106002_1 from by repeat (first | (with_reducible first | exact HI105.out | apply ww.alloc | apply ww.drewN | apply ww.drew | apply ww.set_1 | apply ww.set_2 | refine ww.far ?_ NB105_101.out _ | refine ww.far ?_ NB105_115.out _) | exact HI105.out)) (by (with_reducible repeat (first | apply Kd.jq | apply Kd.zx | apply Kd.jz));exact HO121.out) (by decide)) hk (fun _ h => h.2)) (fun _ h => h.1))
     have n4_ := qq.mk (hb)
     have n5_ := qq.mk (hi)
     clear HO_116002
     clear BK101
     clear BK115
     clear HO121
     clear HB
     clear HI105
     have HO_116002 := n0_
     have BK101 := n1_
     have BK115 := n2_
     have HO121 := n3_
     have HB := n4_
     have HI105 := n5_
     clear n0_ n1_ n2_ n3_ n4_ n5_
     (try clear hb)
     (try clear hb2)
     (try clear hk)
     (try clear hi)
     refine hK.out _ _ ⟨(qw BK115.out 0).trans rfl,(qw BK115.out 1).trans rfl,(qw BK115.out 2).trans rfl,(qw BK115.out 3).trans rfl⟩ (fun hHeld => ?_)
     clear hK K
     refine norm_ (a' := ?_) ?_ ?_
     rotate_left
     ·show Act.put _ (some 33) _ = _
      simp only [Act.put,List.setIfInBounds_toArray,List.set_cons_zero,List.set_cons_succ,i64_w,i32_w]
      rfl
     refine one_ (i := 5) (N := some 34) #[true,true,true,true,true,true,false,false,false] rfl rfl (one_of HT_.out (by kernel_rfl)) (by decide) (fun K hK => ?_)
     refine value_ (w1 := ?_) (v := ?_) (by rfl) rfl ?_ ?_
     rotate_left 2
     ·go_simp
      constructor
      ·rfl
      ·rfl
     refine hK.out _ _ ⟨(qw (zq BK115.out _) 0).trans rfl,(qw (zq BK115.out _) 1).trans rfl,(qw (zq BK115.out _) 2).trans rfl,(qw (zq BK115.out _) 3).trans rfl⟩ (fun hHeld => ?_)
     clear hK K
     refine norm_ (a' := ?_) ?_ ?_
     rotate_left
     ·show Act.put _ (some 34) _ = _
      simp only [Act.put,List.setIfInBounds_toArray,List.set_cons_zero,List.set_cons_succ,i64_w,i32_w]
      rfl
     refine one_ (i := 6) (N := some 35) #[true,true,true,true,true,true,true,false,false] rfl rfl (one_of HT_.out (by kernel_rfl)) (by decide) (fun K hK => ?_)
     refine Kd.R_append_step Kd.string (w0 := w) w.heap.size (by rfl) (.tmp 30) (.tmp 34) 45 9 (.string ⟨#[]⟩) 16 rfl Try.underlying45 info9 rfl (by decide) (by omega) u116002 x116002_1 t122 [.string t122] (fun k_ => some k_ ≠ (.slice Ao23 y119.length co23 : Value).ownBlock) (fun _ => False) rfl rfl ?aP (fun _ hk => hk.elim) ?aF ?aO ?aB ?aS ?aL ?_
     (case aP => exact rfl)
     (case aB => exact (by repeat (first | (with_reducible first | exact HB.out | apply qj | apply qz | apply qk | refine qx ?_ (ww.ge HI105.out) | refine qx ?_ GE101.out | refine qx ?_ GE115.out) | exact HB.out)))
     (case aF => exact (fun k_ hk => Kd.fresh' (Kd.R_lt (by (with_reducible repeat (first | apply Kd.jq | apply Kd.zx | apply Kd.jz));exact HO121.out)) k_ hk))
     (case aO => exact (by (with_reducible repeat (first | apply Kd.jq | apply Kd.zx | apply Kd.jz));exact Kd.R_mono HO_116002.out (fun _ hk => hk.2)))
     (case aS => exact (zw (by repeat (first | (with_reducible first | exact HB.out | apply qj | apply qz | apply qk | refine qx ?_ (ww.ge HI105.out) | refine qx ?_ GE101.out | refine qx ?_ GE115.out) | exact HB.out))))
     (case aL => have := LMc19.out;omega)
     intro v126 w25 ho hb hg hat
     rw [← Ny125.out] at ho
     have n0_ := qq.mk (blk_grown (g := gb101) (o := .cells #[.int .i64 0,.int .i64 0,.slice none 0 0,.int .i64 0] 53 (0,0)) (by (with_reducible repeat (first | refine zz ?_ _ | refine zj ?_ | refine zq ?_ _));exact BK101.out) hg (Kd.R_ne HO_116002.out BK101.out (by decide)))
     have n1_ := qq.mk (blk_grown (g := gb115) (o := .cells #[.int .i64 (wrap64 (1 + t106)),.int .i64 t109,u116002,.int .i64 t112] 53 (0,0)) (by (with_reducible repeat (first | refine zz ?_ _ | refine zj ?_ | refine zq ?_ _));exact BK115.out) hg (Kd.R_ne HO_116002.out BK115.out (by decide)))
     have n2_ := qq.mk (ww.grown (by repeat (first | (with_reducible first | exact HI105.out | apply ww.alloc | apply ww.drewN | apply ww.drew | apply ww.set_1 | apply ww.set_2 | refine ww.far ?_ NB105_101.out _ | refine ww.far ?_ NB105_115.out _) | exact HI105.out)) hg (ww.own_ne HI105.out HO_116002.out (by decide)))
     have n3_ := qq.mk (Kd.R_after (ok := (fun _ => True)) (by (with_reducible repeat (first | apply Kd.jq | apply Kd.zx | apply Kd.jz));exact HO121.out) hg hat)
     have n4_ := qq.mk (hb)
     have n5_ := qq.mk (ho)
     clear BK101
     clear BK115
     clear HI105
     clear HO121
     clear HB
     clear HO_116002
     have BK101 := n0_
     have BK115 := n1_
     have HI105 := n2_
     have HO121 := n3_
     have HB := n4_
     have HO127 := n5_
     clear n0_ n1_ n2_ n3_ n4_ n5_
     clear ho hb hg hat
     obtain ⟨Ao26,co26,eo26⟩ := Kd.R_slice HO127.out
     (first | subst eo26 | (injection eo26 with f1_ f2_ f3_;have f4_ := f1_.symm;have f5_ := f3_.symm;clear f1_ f2_ f3_;subst f4_;subst f5_))
     refine hK.out _ _ ⟨(qw BK115.out 0).trans rfl,(qw BK115.out 1).trans rfl,(qw BK115.out 2).trans rfl,(qw BK115.out 3).trans rfl⟩ (fun hHeld => ?_)
     clear hK K
     refine norm_ (a' := ?_) ?_ ?_
     rotate_left
     ·show Act.put _ (some 35) _ = _
      simp only [Act.put,List.setIfInBounds_toArray,List.set_cons_zero,List.set_cons_succ,i64_w,i32_w]
      rfl
     refine pure_ (i := 7) (N := some 36) (v := ?_) (a' := ?_) #[true,true,true,true,true,true,true,true,false] rfl rfl (any_of HT_.out (by kernel_rfl)) (fun _ _ _ h => h) (Or.inl ⟨by rfl,?_⟩) ?_ ?_
     rotate_left
     ·intro w'
      go_simp
      with_reducible rfl
     rotate_left
     ·simp only [Act.put,List.setIfInBounds_toArray,List.set_cons_zero,List.set_cons_succ,i64_w,i32_w]
      rfl
     refine last_ (i := 8) (N := none) #[true,true,true,true,true,true,true,true,true] rfl rfl (one_of HT_.out (by kernel_rfl)) (by decide) (fun K hK => ?_)
     have hs27 : w25.cell? ⟨gb115,2,none⟩ = some (u116002) := (qw BK115.out 2).trans rfl
     have hfs27 := qv BK115.out 2
     have hns27_0 := NB101_115.out
     have hms27_0 := NB115_101.out
     refine skip_ (w1 := ?_) (by rfl) rfl ?_ ?_
     rotate_left
     ·go_simp
      rfl
     refine hK.out _ _ ?_
     clear hK K
     refine done_ (done_of HT_.out (by kernel_rfl)) ?_
     try go_wp2
     go_roundg k1
     case measure => have := HK1.out;omega
     case rel => exact ⟨(wrap64 (x8_1 - 1)),(t123),(t124),(y125),(.slice Ao26 y125.length co26),(by first | rfl | (simp;done) | (simp [*];done)),H',⟨by have := HK1.out;omega⟩,⟨by (with_reducible repeat (first | apply Kd.jq | apply Kd.zx | apply Kd.jz));exact Kd.R_mono (Kd.R_far (p := ⟨gb115,2,none⟩) (Kd.R_types HO127.out BK115.out (by decide)) (fun _ hk => hk.2) (.slice Ao26 y125.length co26)) (fun _ hk => trivial)⟩,⟨by (with_reducible repeat (first | refine zz ?_ _ | refine zj ?_ | refine zq ?_ _));refine blk_far ?_ NB101_115.out _;(with_reducible repeat (first | refine zz ?_ _ | refine zj ?_ | refine zq ?_ _));exact BK101.out⟩,⟨by (with_reducible repeat (first | refine zz ?_ _ | refine zj ?_ | refine zq ?_ _));refine blk_put (cs := #[.int .i64 (wrap64 (1 + t106)),.int .i64 t109,u116002,.int .i64 t112]) ?_ 2 _ rfl;(with_reducible repeat (first | refine zz ?_ _ | refine zj ?_ | refine zq ?_ _));exact BK115.out⟩,⟨by repeat (first | (with_reducible first | exact HI105.out | apply ww.alloc | apply ww.drewN | apply ww.drew | apply ww.set_1 | apply ww.set_2 | refine ww.far ?_ NB105_101.out _ | refine ww.far ?_ NB105_115.out _) | exact HI105.out)⟩,⟨by repeat (first | (with_reducible first | exact HB.out | apply qj | apply qz | apply qk | refine qx ?_ (ww.ge HI105.out) | refine qx ?_ GE101.out | refine qx ?_ GE115.out) | exact HB.out)⟩⟩
    ·rw [if_neg c19] at H
     exact absurd H (by simp)
   ·rw [if_neg c17] at H
    have c17b0 : decide (0 < x8_1) = false := decide_eq_false c17
    clear c17
    replace H := Option.bind_eq_some_iff.mp H
    obtain ⟨⟨t128,t129,t130⟩,A280,H⟩ := H
    replace H : (qzk.l1 k1 ([] : List (S82)) t128 t102 t129 t130 (wrap64 (1 + t106)) t109 x116002_1 t112) = some (r1,r2,r3,r4,r5,r6,r7) := H
    have A28 := qq.mk A280
    clear A280
    have H' := qq.mk H
    clear H
    go_wp2_with (first | ((with_reducible refine kj (f := 88) rfl ?_);refine goesL_ (some 38) rfl rfl Try.func88 (by kernel_rfl) rfl #[.pointer (some ⟨g105,0,none⟩),.int .i64 4] rfl (by (try simp only [List.map_toArray,List.map_cons,List.map_nil]);first | done | rfl | (simp only [List.length_drop,List.length_take];rfl)) ?_;(with_reducible refine (qkx.calls g105 t102 x106001_1 x106002_1 4 t128 t129 t130 w _ ?side1 ?side2 A28.out).mono ?_);(case side1 => repeat (first | (with_reducible first | exact HI105.out | apply ww.alloc | apply ww.drewN | apply ww.drew | apply ww.set_1 | apply ww.set_2 | refine ww.far ?_ NB105_101.out _ | refine ww.far ?_ NB105_115.out _) | exact HI105.out));(case side2 => repeat (first | (with_reducible first | exact HB.out | apply qj | apply qz | apply qk | refine qx ?_ (ww.ge HI105.out) | refine qx ?_ GE101.out | refine qx ?_ GE115.out) | exact HB.out));rintro e w29 ⟨rfl,hi,hb,hk⟩;refine ⟨_,rfl,?_⟩;have n0_ := qq.mk (Kd.R_mono (Kd.R_keep (ww.apart (show ww w _ g105 t102 x106001_1 x106002_1 from by repeat (first | (with_reducible first | exact HI105.out | apply ww.alloc | apply ww.drewN | apply ww.drew | apply ww.set_1 | apply ww.set_2 | refine ww.far ?_ NB105_101.out _ | refine ww.far ?_ NB105_115.out _) | exact HI105.out)) (by (with_reducible repeat (first | apply Kd.jq | apply Kd.zx | apply Kd.jz));exact HO_116002.out) (by decide)) hk (fun _ h => h.2)) (fun _ h => h.1));have n1_ := qq.mk (zk.blk hk (g' := gb101) (o := .cells #[.int .i64 0,.int .i64 0,.slice none 0 0,.int .i64 0] 53 (0,0)) (by (with_reducible repeat (first | refine zz ?_ _ | refine zj ?_ | refine zq ?_ _));exact BK101.out) NB101_105.out (by simp));have n2_ := qq.mk (zk.blk hk (g' := gb115) (o := .cells #[.int .i64 (wrap64 (1 + t106)),.int .i64 t109,u116002,.int .i64 t112] 53 (0,0)) (by (with_reducible repeat (first | refine zz ?_ _ | refine zj ?_ | refine zq ?_ _));exact BK115.out) NB115_105.out (by simp));have n3_ := qq.mk (hb);have n4_ := qq.mk (hi);clear HO_116002;clear BK101;clear BK115;clear HB;clear HI105;have HO_116002 := n0_;have BK101 := n1_;have BK115 := n2_;have HB := n3_;have HI105 := n4_;clear n0_ n1_ n2_ n3_ n4_;(try clear hb);(try clear hb2);(try clear hk);(try clear hi)))
    go_loopg [9,10] k1 (fun kq v9 v10 w' => ∃ (x9_2 : List (S82)) (x10_2 : Int) (x106001_2 : Int) (x106002_2 : Int),v10 = .int .i64 x10_2 ∧ qq (qzk.l1 kq x9_2 x10_2 t102 x106001_2 x106002_2 (wrap64 (1 + t106)) t109 x116002_1 t112 = some (r1,r2,r3,r4,r5,r6,r7)) ∧ qq (kq ≤ k1) ∧ qq (Kd.S k82 82 w' w.heap.size (fun _ => True) v9 x9_2) ∧ qq (Kd.R Kd.string 9 w' w.heap.size (fun _ => True) u116002 x116002_1) ∧ qq (w'.heap[gb101]? = some (.cells #[.int .i64 0,.int .i64 0,(.slice none 0 0),.int .i64 0] 53 (0,0))) ∧ qq (w'.heap[gb115]? = some (.cells #[.int .i64 (wrap64 (1 + t106)),.int .i64 t109,u116002,.int .i64 t112] 53 (0,0))) ∧ qq (ww w w' g105 t102 x106001_2 x106002_2) ∧ qq (Below w.heap.size w w'))
    case atStart => exact ⟨(([] : List (S82))),(t128),(t129),(t130),(by first | rfl | (simp;done) | (simp [*];done)),H',⟨Nat.le_refl _⟩,⟨by first | exact Kd.S_nil _ _ _ _ _ | exact Kd.N_nil _ _ _ _ _ | exact Kd.V_nil _ _ _ _ _ | exact Kd.Q_nil _ _ _ _ _ | exact Kd.R_nil _ _ _ _ _⟩,⟨by (with_reducible repeat (first | apply Kd.jq | apply Kd.zx | apply Kd.jz));exact HO_116002.out⟩,⟨by (with_reducible repeat (first | refine zz ?_ _ | refine zj ?_ | refine zq ?_ _));exact BK101.out⟩,⟨by (with_reducible repeat (first | refine zz ?_ _ | refine zj ?_ | refine zq ?_ _));exact BK115.out⟩,⟨by repeat (first | (with_reducible first | exact HI105.out | apply ww.alloc | apply ww.drewN | apply ww.drew | apply ww.set_1 | apply ww.set_2 | refine ww.far ?_ NB105_101.out _ | refine ww.far ?_ NB105_115.out _) | exact HI105.out)⟩,⟨by repeat (first | (with_reducible first | exact HB.out | apply qj | apply qz | apply qk | refine qx ?_ (ww.ge HI105.out) | refine qx ?_ GE101.out | refine qx ?_ GE115.out) | exact HB.out)⟩⟩
    case round =>
     clear H'
     try clear c1
     try clear p2
     try clear c4
     try clear p6
     try clear c8
     try clear c9
     try clear c13
     try clear c14
     try clear c16
     try clear c17
     try clear c17b0
     try clear c19
     try clear hcz15_0
     try clear hcz15_1
     try clear hcz15_2
     try clear hcz15_3
     try clear hfz15_0
     try clear hfz15_1
     try clear hfz15_2
     try clear hfz15_3
     try clear p2
     try clear p6
     obtain ⟨x9_2,x10_2,x106001_2,x106002_2,rfl,HA,HK2,HO_9,HO_116002,BK101,BK115,HI105,HB⟩ := hrel
     cases gk with
     | zero => exact absurd HA.out (by simp [qzk.l1])
     | succ k2 =>
      have H := HA.out
      clear HA
      simp only [qzk.l1] at H
      by_cases c30 : x10_2 > 0
      ·rw [if_pos c30] at H
       have c30b0 : decide (0 < x10_2) = true := decide_eq_true c30
       clear c30
       replace H := Option.bind_eq_some_iff.mp H
       obtain ⟨⟨t131,t134,t135,t138,t139⟩,A310,H⟩ := H
       replace H : (if x9_2.length < 2513169434916 then (qzk.l1 k2 (x9_2 ++ [(⟨t131,t134,t135⟩ : S82)]) (wrap64 (x10_2 - 1)) t102 t138 t139 (wrap64 (1 + t106)) t109 x116002_1 t112) else (none)) = some (r1,r2,r3,r4,r5,r6,r7) := H
       have A31 := qq.mk A310
       clear A310
       by_cases c32 : x9_2.length < 2513169434916
       ·rw [if_pos c32] at H
        have LMc32 := qq.mk c32
        clear c32
        obtain ⟨y140,hy140⟩ : ∃ y_ : List (S82),y_ = (x9_2 ++ [(⟨t131,t134,t135⟩ : S82)]) := ⟨_,rfl⟩
        replace H : (qzk.l1 k2 y140 (wrap64 (x10_2 - 1)) t102 t138 t139 (wrap64 (1 + t106)) t109 x116002_1 t112) = some (r1,r2,r3,r4,r5,r6,r7) := by first | (rw [hy140];with_reducible exact H) | (have H2_ := (Option.bind_some _ _).symm.trans H;rw [hy140];with_reducible exact H2_) | (have H2_ := (Option.bind_some _ _).symm.trans H;with_reducible exact H2_) | with_reducible exact H | (rw [hy140];exact H) | exact H
        have Ny140 := qq.mk hy140
        clear hy140
        have H' := qq.mk H
        clear H
        go_wp2_with (first | ((with_reducible refine kj (f := 106) rfl ?_);refine goesL_ (some 45) rfl rfl Try.func106 (by kernel_rfl) rfl #[.pointer (some ⟨g105,0,none⟩)] rfl (by (try simp only [List.map_toArray,List.map_cons,List.map_nil]);first | done | rfl | (simp only [List.length_drop,List.length_take];rfl)) ?_;(with_reducible refine (qvz.calls k2 g105 t102 x106001_2 x106002_2 t131 t134 t135 t138 t139 w _ ?side1 ?side2 A31.out).mono ?_);(case side1 => repeat (first | (with_reducible first | exact HI105.out | apply ww.alloc | apply ww.drewN | apply ww.drew | apply ww.set_1 | apply ww.set_2 | refine ww.far ?_ NB105_101.out _ | refine ww.far ?_ NB105_115.out _) | exact HI105.out));(case side2 => repeat (first | (with_reducible first | exact HB.out | apply qj | apply qz | apply qk | refine qx ?_ (ww.ge HI105.out) | refine qx ?_ GE101.out | refine qx ?_ GE115.out) | exact HB.out));rintro e w33 ⟨v132,v136,rfl,ho0,ho1,hi,hb,hk⟩;refine ⟨_,rfl,?_⟩;have n0_ := qq.mk (Kd.S_mono (Kd.S_told (Kd.S_told (Kd.S_oldK (ww.apartS (show ww w _ g105 t102 x106001_2 x106002_2 from by repeat (first | (with_reducible first | exact HI105.out | apply ww.alloc | apply ww.drewN | apply ww.drew | apply ww.set_1 | apply ww.set_2 | refine ww.far ?_ NB105_101.out _ | refine ww.far ?_ NB105_115.out _) | exact HI105.out)) (by (with_reducible repeat (first | apply Kd.vv | apply Kd.vk | apply Kd.vw));exact HO_9.out) (by decide)) hk) (Kd.R_base ho0)) (Kd.R_base ho1)) (fun _ h_ => h_.1));have n1_ := qq.mk (Kd.R_mono (Kd.R_keep (ww.apart (show ww w _ g105 t102 x106001_2 x106002_2 from by repeat (first | (with_reducible first | exact HI105.out | apply ww.alloc | apply ww.drewN | apply ww.drew | apply ww.set_1 | apply ww.set_2 | refine ww.far ?_ NB105_101.out _ | refine ww.far ?_ NB105_115.out _) | exact HI105.out)) (by (with_reducible repeat (first | apply Kd.jq | apply Kd.zx | apply Kd.jz));exact HO_116002.out) (by decide)) hk (fun _ h => h.2)) (fun _ h => h.1));have n2_ := qq.mk (zk.blk hk (g' := gb101) (o := .cells #[.int .i64 0,.int .i64 0,.slice none 0 0,.int .i64 0] 53 (0,0)) (by (with_reducible repeat (first | refine zz ?_ _ | refine zj ?_ | refine zq ?_ _));exact BK101.out) NB101_105.out (by simp));have n3_ := qq.mk (zk.blk hk (g' := gb115) (o := .cells #[.int .i64 (wrap64 (1 + t106)),.int .i64 t109,u116002,.int .i64 t112] 53 (0,0)) (by (with_reducible repeat (first | refine zz ?_ _ | refine zj ?_ | refine zq ?_ _));exact BK115.out) NB115_105.out (by simp));have n4_ := qq.mk (Kd.R_lower ho0 (zw (by repeat (first | (with_reducible first | exact HB.out | apply qj | apply qz | apply qk | refine qx ?_ (ww.ge HI105.out) | refine qx ?_ GE101.out | refine qx ?_ GE115.out) | exact HB.out))));have n5_ := qq.mk (Kd.R_lower ho1 (zw (by repeat (first | (with_reducible first | exact HB.out | apply qj | apply qz | apply qk | refine qx ?_ (ww.ge HI105.out) | refine qx ?_ GE101.out | refine qx ?_ GE115.out) | exact HB.out))));have n6_ := qq.mk (hb);have n7_ := qq.mk (hi);clear HO_9;clear HO_116002;clear BK101;clear BK115;clear HB;clear HI105;have HO_9 := n0_;have HO_116002 := n1_;have BK101 := n2_;have BK115 := n3_;have HO133 := n4_;have HO137 := n5_;have HB := n6_;have HI105 := n7_;clear n0_ n1_ n2_ n3_ n4_ n5_ n6_ n7_;(try clear hb);(try clear hb2);(try clear hk);(try clear hi);(try clear ho0);(try clear ho1);obtain ⟨Ao35,co35,eo35⟩ := Kd.R_slice HO133.out;subst eo35;obtain ⟨Ao36,co36,eo36⟩ := Kd.R_slice HO137.out;subst eo36) | ((with_reducible refine gate_builtin (b := .append) (xs := #[.tmp 43,.tmp 46]) rfl ?_);at_builtin;refine Kd.S_append k82 (w0 := w) w.heap.size rfl (.tmp 43) (.tmp 46) 55 82 (.agg #[(.slice none 0 0),(.int .i64 0),(.slice none 0 0)]) 56 rfl Try.underlying55 info82 rfl (by decide) (by omega) u9 x9_2 (⟨t131,t134,t135⟩ : S82) [.slice Ao35 t131.length co35,.int .i64 t134,.slice Ao36 t135.length co36] (fun _ => True) (fun k_ => some k_ = (.slice Ao35 t131.length co35 : Value).ownBlock ∨ some k_ = (.slice Ao36 t135.length co36 : Value).ownBlock) rfl rfl ?aP (fun k_ hk_ => hk_.elim (fun h_ => ((Kd.R_mono (ok' := fun k_ => ((fun _ => True)) k_ ∧ some k_ ≠ (u9 : Value).ownBlock) (Kd.R_apart' (HO133.out) (Kd.S_typed HO_9.out) (by decide)) (fun k_ hk => ⟨trivial,hk.2⟩))).1 k_ h_.symm) (fun h_ => ((Kd.R_mono (ok' := fun k_ => ((fun _ => True)) k_ ∧ some k_ ≠ (u9 : Value).ownBlock) (Kd.R_apart' (HO137.out) (Kd.S_typed HO_9.out) (by decide)) (fun k_ hk => ⟨trivial,hk.2⟩))).1 k_ h_.symm)) ?aF ?aO ?aB ?aS ?aL ?_;(case aP => exact k82_mkM _ _ _ (⟨t131,t134,t135⟩ : S82) (Kd.R_mono (Kd.R_tight rfl (Kd.R_mono (ok' := fun k_ => ((fun _ => True)) k_ ∧ some k_ ≠ (u9 : Value).ownBlock) (Kd.R_apart' (HO133.out) (Kd.S_typed HO_9.out) (by decide)) (fun k_ hk => ⟨trivial,hk.2⟩))) (fun _ h_ => Or.inl h_)) (Kd.R_mono (Kd.R_tight rfl (Kd.R_mono (ok' := fun k_ => ((fun _ => True)) k_ ∧ some k_ ≠ (u9 : Value).ownBlock) (Kd.R_apart' (HO137.out) (Kd.S_typed HO_9.out) (by decide)) (fun k_ hk => ⟨trivial,hk.2⟩))) (fun _ h_ => Or.inr (h_))));(case aB => exact (by repeat (first | (with_reducible first | exact HB.out | apply qj | apply qz | apply qk | refine qx ?_ (ww.ge HI105.out) | refine qx ?_ GE101.out | refine qx ?_ GE115.out) | exact HB.out)));(case aF => exact (fun _ _ => trivial));(case aO => exact (by (with_reducible repeat (first | apply Kd.vv | apply Kd.vk | apply Kd.vw));exact Kd.S_mono HO_9.out (fun k_ hk => ⟨trivial,fun e_ => e_.elim (fun h_ => hk.1.2 h_) (fun h_ => hk.2 h_)⟩)));(case aS => exact (zw (by repeat (first | (with_reducible first | exact HB.out | apply qj | apply qz | apply qk | refine qx ?_ (ww.ge HI105.out) | refine qx ?_ GE101.out | refine qx ?_ GE115.out) | exact HB.out))));(case aL => have := LMc32.out;omega);intro v141 w34 ho hb hg hat;rw [← Ny140.out] at ho;have n0_ := qq.mk (Kd.R_over' (by (with_reducible repeat (first | apply Kd.jq | apply Kd.zx | apply Kd.jz));exact HO_116002.out) (Kd.S_typed (by (with_reducible repeat (first | apply Kd.vv | apply Kd.vk | apply Kd.vw));exact HO_9.out)) (by decide) hg);have n1_ := qq.mk (blk_grown (g := gb101) (o := .cells #[.int .i64 0,.int .i64 0,.slice none 0 0,.int .i64 0] 53 (0,0)) (by (with_reducible repeat (first | refine zz ?_ _ | refine zj ?_ | refine zq ?_ _));exact BK101.out) hg (Kd.S_ne HO_9.out BK101.out (by decide)));have n2_ := qq.mk (blk_grown (g := gb115) (o := .cells #[.int .i64 (wrap64 (1 + t106)),.int .i64 t109,u116002,.int .i64 t112] 53 (0,0)) (by (with_reducible repeat (first | refine zz ?_ _ | refine zj ?_ | refine zq ?_ _));exact BK115.out) hg (Kd.S_ne HO_9.out BK115.out (by decide)));have n3_ := qq.mk (ww.grown (by repeat (first | (with_reducible first | exact HI105.out | apply ww.alloc | apply ww.drewN | apply ww.drew | apply ww.set_1 | apply ww.set_2 | refine ww.far ?_ NB105_101.out _ | refine ww.far ?_ NB105_115.out _) | exact HI105.out)) hg (ww.own_neS HI105.out HO_9.out (by decide)));have n4_ := qq.mk (hb);have n5_ := qq.mk (ho);clear HO_116002;clear BK101;clear BK115;clear HI105;clear HB;clear HO_9;clear HO133;clear HO137;have HO_116002 := n0_;have BK101 := n1_;have BK115 := n2_;have HI105 := n3_;have HB := n4_;have HO142 := n5_;clear n0_ n1_ n2_ n3_ n4_ n5_;clear ho hb hg hat))
        go_roundg k2
        case measure => have := HK1.out;have := HK2.out;omega
        case rel => exact ⟨(y140),(wrap64 (x10_2 - 1)),(t138),(t139),(by first | rfl | (simp;done) | (simp [*];done)),H',⟨by have := HK1.out;have := HK2.out;omega⟩,⟨by (with_reducible repeat (first | apply Kd.vv | apply Kd.vk | apply Kd.vw));exact HO142.out⟩,⟨by (with_reducible repeat (first | apply Kd.jq | apply Kd.zx | apply Kd.jz));exact HO_116002.out⟩,⟨by (with_reducible repeat (first | refine zz ?_ _ | refine zj ?_ | refine zq ?_ _));exact BK101.out⟩,⟨by (with_reducible repeat (first | refine zz ?_ _ | refine zj ?_ | refine zq ?_ _));exact BK115.out⟩,⟨by repeat (first | (with_reducible first | exact HI105.out | apply ww.alloc | apply ww.drewN | apply ww.drew | apply ww.set_1 | apply ww.set_2 | refine ww.far ?_ NB105_101.out _ | refine ww.far ?_ NB105_115.out _) | exact HI105.out)⟩,⟨by repeat (first | (with_reducible first | exact HB.out | apply qj | apply qz | apply qk | refine qx ?_ (ww.ge HI105.out) | refine qx ?_ GE101.out | refine qx ?_ GE115.out) | exact HB.out)⟩⟩
       ·rw [if_neg c32] at H
        exact absurd H (by simp)
      ·rw [if_neg c30] at H
       have c30b0 : decide (0 < x10_2) = false := decide_eq_false c30
       clear c30
       replace H := Option.bind_eq_some_iff.mp H
       obtain ⟨⟨t143,t144,t145⟩,A370,H⟩ := H
       replace H : (if t143 = 0 then ((some (([0,64,65] : List Int) : List Int)).bind fun y146 => ((qkx.f t102 t144 t145 3).bind fun bt149 => (if 0 ≤ bt149.1 then (if bt149.1 < (y146.length : Int) then (qzk.j2 k2 x9_2 t102 bt149.2.1 bt149.2.2 (rd y146 bt149.1) t109 x116002_1 t112) else (none)) else (none)))) else (if t143 = 1 then (qzk.j2 k2 x9_2 t102 t144 t145 (wrap64 (1 + t106)) 5 x116002_1 t112) else (if t143 = 2 then (qzk.j2 k2 x9_2 t102 t144 t145 (wrap64 (1 + t106)) t109 (([(⟨#[]⟩ : ByteArray)] : List ByteArray)) t112) else (qzk.j2 k2 x9_2 t102 t144 t145 (wrap64 (1 + t106)) t109 x116002_1 t112)))) = some (r1,r2,r3,r4,r5,r6,r7) := H
       have A37 := qq.mk A370
       clear A370
       have HC38 := qq.mk H
       clear H
       go_upto_block 4 with (first | ((with_reducible refine kj (f := 88) rfl ?_);refine goesL_ (some 49) rfl rfl Try.func88 (by kernel_rfl) rfl #[.pointer (some ⟨g105,0,none⟩),.int .i64 20] rfl (by (try simp only [List.map_toArray,List.map_cons,List.map_nil]);first | done | rfl | (simp only [List.length_drop,List.length_take];rfl)) ?_;(with_reducible refine (qkx.calls g105 t102 x106001_2 x106002_2 20 t143 t144 t145 w _ ?side1 ?side2 A37.out).mono ?_);(case side1 => repeat (first | (with_reducible first | exact HI105.out | apply ww.alloc | apply ww.drewN | apply ww.drew | apply ww.set_1 | apply ww.set_2 | refine ww.far ?_ NB105_101.out _ | refine ww.far ?_ NB105_115.out _) | exact HI105.out));(case side2 => repeat (first | (with_reducible first | exact HB.out | apply qj | apply qz | apply qk | refine qx ?_ (ww.ge HI105.out) | refine qx ?_ GE101.out | refine qx ?_ GE115.out) | exact HB.out));rintro e w39 ⟨rfl,hi,hb,hk⟩;refine ⟨_,rfl,?_⟩;have n0_ := qq.mk (Kd.S_mono (Kd.S_keep (ww.apartS (show ww w _ g105 t102 x106001_2 x106002_2 from by repeat (first | (with_reducible first | exact HI105.out | apply ww.alloc | apply ww.drewN | apply ww.drew | apply ww.set_1 | apply ww.set_2 | refine ww.far ?_ NB105_101.out _ | refine ww.far ?_ NB105_115.out _) | exact HI105.out)) (by (with_reducible repeat (first | apply Kd.vv | apply Kd.vk | apply Kd.vw));exact HO_9.out) (by decide)) hk (fun _ h => h.2)) (fun _ h => h.1));have n1_ := qq.mk (Kd.R_mono (Kd.R_keep (ww.apart (show ww w _ g105 t102 x106001_2 x106002_2 from by repeat (first | (with_reducible first | exact HI105.out | apply ww.alloc | apply ww.drewN | apply ww.drew | apply ww.set_1 | apply ww.set_2 | refine ww.far ?_ NB105_101.out _ | refine ww.far ?_ NB105_115.out _) | exact HI105.out)) (by (with_reducible repeat (first | apply Kd.jq | apply Kd.zx | apply Kd.jz));exact HO_116002.out) (by decide)) hk (fun _ h => h.2)) (fun _ h => h.1));have n2_ := qq.mk (zk.blk hk (g' := gb101) (o := .cells #[.int .i64 0,.int .i64 0,.slice none 0 0,.int .i64 0] 53 (0,0)) (by (with_reducible repeat (first | refine zz ?_ _ | refine zj ?_ | refine zq ?_ _));exact BK101.out) NB101_105.out (by simp));have n3_ := qq.mk (zk.blk hk (g' := gb115) (o := .cells #[.int .i64 (wrap64 (1 + t106)),.int .i64 t109,u116002,.int .i64 t112] 53 (0,0)) (by (with_reducible repeat (first | refine zz ?_ _ | refine zj ?_ | refine zq ?_ _));exact BK115.out) NB115_105.out (by simp));have n4_ := qq.mk (hb);have n5_ := qq.mk (hi);clear HO_9;clear HO_116002;clear BK101;clear BK115;clear HB;clear HI105;have HO_9 := n0_;have HO_116002 := n1_;have BK101 := n2_;have BK115 := n3_;have HB := n4_;have HI105 := n5_;clear n0_ n1_ n2_ n3_ n4_ n5_;(try clear hb);(try clear hb2);(try clear hk);(try clear hi)))
       (try simp only [Act.put,List.setIfInBounds_toArray,List.set_cons_zero,List.set_cons_succ])
       go_cut [] (fun wc => ∃ (kq : Nat) (x106001_37 : Int) (x106002_37 : Int) (x116000_37 : Int) (x116001_37 : Int) (x116002_37 : List ByteArray) (u116002 : Value),qq (qzk.j2 kq x9_2 t102 x106001_37 x106002_37 x116000_37 x116001_37 x116002_37 t112 = some (r1,r2,r3,r4,r5,r6,r7)) ∧ qq (kq ≤ k2) ∧ qq (Kd.S k82 82 wc w.heap.size (fun _ => True) u9 x9_2) ∧ qq (Kd.R Kd.string 9 wc w.heap.size (fun _ => True) u116002 x116002_37) ∧ qq (wc.heap[gb101]? = some (.cells #[.int .i64 0,.int .i64 0,(.slice none 0 0),.int .i64 0] 53 (0,0))) ∧ qq (wc.heap[gb115]? = some (.cells #[.int .i64 x116000_37,.int .i64 x116001_37,u116002,.int .i64 t112] 53 (0,0))) ∧ qq (ww w wc g105 t102 x106001_37 x106002_37) ∧ qq (Below w.heap.size w wc))
       case first =>
        have H := HC38.out
        clear HC38
        by_cases c40 : t143 = 0
        ·rw [if_pos c40] at H
         have c40b0 : (t143 == 0) = true := beq_iff_eq.mpr c40
         have c40b1 : (t143 != 0) = false := bne_eq_false_iff_eq.mpr c40
         clear c40
         (first | rw [c40b0] | (simp only [i64_w,i32_w];rw [c40b0]) | skip)
         obtain ⟨y146,hy146⟩ : ∃ y_ : List Int,y_ = (([0,64,65] : List Int)) := ⟨_,rfl⟩
         replace H : ((qkx.f t102 t144 t145 3).bind fun bt149 => (if 0 ≤ bt149.1 then (if bt149.1 < (y146.length : Int) then (qzk.j2 k2 x9_2 t102 bt149.2.1 bt149.2.2 (rd y146 bt149.1) t109 x116002_1 t112) else (none)) else (none))) = some (r1,r2,r3,r4,r5,r6,r7) := by first | (rw [hy146];with_reducible exact H) | (have H2_ := (Option.bind_some _ _).symm.trans H;rw [hy146];with_reducible exact H2_) | (have H2_ := (Option.bind_some _ _).symm.trans H;with_reducible exact H2_) | with_reducible exact H | (rw [hy146];exact H) | exact H
         have Ny146 := qq.mk hy146
         clear hy146
         replace H := Option.bind_eq_some_iff.mp H
         obtain ⟨⟨t149,t150,t151⟩,A410,H⟩ := H
         replace H : (if 0 ≤ t149 then (if t149 < (y146.length : Int) then (qzk.j2 k2 x9_2 t102 t150 t151 (rd y146 t149) t109 x116002_1 t112) else (none)) else (none)) = some (r1,r2,r3,r4,r5,r6,r7) := H
         have A41 := qq.mk A410
         clear A410
         by_cases c42 : 0 ≤ t149
         ·rw [if_pos c42] at H
          have c42b0 : decide (0 ≤ t149) = true := decide_eq_true c42
          clear c42
          by_cases c43 : t149 < (y146.length : Int)
          ·rw [if_pos c43] at H
           have c43b0 : decide (t149 < (y146.length : Int)) = true := decide_eq_true c43
           clear c43
           have H' := qq.mk H
           clear H
           go_wp2_with (first | ((with_reducible refine gate_dst (N := 52) rfl ?_);refine Kd.R_lit (Kd.int .i64) _ 3 ?hg (N := 52) ?hd (xs := ([0,64,65] : List Int)) (inner := [.int .i64 0,.int .i64 64,.int .i64 65]) (ok := fun _ => True) (okp := fun _ => True) ?hr ?hp (fun _ hk => hk) trivial (Below.refl _ _) (Nat.le_refl _) (by simp) ?_;(case hd => rfl);(case hg => rfl);(case hr => first | (go_simp;done) | (go_simp;rfl));(case hp => exact (Reps.one (show Kd.M (Kd.int .i64) _ _ _ 0 [.int .i64 0] from rfl) (Reps.one (show Kd.M (Kd.int .i64) _ _ _ 64 [.int .i64 64] from rfl) (Reps.one (show Kd.M (Kd.int .i64) _ _ _ 65 [.int .i64 65] from rfl) (Reps.none _ _)))));intro v147 w44 ho45 hb hg_ hnew_;clear hg_ hnew_;(first | rw [← Ny146.out] at ho45 | (simp only [Int.reduceToNat] at ho45;rw [← Ny146.out] at ho45));have n0_ := qq.mk (Kd.S_below (by (with_reducible repeat (first | apply Kd.vv | apply Kd.vk | apply Kd.vw));exact HO_9.out) hb);have n1_ := qq.mk (Kd.R_below (by (with_reducible repeat (first | apply Kd.jq | apply Kd.zx | apply Kd.jz));exact HO_116002.out) hb);have n2_ := qq.mk (Kd.R_lower ho45 (zw (by repeat (first | (with_reducible first | exact HB.out | apply qj | apply qz | apply qk | refine qx ?_ (ww.ge HI105.out) | refine qx ?_ GE101.out | refine qx ?_ GE115.out) | exact HB.out))));have n3_ := qq.mk (wj (g := gb101) (o := .cells #[.int .i64 0,.int .i64 0,.slice none 0 0,.int .i64 0] 53 (0,0)) (by (with_reducible repeat (first | refine zz ?_ _ | refine zj ?_ | refine zq ?_ _));exact BK101.out) hb);have n4_ := qq.mk (wj (g := gb115) (o := .cells #[.int .i64 (wrap64 (1 + t106)),.int .i64 t109,u116002,.int .i64 t112] 53 (0,0)) (by (with_reducible repeat (first | refine zz ?_ _ | refine zj ?_ | refine zq ?_ _));exact BK115.out) hb);have n5_ := qq.mk (ww.below (by repeat (first | (with_reducible first | exact HI105.out | apply ww.alloc | apply ww.drewN | apply ww.drew | apply ww.set_1 | apply ww.set_2 | refine ww.far ?_ NB105_101.out _ | refine ww.far ?_ NB105_115.out _) | exact HI105.out)) hb);have n6_ := qq.mk (zv (by repeat (first | (with_reducible first | exact HB.out | apply qj | apply qz | apply qk | refine qx ?_ (ww.ge HI105.out) | refine qx ?_ GE101.out | refine qx ?_ GE115.out) | exact HB.out)) hb);clear HO_9;clear HO_116002;clear BK101;clear BK115;clear HI105;clear HB;have HO_9 := n0_;have HO_116002 := n1_;have HO148 := n2_;have BK101 := n3_;have BK115 := n4_;have HI105 := n5_;have HB := n6_;clear n0_ n1_ n2_ n3_ n4_ n5_ n6_;clear hb ho45) | ((with_reducible refine kj (f := 88) rfl ?_);refine goesL_ (some 54) rfl rfl Try.func88 (by kernel_rfl) rfl #[.pointer (some ⟨g105,0,none⟩),.int .i64 3] rfl (by (try simp only [List.map_toArray,List.map_cons,List.map_nil]);first | done | rfl | (simp only [List.length_drop,List.length_take];rfl)) ?_;(with_reducible refine (qkx.calls g105 t102 t144 t145 3 t149 t150 t151 w _ ?side1 ?side2 A41.out).mono ?_);(case side1 => repeat (first | (with_reducible first | exact HI105.out | apply ww.alloc | apply ww.drewN | apply ww.drew | apply ww.set_1 | apply ww.set_2 | refine ww.far ?_ NB105_101.out _ | refine ww.far ?_ NB105_115.out _) | exact HI105.out));(case side2 => repeat (first | (with_reducible first | exact HB.out | apply qj | apply qz | apply qk | refine qx ?_ (ww.ge HI105.out) | refine qx ?_ GE101.out | refine qx ?_ GE115.out) | exact HB.out));rintro e w46 ⟨rfl,hi,hb,hk⟩;refine ⟨_,rfl,?_⟩;have n0_ := qq.mk (Kd.S_mono (Kd.S_keep (ww.apartS (show ww w _ g105 t102 t144 t145 from by repeat (first | (with_reducible first | exact HI105.out | apply ww.alloc | apply ww.drewN | apply ww.drew | apply ww.set_1 | apply ww.set_2 | refine ww.far ?_ NB105_101.out _ | refine ww.far ?_ NB105_115.out _) | exact HI105.out)) (by (with_reducible repeat (first | apply Kd.vv | apply Kd.vk | apply Kd.vw));exact HO_9.out) (by decide)) hk (fun _ h => h.2)) (fun _ h => h.1));have n1_ := qq.mk (Kd.R_mono (Kd.R_keep (ww.apart (show ww w _ g105 t102 t144 t145 from by repeat (first | (with_reducible first | exact HI105.out | apply ww.alloc | apply ww.drewN | apply ww.drew | apply ww.set_1 | apply ww.set_2 | refine ww.far ?_ NB105_101.out _ | refine ww.far ?_ NB105_115.out _) | exact HI105.out)) (by (with_reducible repeat (first | apply Kd.jq | apply Kd.zx | apply Kd.jz));exact HO_116002.out) (by decide)) hk (fun _ h => h.2)) (fun _ h => h.1));have n2_ := qq.mk (zk.blk hk (g' := gb101) (o := .cells #[.int .i64 0,.int .i64 0,.slice none 0 0,.int .i64 0] 53 (0,0)) (by (with_reducible repeat (first | refine zz ?_ _ | refine zj ?_ | refine zq ?_ _));exact BK101.out) NB101_105.out (by simp));have n3_ := qq.mk (zk.blk hk (g' := gb115) (o := .cells #[.int .i64 (wrap64 (1 + t106)),.int .i64 t109,u116002,.int .i64 t112] 53 (0,0)) (by (with_reducible repeat (first | refine zz ?_ _ | refine zj ?_ | refine zq ?_ _));exact BK115.out) NB115_105.out (by simp));have n4_ := qq.mk (Kd.R_mono (Kd.R_keep (ww.apart (show ww w _ g105 t102 t144 t145 from by repeat (first | (with_reducible first | exact HI105.out | apply ww.alloc | apply ww.drewN | apply ww.drew | apply ww.set_1 | apply ww.set_2 | refine ww.far ?_ NB105_101.out _ | refine ww.far ?_ NB105_115.out _) | exact HI105.out)) (by (with_reducible repeat (first | apply Kd.jq | apply Kd.zx | apply Kd.jz));exact HO148.out) (by decide)) hk (fun _ h => h.2)) (fun _ h => h.1));have n5_ := qq.mk (hb);have n6_ := qq.mk (hi);clear HO_9;clear HO_116002;clear BK101;clear BK115;clear HO148;clear HB;clear HI105;have HO_9 := n0_;have HO_116002 := n1_;have BK101 := n2_;have BK115 := n3_;have HO148 := n4_;have HB := n5_;have HI105 := n6_;clear n0_ n1_ n2_ n3_ n4_ n5_ n6_;(try clear hb);(try clear hb2);(try clear hk);(try clear hi);obtain ⟨Ao47,co47,eo47⟩ := Kd.R_slice HO148.out;subst eo47;have p152 : 0 ≤ (t149 : Int) := of_decide_eq_true (by assumption);have q152 : t149 < (y146.length : Int) := of_decide_eq_true (by assumption);obtain ⟨ad152,e152,hx152_0⟩ := Kd.at_int (Kd.R_reads' HO148.out).2.2 t149 p152 q152;cases e152;replace p152 := eq_true p152;replace q152 := eq_true q152;have hnb48 := NB115_101.out;have hnc48 := NB101_115.out;have hnb49 := NB115_105.out;have hnc49 := NB105_115.out;have hcz50_0 : w46.cell? ⟨gb115,0,none⟩ = some (.int .i64 (wrap64 (1 + t106))) := (qw BK115.out 0).trans rfl;have hcz50_1 : w46.cell? ⟨gb115,1,none⟩ = some (.int .i64 t109) := (qw BK115.out 1).trans rfl;have hcz50_2 : w46.cell? ⟨gb115,2,none⟩ = some (u116002) := (qw BK115.out 2).trans rfl;have hcz50_3 : w46.cell? ⟨gb115,3,none⟩ = some (.int .i64 t112) := (qw BK115.out 3).trans rfl;have hfz50_0 := qv BK115.out 0;have hfz50_1 := qv BK115.out 1;have hfz50_2 := qv BK115.out 2;have hfz50_3 := qv BK115.out 3))
           go_meet
           case rel => exact ⟨_,(t150),(t151),(rd y146 t149),(t109),(x116002_1),(u116002),H',⟨by have := HK1.out;have := HK2.out;first | omega | exact Nat.le_refl _⟩,⟨by (with_reducible repeat (first | apply Kd.vv | apply Kd.vk | apply Kd.vw));exact Kd.S_mono (Kd.S_far (p := ⟨gb115,0,none⟩) (Kd.S_types HO_9.out BK115.out (by decide)) (fun _ hk => hk.2) (.int .i64 (rd y146 t149))) (fun _ hk => trivial)⟩,⟨by (with_reducible repeat (first | apply Kd.jq | apply Kd.zx | apply Kd.jz));exact Kd.R_mono (Kd.R_far (p := ⟨gb115,0,none⟩) (Kd.R_types HO_116002.out BK115.out (by decide)) (fun _ hk => hk.2) (.int .i64 (rd y146 t149))) (fun _ hk => trivial)⟩,⟨by (with_reducible repeat (first | refine zz ?_ _ | refine zj ?_ | refine zq ?_ _));refine blk_far ?_ NB101_115.out _;(with_reducible repeat (first | refine zz ?_ _ | refine zj ?_ | refine zq ?_ _));exact BK101.out⟩,⟨by (with_reducible repeat (first | refine zz ?_ _ | refine zj ?_ | refine zq ?_ _));refine blk_put (cs := #[.int .i64 (wrap64 (1 + t106)),.int .i64 t109,u116002,.int .i64 t112]) ?_ 0 _ rfl;(with_reducible repeat (first | refine zz ?_ _ | refine zj ?_ | refine zq ?_ _));exact BK115.out⟩,⟨by repeat (first | (with_reducible first | exact HI105.out | apply ww.alloc | apply ww.drewN | apply ww.drew | apply ww.set_1 | apply ww.set_2 | refine ww.far ?_ NB105_101.out _ | refine ww.far ?_ NB105_115.out _) | exact HI105.out)⟩,⟨by repeat (first | (with_reducible first | exact HB.out | apply qj | apply qz | apply qk | refine qx ?_ (ww.ge HI105.out) | refine qx ?_ GE101.out | refine qx ?_ GE115.out) | exact HB.out)⟩⟩
          ·rw [if_neg c43] at H
           exact absurd H (by simp)
         ·rw [if_neg c42] at H
          exact absurd H (by simp)
        ·rw [if_neg c40] at H
         have c40b0 : (t143 == 0) = false := beq_eq_false_iff_ne.mpr c40
         have c40b1 : (t143 != 0) = true := bne_iff_ne.mpr c40
         (first | rw [c40b0] | (simp only [i64_w,i32_w];rw [c40b0]) | skip)
         by_cases c51 : t143 = 1
         ·rw [if_pos c51] at H
          have c51b0 : (t143 == 1) = true := beq_iff_eq.mpr c51
          have c51b1 : (t143 != 1) = false := bne_eq_false_iff_eq.mpr c51
          clear c51
          have H' := qq.mk H
          clear H
          have hnb52 := NB115_101.out
          have hnc52 := NB101_115.out
          have hnb53 := NB115_105.out
          have hnc53 := NB105_115.out
          have hcz54_0 : w39.cell? ⟨gb115,0,none⟩ = some (.int .i64 (wrap64 (1 + t106))) := (qw BK115.out 0).trans rfl
          have hcz54_1 : w39.cell? ⟨gb115,1,none⟩ = some (.int .i64 t109) := (qw BK115.out 1).trans rfl
          have hcz54_2 : w39.cell? ⟨gb115,2,none⟩ = some (u116002) := (qw BK115.out 2).trans rfl
          have hcz54_3 : w39.cell? ⟨gb115,3,none⟩ = some (.int .i64 t112) := (qw BK115.out 3).trans rfl
          have hfz54_0 := qv BK115.out 0
          have hfz54_1 := qv BK115.out 1
          have hfz54_2 := qv BK115.out 2
          have hfz54_3 := qv BK115.out 3
          go_wp2
          go_meet
          case rel => exact ⟨_,(t144),(t145),((wrap64 (1 + t106))),(5),(x116002_1),(u116002),H',⟨by have := HK1.out;have := HK2.out;first | omega | exact Nat.le_refl _⟩,⟨by (with_reducible repeat (first | apply Kd.vv | apply Kd.vk | apply Kd.vw));exact Kd.S_mono (Kd.S_far (p := ⟨gb115,1,none⟩) (Kd.S_types HO_9.out BK115.out (by decide)) (fun _ hk => hk.2) (.int .i64 5)) (fun _ hk => trivial)⟩,⟨by (with_reducible repeat (first | apply Kd.jq | apply Kd.zx | apply Kd.jz));exact Kd.R_mono (Kd.R_far (p := ⟨gb115,1,none⟩) (Kd.R_types HO_116002.out BK115.out (by decide)) (fun _ hk => hk.2) (.int .i64 5)) (fun _ hk => trivial)⟩,⟨by (with_reducible repeat (first | refine zz ?_ _ | refine zj ?_ | refine zq ?_ _));refine blk_far ?_ NB101_115.out _;(with_reducible repeat (first | refine zz ?_ _ | refine zj ?_ | refine zq ?_ _));exact BK101.out⟩,⟨by (with_reducible repeat (first | refine zz ?_ _ | refine zj ?_ | refine zq ?_ _));refine blk_put (cs := #[.int .i64 (wrap64 (1 + t106)),.int .i64 t109,u116002,.int .i64 t112]) ?_ 1 _ rfl;(with_reducible repeat (first | refine zz ?_ _ | refine zj ?_ | refine zq ?_ _));exact BK115.out⟩,⟨by repeat (first | (with_reducible first | exact HI105.out | apply ww.alloc | apply ww.drewN | apply ww.drew | apply ww.set_1 | apply ww.set_2 | refine ww.far ?_ NB105_101.out _ | refine ww.far ?_ NB105_115.out _) | exact HI105.out)⟩,⟨by repeat (first | (with_reducible first | exact HB.out | apply qj | apply qz | apply qk | refine qx ?_ (ww.ge HI105.out) | refine qx ?_ GE101.out | refine qx ?_ GE115.out) | exact HB.out)⟩⟩
         ·rw [if_neg c51] at H
          have c51b0 : (t143 == 1) = false := beq_eq_false_iff_ne.mpr c51
          have c51b1 : (t143 != 1) = true := bne_iff_ne.mpr c51
          by_cases c55 : t143 = 2
          ·rw [if_pos c55] at H
           have c55b0 : (t143 == 2) = true := beq_iff_eq.mpr c55
           have c55b1 : (t143 != 2) = false := bne_eq_false_iff_eq.mpr c55
           clear c55
           obtain ⟨y153,hy153⟩ : ∃ y_ : List ByteArray,y_ = (([(⟨#[]⟩ : ByteArray)] : List ByteArray)) := ⟨_,rfl⟩
           replace H : (qzk.j2 k2 x9_2 t102 t144 t145 (wrap64 (1 + t106)) t109 y153 t112) = some (r1,r2,r3,r4,r5,r6,r7) := by first | (rw [hy153];with_reducible exact H) | (have H2_ := (Option.bind_some _ _).symm.trans H;rw [hy153];with_reducible exact H2_) | (have H2_ := (Option.bind_some _ _).symm.trans H;with_reducible exact H2_) | with_reducible exact H | (rw [hy153];exact H) | exact H
           have Ny153 := qq.mk hy153
           clear hy153
           have H' := qq.mk H
           clear H
           go_wp2_with (first | ((with_reducible refine gate_dst (N := 63) rfl ?_);refine Kd.R_lit Kd.string _ 9 ?hg (N := 63) ?hd (xs := ([(⟨#[]⟩ : ByteArray)] : List ByteArray)) (inner := [.string (⟨#[]⟩ : ByteArray)]) (ok := fun _ => True) (okp := fun _ => True) ?hr ?hp (fun _ hk => hk) trivial (Below.refl _ _) (Nat.le_refl _) (by simp) ?_;(case hd => rfl);(case hg => rfl);(case hr => first | (go_simp;done) | (go_simp;rfl));(case hp => exact (Reps.one (show Kd.M Kd.string _ _ _ (⟨#[]⟩ : ByteArray) [.string (⟨#[]⟩ : ByteArray)] from rfl) (Reps.none _ _)));intro v154 w56 ho57 hb hg_ hnew_;clear hg_ hnew_;(first | rw [← Ny153.out] at ho57 | (simp only [Int.reduceToNat] at ho57;rw [← Ny153.out] at ho57));have n0_ := qq.mk (Kd.S_below (by (with_reducible repeat (first | apply Kd.vv | apply Kd.vk | apply Kd.vw));exact HO_9.out) hb);have n1_ := qq.mk (Kd.R_elder' (by (with_reducible repeat (first | apply Kd.jq | apply Kd.zx | apply Kd.jz));exact HO_116002.out) (Kd.R_base ho57) hb);have n2_ := qq.mk (Kd.R_lower (Kd.R_new' ho57 (Kd.R_lt (by (with_reducible repeat (first | apply Kd.jq | apply Kd.zx | apply Kd.jz));exact HO_116002.out))) (zw (by repeat (first | (with_reducible first | exact HB.out | apply qj | apply qz | apply qk | refine qx ?_ (ww.ge HI105.out) | refine qx ?_ GE101.out | refine qx ?_ GE115.out) | exact HB.out))));have n3_ := qq.mk (wj (g := gb101) (o := .cells #[.int .i64 0,.int .i64 0,.slice none 0 0,.int .i64 0] 53 (0,0)) (by (with_reducible repeat (first | refine zz ?_ _ | refine zj ?_ | refine zq ?_ _));exact BK101.out) hb);have n4_ := qq.mk (wj (g := gb115) (o := .cells #[.int .i64 (wrap64 (1 + t106)),.int .i64 t109,u116002,.int .i64 t112] 53 (0,0)) (by (with_reducible repeat (first | refine zz ?_ _ | refine zj ?_ | refine zq ?_ _));exact BK115.out) hb);have n5_ := qq.mk (ww.below (by repeat (first | (with_reducible first | exact HI105.out | apply ww.alloc | apply ww.drewN | apply ww.drew | apply ww.set_1 | apply ww.set_2 | refine ww.far ?_ NB105_101.out _ | refine ww.far ?_ NB105_115.out _) | exact HI105.out)) hb);have n6_ := qq.mk (zv (by repeat (first | (with_reducible first | exact HB.out | apply qj | apply qz | apply qk | refine qx ?_ (ww.ge HI105.out) | refine qx ?_ GE101.out | refine qx ?_ GE115.out) | exact HB.out)) hb);clear HO_9;clear HO_116002;clear BK101;clear BK115;clear HI105;clear HB;have HO_9 := n0_;have HO_116002 := n1_;have HO155 := n2_;have BK101 := n3_;have BK115 := n4_;have HI105 := n5_;have HB := n6_;clear n0_ n1_ n2_ n3_ n4_ n5_ n6_;clear hb ho57;obtain ⟨Ao58,co58,eo58⟩ := Kd.R_slice HO155.out;subst eo58;have hnb59 := NB115_101.out;have hnc59 := NB101_115.out;have hnb60 := NB115_105.out;have hnc60 := NB105_115.out;have hcz61_0 : w56.cell? ⟨gb115,0,none⟩ = some (.int .i64 (wrap64 (1 + t106))) := (qw BK115.out 0).trans rfl;have hcz61_1 : w56.cell? ⟨gb115,1,none⟩ = some (.int .i64 t109) := (qw BK115.out 1).trans rfl;have hcz61_2 : w56.cell? ⟨gb115,2,none⟩ = some (u116002) := (qw BK115.out 2).trans rfl;have hcz61_3 : w56.cell? ⟨gb115,3,none⟩ = some (.int .i64 t112) := (qw BK115.out 3).trans rfl;have hfz61_0 := qv BK115.out 0;have hfz61_1 := qv BK115.out 1;have hfz61_2 := qv BK115.out 2;have hfz61_3 := qv BK115.out 3))
           go_meet
           case rel => exact ⟨_,(t144),(t145),((wrap64 (1 + t106))),(t109),(y153),(.slice Ao58 y153.length co58),H',⟨by have := HK1.out;have := HK2.out;first | omega | exact Nat.le_refl _⟩,⟨by (with_reducible repeat (first | apply Kd.vv | apply Kd.vk | apply Kd.vw));exact Kd.S_mono (Kd.S_far (p := ⟨gb115,2,none⟩) (Kd.S_types HO_9.out BK115.out (by decide)) (fun _ hk => hk.2) (.slice Ao58 y153.length co58)) (fun _ hk => trivial)⟩,⟨by (with_reducible repeat (first | apply Kd.jq | apply Kd.zx | apply Kd.jz));exact Kd.R_mono (Kd.R_far (p := ⟨gb115,2,none⟩) (Kd.R_types HO155.out BK115.out (by decide)) (fun _ hk => hk.2) (.slice Ao58 y153.length co58)) (fun _ hk => trivial)⟩,⟨by (with_reducible repeat (first | refine zz ?_ _ | refine zj ?_ | refine zq ?_ _));refine blk_far ?_ NB101_115.out _;(with_reducible repeat (first | refine zz ?_ _ | refine zj ?_ | refine zq ?_ _));exact BK101.out⟩,⟨by (with_reducible repeat (first | refine zz ?_ _ | refine zj ?_ | refine zq ?_ _));refine blk_put (cs := #[.int .i64 (wrap64 (1 + t106)),.int .i64 t109,u116002,.int .i64 t112]) ?_ 2 _ rfl;(with_reducible repeat (first | refine zz ?_ _ | refine zj ?_ | refine zq ?_ _));exact BK115.out⟩,⟨by repeat (first | (with_reducible first | exact HI105.out | apply ww.alloc | apply ww.drewN | apply ww.drew | apply ww.set_1 | apply ww.set_2 | refine ww.far ?_ NB105_101.out _ | refine ww.far ?_ NB105_115.out _) | exact HI105.out)⟩,⟨by repeat (first | (with_reducible first | exact HB.out | apply qj | apply qz | apply qk | refine qx ?_ (ww.ge HI105.out) | refine qx ?_ GE101.out | refine qx ?_ GE115.out) | exact HB.out)⟩⟩
          ·rw [if_neg c55] at H
           have c55b0 : (t143 == 2) = false := beq_eq_false_iff_ne.mpr c55
           have c55b1 : (t143 != 2) = true := bne_iff_ne.mpr c55
           have H' := qq.mk H
           clear H
           go_wp2
           go_meet
           case rel => exact ⟨_,(t144),(t145),((wrap64 (1 + t106))),(t109),(x116002_1),(u116002),H',⟨by have := HK1.out;have := HK2.out;first | omega | exact Nat.le_refl _⟩,⟨by (with_reducible repeat (first | apply Kd.vv | apply Kd.vk | apply Kd.vw));exact HO_9.out⟩,⟨by (with_reducible repeat (first | apply Kd.jq | apply Kd.zx | apply Kd.jz));exact HO_116002.out⟩,⟨by (with_reducible repeat (first | refine zz ?_ _ | refine zj ?_ | refine zq ?_ _));exact BK101.out⟩,⟨by (with_reducible repeat (first | refine zz ?_ _ | refine zj ?_ | refine zq ?_ _));exact BK115.out⟩,⟨by repeat (first | (with_reducible first | exact HI105.out | apply ww.alloc | apply ww.drewN | apply ww.drew | apply ww.set_1 | apply ww.set_2 | refine ww.far ?_ NB105_101.out _ | refine ww.far ?_ NB105_115.out _) | exact HI105.out)⟩,⟨by repeat (first | (with_reducible first | exact HB.out | apply qj | apply qz | apply qk | refine qx ?_ (ww.ge HI105.out) | refine qx ?_ GE101.out | refine qx ?_ GE115.out) | exact HB.out)⟩⟩
       case rest =>
        clear HC38
        try clear c1
        try clear p1
        try clear q1
        try clear hx1
        try clear p2
        try clear c3
        try clear c4
        try clear c5
        try clear c6
        try clear p6
        try clear c8
        try clear c9
        try clear c10
        try clear c13
        try clear c14
        try clear p15
        try clear q15
        try clear hx15
        try clear c16
        try clear c17
        try clear c17b0
        try clear c19
        try clear c30
        try clear c30b0
        try clear c32
        try clear c40
        try clear c40b0
        try clear c40b1
        try clear c42
        try clear c42b0
        try clear c43
        try clear c43b0
        try clear c48
        try clear c49
        try clear c51
        try clear c51b0
        try clear c51b1
        try clear c52
        try clear c53
        try clear c55
        try clear c55b0
        try clear c55b1
        try clear c59
        try clear c60
        try clear hcz15_0
        try clear hcz15_1
        try clear hcz15_2
        try clear hcz15_3
        try clear hcz50_0
        try clear hcz50_1
        try clear hcz50_2
        try clear hcz50_3
        try clear hcz54_0
        try clear hcz54_1
        try clear hcz54_2
        try clear hcz54_3
        try clear hcz61_0
        try clear hcz61_1
        try clear hcz61_2
        try clear hcz61_3
        try clear hfz15_0
        try clear hfz15_1
        try clear hfz15_2
        try clear hfz15_3
        try clear hfz50_0
        try clear hfz50_1
        try clear hfz50_2
        try clear hfz50_3
        try clear hfz54_0
        try clear hfz54_1
        try clear hfz54_2
        try clear hfz54_3
        try clear hfz61_0
        try clear hfz61_1
        try clear hfz61_2
        try clear hfz61_3
        try clear hx152_0
        try clear p152
        try clear p2
        try clear p6
        try clear q152
        obtain ⟨kq,x106001_37,x106002_37,x116000_37,x116001_37,x116002_37,u116002,HA,HJ37,HO_9,HO_116002,BK101,BK115,HI105,HB⟩ := hcut
        cases kq with
        | zero => exact absurd HA.out (by simp [qzk.j2])
        | succ kj37 =>
         have H := HA.out
         clear HA
         simp only [qzk.j2] at H
         replace H := Option.bind_eq_some_iff.mp H
         obtain ⟨⟨t156,t157,t158⟩,A620,H⟩ := H
         replace H : ((qkv.f t102 t157 t158 16).bind fun bt159 => (if bt159.1 = true then ((qkz.f kj37 t102 bt159.2.1 bt159.2.2 64).bind fun bt162 => ((qkk.f t102 bt162.2.1 bt162.2.2 (([(⟨#[97,110,110]⟩ : ByteArray),(⟨#[97,110]⟩ : ByteArray),(⟨#[98,111,98]⟩ : ByteArray)] : List ByteArray))).bind fun bt168 => (some (x116000_37,x116001_37,x116002_37,t112,bt168.1,bt162.1,x9_2)))) else ((qkk.f t102 bt159.2.1 bt159.2.2 (([(⟨#[97,110,110]⟩ : ByteArray),(⟨#[97,110]⟩ : ByteArray),(⟨#[98,111,98]⟩ : ByteArray)] : List ByteArray))).bind fun bt174 => (some (x116000_37,x116001_37,x116002_37,t112,bt174.1,t156,x9_2))))) = some (r1,r2,r3,r4,r5,r6,r7) := H
         have A62 := qq.mk A620
         clear A620
         replace H := Option.bind_eq_some_iff.mp H
         obtain ⟨⟨t159,t160,t161⟩,A630,H⟩ := H
         replace H : (if t159 = true then ((qkz.f kj37 t102 t160 t161 64).bind fun bt162 => ((qkk.f t102 bt162.2.1 bt162.2.2 (([(⟨#[97,110,110]⟩ : ByteArray),(⟨#[97,110]⟩ : ByteArray),(⟨#[98,111,98]⟩ : ByteArray)] : List ByteArray))).bind fun bt168 => (some (x116000_37,x116001_37,x116002_37,t112,bt168.1,bt162.1,x9_2)))) else ((qkk.f t102 t160 t161 (([(⟨#[97,110,110]⟩ : ByteArray),(⟨#[97,110]⟩ : ByteArray),(⟨#[98,111,98]⟩ : ByteArray)] : List ByteArray))).bind fun bt174 => (some (x116000_37,x116001_37,x116002_37,t112,bt174.1,t156,x9_2)))) = some (r1,r2,r3,r4,r5,r6,r7) := H
         have A63 := qq.mk A630
         clear A630
         by_cases c64 : t159 = true
         ·subst c64
          have H1 : ((qkz.f kj37 t102 t160 t161 64).bind fun bt162 => ((qkk.f t102 bt162.2.1 bt162.2.2 (([(⟨#[97,110,110]⟩ : ByteArray),(⟨#[97,110]⟩ : ByteArray),(⟨#[98,111,98]⟩ : ByteArray)] : List ByteArray))).bind fun bt168 => (some (x116000_37,x116001_37,x116002_37,t112,bt168.1,bt162.1,x9_2)))) = some (r1,r2,r3,r4,r5,r6,r7) := by rw [if_pos rfl] at H;exact H
          clear H
          have H := H1
          clear H1
          replace H := Option.bind_eq_some_iff.mp H
          obtain ⟨⟨t162,t163,t164⟩,A650,H⟩ := H
          replace H : ((qkk.f t102 t163 t164 (([(⟨#[97,110,110]⟩ : ByteArray),(⟨#[97,110]⟩ : ByteArray),(⟨#[98,111,98]⟩ : ByteArray)] : List ByteArray))).bind fun bt168 => (some (x116000_37,x116001_37,x116002_37,t112,bt168.1,t162,x9_2))) = some (r1,r2,r3,r4,r5,r6,r7) := H
          have A65 := qq.mk A650
          clear A650
          obtain ⟨y165,hy165⟩ : ∃ y_ : List ByteArray,y_ = (([(⟨#[97,110,110]⟩ : ByteArray),(⟨#[97,110]⟩ : ByteArray),(⟨#[98,111,98]⟩ : ByteArray)] : List ByteArray)) := ⟨_,rfl⟩
          replace H : ((qkk.f t102 t163 t164 y165).bind fun bt168 => (some (x116000_37,x116001_37,x116002_37,t112,bt168.1,t162,x9_2))) = some (r1,r2,r3,r4,r5,r6,r7) := by first | (rw [hy165];with_reducible exact H) | (have H2_ := (Option.bind_some _ _).symm.trans H;rw [hy165];with_reducible exact H2_) | (have H2_ := (Option.bind_some _ _).symm.trans H;with_reducible exact H2_) | with_reducible exact H | (rw [hy165];exact H) | exact H
          have Ny165 := qq.mk hy165
          clear hy165
          replace H := Option.bind_eq_some_iff.mp H
          obtain ⟨⟨t168,t169,t170⟩,A660,H⟩ := H
          replace H : (some (x116000_37,x116001_37,x116002_37,t112,t168,t162,x9_2)) = some (r1,r2,r3,r4,r5,r6,r7) := H
          have A66 := qq.mk A660
          clear A660
          simp only [Option.some.injEq,Prod.mk.injEq] at H
          obtain ⟨rfl,rfl,rfl,rfl,rfl,rfl,rfl⟩ := H
          try go_wp2_with (first | ((with_reducible refine kj (f := 101) rfl ?_);refine goesL_ (some 66) rfl rfl Try.func101 (by kernel_rfl) rfl #[.pointer (some ⟨g105,0,none⟩)] rfl (by (try simp only [List.map_toArray,List.map_cons,List.map_nil]);first | done | rfl | (simp only [List.length_drop,List.length_take];rfl)) ?_;(with_reducible refine (qkw.calls g105 t102 x106001_37 x106002_37 t156 t157 t158 w _ ?side1 ?side2 A62.out).mono ?_);(case side1 => repeat (first | (with_reducible first | exact HI105.out | apply ww.alloc | apply ww.drewN | apply ww.drew | apply ww.set_1 | apply ww.set_2 | refine ww.far ?_ NB105_101.out _ | refine ww.far ?_ NB105_115.out _) | exact HI105.out));(case side2 => repeat (first | (with_reducible first | exact HB.out | apply qj | apply qz | apply qk | refine qx ?_ (ww.ge HI105.out) | refine qx ?_ GE101.out | refine qx ?_ GE115.out) | exact HB.out));rintro e w67 ⟨rfl,hi,hb,hk⟩;refine ⟨_,rfl,?_⟩;have n0_ := qq.mk (Kd.S_mono (Kd.S_keep (ww.apartS (show ww w _ g105 t102 x106001_37 x106002_37 from by repeat (first | (with_reducible first | exact HI105.out | apply ww.alloc | apply ww.drewN | apply ww.drew | apply ww.set_1 | apply ww.set_2 | refine ww.far ?_ NB105_101.out _ | refine ww.far ?_ NB105_115.out _) | exact HI105.out)) (by (with_reducible repeat (first | apply Kd.vv | apply Kd.vk | apply Kd.vw));exact HO_9.out) (by decide)) hk (fun _ h => h.2)) (fun _ h => h.1));have n1_ := qq.mk (Kd.R_mono (Kd.R_keep (ww.apart (show ww w _ g105 t102 x106001_37 x106002_37 from by repeat (first | (with_reducible first | exact HI105.out | apply ww.alloc | apply ww.drewN | apply ww.drew | apply ww.set_1 | apply ww.set_2 | refine ww.far ?_ NB105_101.out _ | refine ww.far ?_ NB105_115.out _) | exact HI105.out)) (by (with_reducible repeat (first | apply Kd.jq | apply Kd.zx | apply Kd.jz));exact HO_116002.out) (by decide)) hk (fun _ h => h.2)) (fun _ h => h.1));have n2_ := qq.mk (zk.blk hk (g' := gb101) (o := .cells #[.int .i64 0,.int .i64 0,.slice none 0 0,.int .i64 0] 53 (0,0)) (by (with_reducible repeat (first | refine zz ?_ _ | refine zj ?_ | refine zq ?_ _));exact BK101.out) NB101_105.out (by simp));have n3_ := qq.mk (zk.blk hk (g' := gb115) (o := .cells #[.int .i64 x116000_37,.int .i64 x116001_37,u116002,.int .i64 t112] 53 (0,0)) (by (with_reducible repeat (first | refine zz ?_ _ | refine zj ?_ | refine zq ?_ _));exact BK115.out) NB115_105.out (by simp));have n4_ := qq.mk (hb);have n5_ := qq.mk (hi);clear HO_9;clear HO_116002;clear BK101;clear BK115;clear HB;clear HI105;have HO_9 := n0_;have HO_116002 := n1_;have BK101 := n2_;have BK115 := n3_;have HB := n4_;have HI105 := n5_;clear n0_ n1_ n2_ n3_ n4_ n5_;(try clear hb);(try clear hb2);(try clear hk);(try clear hi)) | ((with_reducible refine kj (f := 90) rfl ?_);refine goesL_ (some 68) rfl rfl Try.func90 (by kernel_rfl) rfl #[.pointer (some ⟨g105,0,none⟩),.int .i64 16] rfl (by (try simp only [List.map_toArray,List.map_cons,List.map_nil]);first | done | rfl | (simp only [List.length_drop,List.length_take];rfl)) ?_;(with_reducible refine (qkv.calls g105 t102 t157 t158 16 true t160 t161 w _ ?side1 ?side2 A63.out).mono ?_);(case side1 => repeat (first | (with_reducible first | exact HI105.out | apply ww.alloc | apply ww.drewN | apply ww.drew | apply ww.set_1 | apply ww.set_2 | refine ww.far ?_ NB105_101.out _ | refine ww.far ?_ NB105_115.out _) | exact HI105.out));(case side2 => repeat (first | (with_reducible first | exact HB.out | apply qj | apply qz | apply qk | refine qx ?_ (ww.ge HI105.out) | refine qx ?_ GE101.out | refine qx ?_ GE115.out) | exact HB.out));rintro e w68 ⟨rfl,hi,hb,hk⟩;refine ⟨_,rfl,?_⟩;have n0_ := qq.mk (Kd.S_mono (Kd.S_keep (ww.apartS (show ww w _ g105 t102 t157 t158 from by repeat (first | (with_reducible first | exact HI105.out | apply ww.alloc | apply ww.drewN | apply ww.drew | apply ww.set_1 | apply ww.set_2 | refine ww.far ?_ NB105_101.out _ | refine ww.far ?_ NB105_115.out _) | exact HI105.out)) (by (with_reducible repeat (first | apply Kd.vv | apply Kd.vk | apply Kd.vw));exact HO_9.out) (by decide)) hk (fun _ h => h.2)) (fun _ h => h.1));have n1_ := qq.mk (Kd.R_mono (Kd.R_keep (ww.apart (show ww w _ g105 t102 t157 t158 from by repeat (first | (with_reducible first | exact HI105.out | apply ww.alloc | apply ww.drewN | apply ww.drew | apply ww.set_1 | apply ww.set_2 | refine ww.far ?_ NB105_101.out _ | refine ww.far ?_ NB105_115.out _) | exact HI105.out)) (by (with_reducible repeat (first | apply Kd.jq | apply Kd.zx | apply Kd.jz));exact HO_116002.out) (by decide)) hk (fun _ h => h.2)) (fun _ h => h.1));have n2_ := qq.mk (zk.blk hk (g' := gb101) (o := .cells #[.int .i64 0,.int .i64 0,.slice none 0 0,.int .i64 0] 53 (0,0)) (by (with_reducible repeat (first | refine zz ?_ _ | refine zj ?_ | refine zq ?_ _));exact BK101.out) NB101_105.out (by simp));have n3_ := qq.mk (zk.blk hk (g' := gb115) (o := .cells #[.int .i64 x116000_37,.int .i64 x116001_37,u116002,.int .i64 t112] 53 (0,0)) (by (with_reducible repeat (first | refine zz ?_ _ | refine zj ?_ | refine zq ?_ _));exact BK115.out) NB115_105.out (by simp));have n4_ := qq.mk (hb);have n5_ := qq.mk (hi);clear HO_9;clear HO_116002;clear BK101;clear BK115;clear HB;clear HI105;have HO_9 := n0_;have HO_116002 := n1_;have BK101 := n2_;have BK115 := n3_;have HB := n4_;have HI105 := n5_;clear n0_ n1_ n2_ n3_ n4_ n5_;(try clear hb);(try clear hb2);(try clear hk);(try clear hi)) | ((with_reducible refine kj (f := 102) rfl ?_);refine goesL_ (some 70) rfl rfl Try.func102 (by kernel_rfl) rfl #[.pointer (some ⟨g105,0,none⟩),.int .i64 64] rfl (by (try simp only [List.map_toArray,List.map_cons,List.map_nil]);first | done | rfl | (simp only [List.length_drop,List.length_take];rfl)) ?_;(with_reducible refine (qkz.calls kj37 g105 t102 t160 t161 64 t162 t163 t164 w _ ?side1 ?side2 A65.out).mono ?_);(case side1 => repeat (first | (with_reducible first | exact HI105.out | apply ww.alloc | apply ww.drewN | apply ww.drew | apply ww.set_1 | apply ww.set_2 | refine ww.far ?_ NB105_101.out _ | refine ww.far ?_ NB105_115.out _) | exact HI105.out));(case side2 => repeat (first | (with_reducible first | exact HB.out | apply qj | apply qz | apply qk | refine qx ?_ (ww.ge HI105.out) | refine qx ?_ GE101.out | refine qx ?_ GE115.out) | exact HB.out));rintro e w69 ⟨rfl,hi,hb,hk⟩;refine ⟨_,rfl,?_⟩;have n0_ := qq.mk (Kd.S_mono (Kd.S_keep (ww.apartS (show ww w _ g105 t102 t160 t161 from by repeat (first | (with_reducible first | exact HI105.out | apply ww.alloc | apply ww.drewN | apply ww.drew | apply ww.set_1 | apply ww.set_2 | refine ww.far ?_ NB105_101.out _ | refine ww.far ?_ NB105_115.out _) | exact HI105.out)) (by (with_reducible repeat (first | apply Kd.vv | apply Kd.vk | apply Kd.vw));exact HO_9.out) (by decide)) hk (fun _ h => h.2)) (fun _ h => h.1));have n1_ := qq.mk (Kd.R_mono (Kd.R_keep (ww.apart (show ww w _ g105 t102 t160 t161 from by repeat (first | (with_reducible first | exact HI105.out | apply ww.alloc | apply ww.drewN | apply ww.drew | apply ww.set_1 | apply ww.set_2 | refine ww.far ?_ NB105_101.out _ | refine ww.far ?_ NB105_115.out _) | exact HI105.out)) (by (with_reducible repeat (first | apply Kd.jq | apply Kd.zx | apply Kd.jz));exact HO_116002.out) (by decide)) hk (fun _ h => h.2)) (fun _ h => h.1));have n2_ := qq.mk (zk.blk hk (g' := gb101) (o := .cells #[.int .i64 0,.int .i64 0,.slice none 0 0,.int .i64 0] 53 (0,0)) (by (with_reducible repeat (first | refine zz ?_ _ | refine zj ?_ | refine zq ?_ _));exact BK101.out) NB101_105.out (by simp));have n3_ := qq.mk (zk.blk hk (g' := gb115) (o := .cells #[.int .i64 x116000_37,.int .i64 x116001_37,u116002,.int .i64 t112] 53 (0,0)) (by (with_reducible repeat (first | refine zz ?_ _ | refine zj ?_ | refine zq ?_ _));exact BK115.out) NB115_105.out (by simp));have n4_ := qq.mk (hb);have n5_ := qq.mk (hi);clear HO_9;clear HO_116002;clear BK101;clear BK115;clear HB;clear HI105;have HO_9 := n0_;have HO_116002 := n1_;have BK101 := n2_;have BK115 := n3_;have HB := n4_;have HI105 := n5_;clear n0_ n1_ n2_ n3_ n4_ n5_;(try clear hb);(try clear hb2);(try clear hk);(try clear hi)))
          have n0_ := qq.mk (Kd.vw HO_9.out)
          have n1_ := qq.mk (Kd.jz HO_116002.out)
          have n2_ := qq.mk (zj BK101.out)
          have n3_ := qq.mk (zj BK115.out)
          have n4_ := qq.mk (ww.drew HI105.out)
          have n5_ := qq.mk (qk HB.out)
          clear HO_9
          clear HO_116002
          clear BK101
          clear BK115
          clear HI105
          clear HB
          have HO_9 := n0_
          have HO_116002 := n1_
          have BK101 := n2_
          have BK115 := n3_
          have HI105 := n4_
          have HB := n5_
          clear n0_ n1_ n2_ n3_ n4_ n5_
          refine start_ (n := 10) (S := fun w' => w'.cell? ⟨gb115,0,none⟩ = some (.int .i64 x116000_37) ∧ w'.cell? ⟨gb115,1,none⟩ = some (.int .i64 x116001_37) ∧ w'.cell? ⟨gb115,2,none⟩ = some (u116002) ∧ w'.cell? ⟨gb115,3,none⟩ = some (.int .i64 t112)) (ds := []) #[false,false,false,false,false,false,false,false,false,false] (by kernel_rfl) rfl rfl ⟨(qw BK115.out 0).trans rfl,(qw BK115.out 1).trans rfl,(qw BK115.out 2).trans rfl,(qw BK115.out 3).trans rfl⟩ (fun hHeld => ?_);refine with_tabW qzk.tab22 qzk.bits22 (fun HT_ HW_ => ?_)
          generalize w69.drew = w70 at HO_9 HO_116002 BK101 BK115 HI105 HB hHeld ⊢
          refine pure_ (i := 1) (N := some 72) (v := ?_) (a' := ?_) #[false,true,false,false,false,false,false,false,false,false] rfl rfl (any_of HT_.out (by kernel_rfl)) (fun _ _ _ h => h) (Or.inl ⟨by rfl,?_⟩) ?_ ?_
          rotate_left
          ·intro w'
           go_simp
           with_reducible rfl
          rotate_left
          ·simp only [Act.put,List.setIfInBounds_toArray,List.set_cons_zero,List.set_cons_succ,i64_w,i32_w]
           rfl
          refine pure_ (i := 4) (N := some 75) (v := ?_) (a' := ?_) #[false,true,false,false,true,false,false,false,false,false] rfl rfl (any_of HT_.out (by kernel_rfl)) (fun _ _ _ h => h) (Or.inl ⟨by rfl,?_⟩) ?_ ?_
          rotate_left
          ·intro w'
           go_simp
           with_reducible rfl
          rotate_left
          ·simp only [Act.put,List.setIfInBounds_toArray,List.set_cons_zero,List.set_cons_succ,i64_w,i32_w]
           rfl
          refine pure_ (i := 5) (N := some 76) (v := ?_) (a' := ?_) #[false,true,false,false,true,true,false,false,false,false] rfl rfl (any_of HT_.out (by kernel_rfl)) (fun _ _ _ h => h) (Or.inl ⟨by rfl,?_⟩) ?_ ?_
          rotate_left
          ·intro w'
           go_simp
           with_reducible rfl
          rotate_left
          ·simp only [Act.put,List.setIfInBounds_toArray,List.set_cons_zero,List.set_cons_succ,i64_w,i32_w]
           rfl
          refine take_ (i := 0) (N := some 71) (v := ?_) (a' := ?_) #[true,true,false,false,true,true,false,false,false,false] rfl rfl (take_ofW HT_.out HW_.out (by kernel_rfl)) (fun _ _ _ h => h) (Or.inl ⟨by rfl,?_⟩) hHeld ?_ ?_
          rotate_left
          ·rintro w' ⟨s0,s1,s2,s3⟩
           go_simp
           with_reducible rfl
          rotate_left
          ·simp only [Act.put,List.setIfInBounds_toArray,List.set_cons_zero,List.set_cons_succ,i64_w,i32_w]
           rfl
          refine one_ (i := 2) (N := some 73) #[true,true,true,false,true,true,false,false,false,false] rfl rfl (one_of HT_.out (by kernel_rfl)) (by decide) (fun K hK => ?_)
          refine Kd.R_lit_step Kd.string _ 9 ?hg (N := 73) ?hd (xs := ([(⟨#[97,110,110]⟩ : ByteArray),(⟨#[97,110]⟩ : ByteArray),(⟨#[98,111,98]⟩ : ByteArray)] : List ByteArray)) (inner := [.string (⟨#[97,110,110]⟩ : ByteArray),.string (⟨#[97,110]⟩ : ByteArray),.string (⟨#[98,111,98]⟩ : ByteArray)]) (ok := fun _ => True) (okp := fun _ => True) ?hr ?hp (fun _ hk => hk) trivial (Below.refl _ _) (Nat.le_refl _) (by simp) ?_;(case hd => rfl);(case hg => rfl);(case hr => first | (go_simp;done) | (go_simp;rfl));(case hp => exact (Reps.one (show Kd.M Kd.string _ _ _ (⟨#[97,110,110]⟩ : ByteArray) [.string (⟨#[97,110,110]⟩ : ByteArray)] from rfl) (Reps.one (show Kd.M Kd.string _ _ _ (⟨#[97,110]⟩ : ByteArray) [.string (⟨#[97,110]⟩ : ByteArray)] from rfl) (Reps.one (show Kd.M Kd.string _ _ _ (⟨#[98,111,98]⟩ : ByteArray) [.string (⟨#[98,111,98]⟩ : ByteArray)] from rfl) (Reps.none _ _)))))
          intro v166 w71 ho72 hb hg_ hnew_
          clear hg_ hnew_
          (first | rw [← Ny165.out] at ho72 | (simp only [Int.reduceToNat] at ho72;rw [← Ny165.out] at ho72))
          have n0_ := qq.mk (Kd.S_below (by (with_reducible repeat (first | apply Kd.vv | apply Kd.vk | apply Kd.vw));exact HO_9.out) hb)
          have n1_ := qq.mk (Kd.R_elder' (by (with_reducible repeat (first | apply Kd.jq | apply Kd.zx | apply Kd.jz));exact HO_116002.out) (Kd.R_base ho72) hb)
          have n2_ := qq.mk (Kd.R_lower (Kd.R_new' ho72 (Kd.R_lt (by (with_reducible repeat (first | apply Kd.jq | apply Kd.zx | apply Kd.jz));exact HO_116002.out))) (zw (by repeat (first | (with_reducible first | exact HB.out | apply qj | apply qz | apply qk | refine qx ?_ (ww.ge HI105.out) | refine qx ?_ GE101.out | refine qx ?_ GE115.out) | exact HB.out))))
          have n3_ := qq.mk (wj (g := gb101) (o := .cells #[.int .i64 0,.int .i64 0,.slice none 0 0,.int .i64 0] 53 (0,0)) (by (with_reducible repeat (first | refine zz ?_ _ | refine zj ?_ | refine zq ?_ _));exact BK101.out) hb)
          have n4_ := qq.mk (wj (g := gb115) (o := .cells #[.int .i64 x116000_37,.int .i64 x116001_37,u116002,.int .i64 t112] 53 (0,0)) (by (with_reducible repeat (first | refine zz ?_ _ | refine zj ?_ | refine zq ?_ _));exact BK115.out) hb)
          have n5_ := qq.mk (ww.below (by repeat (first | (with_reducible first | exact HI105.out | apply ww.alloc | apply ww.drewN | apply ww.drew | apply ww.set_1 | apply ww.set_2 | refine ww.far ?_ NB105_101.out _ | refine ww.far ?_ NB105_115.out _) | exact HI105.out)) hb)
          have n6_ := qq.mk (zv (by repeat (first | (with_reducible first | exact HB.out | apply qj | apply qz | apply qk | refine qx ?_ (ww.ge HI105.out) | refine qx ?_ GE101.out | refine qx ?_ GE115.out) | exact HB.out)) hb)
          clear HO_9
          clear HO_116002
          clear BK101
          clear BK115
          clear HI105
          clear HB
          have HO_9 := n0_
          have HO_116002 := n1_
          have HO167 := n2_
          have BK101 := n3_
          have BK115 := n4_
          have HI105 := n5_
          have HB := n6_
          clear n0_ n1_ n2_ n3_ n4_ n5_ n6_
          clear hb ho72
          obtain ⟨Ao73,co73,eo73⟩ := Kd.R_slice HO167.out
          (first | subst eo73 | (injection eo73 with f1_ f2_ f3_;have f4_ := f1_.symm;have f5_ := f3_.symm;clear f1_ f2_ f3_;subst f4_;subst f5_))
          refine hK.out _ _ ⟨(qw BK115.out 0).trans rfl,(qw BK115.out 1).trans rfl,(qw BK115.out 2).trans rfl,(qw BK115.out 3).trans rfl⟩ (fun hHeld => ?_)
          clear hK K
          refine norm_ (a' := ?_) ?_ ?_
          rotate_left
          ·show Act.put _ (some 73) _ = _
           simp only [Act.put,List.setIfInBounds_toArray,List.set_cons_zero,List.set_cons_succ,i64_w,i32_w]
           rfl
          refine one_ (i := 3) (N := some 74) #[true,true,true,true,true,true,false,false,false,false] rfl rfl (one_of HT_.out (by kernel_rfl)) (by decide) (fun K hK => ?_)
          refine goes_ Try.func93 (by kernel_rfl) rfl #[.pointer (some ⟨g105,0,none⟩),.slice Ao73 y165.length co73] (by rfl) rfl rfl (by (try simp only [List.map_toArray,List.map_cons,List.map_nil]);first | done | rfl | (simp only [List.length_drop,List.length_take];rfl)) ?_
          with_reducible refine (qkk.calls g105 t102 t163 t164 _ _ y165 t168 t169 t170 w _ ?side1 ?side2 ?side3 ?side4 ?side5 A66.out).mono ?_
          (case side1 => repeat (first | (with_reducible first | exact HI105.out | apply ww.alloc | apply ww.drewN | apply ww.drew | apply ww.set_1 | apply ww.set_2 | refine ww.far ?_ NB105_101.out _ | refine ww.far ?_ NB105_115.out _) | exact HI105.out))
          (case side2 => repeat (first | (with_reducible first | exact HB.out | apply qj | apply qz | apply qk | refine qx ?_ (ww.ge HI105.out) | refine qx ?_ GE101.out | refine qx ?_ GE115.out) | exact HB.out))
          (case side3 => repeat (first | exact (Kd.R_reads' HO167.out).2.2 | (with_reducible refine Kd.C_alloc ?_ _) | (with_reducible refine Kd.C_drewN ?_ _) | (with_reducible refine Kd.C_drew ?_)))
          (case side4 => exact (Kd.R_reads' HO167.out).2.1)
          (case side5 => exact far_slice (ww.own_ne HI105.out HO167.out (by decide)))
          rintro e w74 ⟨rfl,hi,hb,hk⟩
          refine ⟨_,rfl,?_⟩
          have n0_ := qq.mk (Kd.S_mono (Kd.S_keep (ww.apartS (show ww w _ g105 t102 t163 t164 from by repeat (first | (with_reducible first | exact HI105.out | apply ww.alloc | apply ww.drewN | apply ww.drew | apply ww.set_1 | apply ww.set_2 | refine ww.far ?_ NB105_101.out _ | refine ww.far ?_ NB105_115.out _) | exact HI105.out)) (by (with_reducible repeat (first | apply Kd.vv | apply Kd.vk | apply Kd.vw));exact HO_9.out) (by decide)) hk (fun _ h => h.2)) (fun _ h => h.1))
          have n1_ := qq.mk (Kd.R_mono (Kd.R_keep (ww.apart (show ww w _ g105 t102 t163 t164 from by repeat (first | (with_reducible first | exact HI105.out | apply ww.alloc | apply ww.drewN | apply ww.drew | apply ww.set_1 | apply ww.set_2 | refine ww.far ?_ NB105_101.out _ | refine ww.far ?_ NB105_115.out _) | exact HI105.out)) (by (with_reducible repeat (first | apply Kd.jq | apply Kd.zx | apply Kd.jz));exact HO_116002.out) (by decide)) hk (fun _ h => h.2)) (fun _ h => h.1))
          have n2_ := qq.mk (zk.blk hk (g' := gb101) (o := .cells #[.int .i64 0,.int .i64 0,.slice none 0 0,.int .i64 0] 53 (0,0)) (by (with_reducible repeat (first | refine zz ?_ _ | refine zj ?_ | refine zq ?_ _));exact BK101.out) NB101_105.out (by simp))
          have n3_ := qq.mk (zk.blk hk (g' := gb115) (o := .cells #[.int .i64 x116000_37,.int .i64 x116001_37,u116002,.int .i64 t112] 53 (0,0)) (by (with_reducible repeat (first | refine zz ?_ _ | refine zj ?_ | refine zq ?_ _));exact BK115.out) NB115_105.out (by simp))
          have n4_ := qq.mk (Kd.R_mono (Kd.R_keep (ww.apart (show ww w _ g105 t102 t163 t164 from by repeat (first | (with_reducible first | exact HI105.out | apply ww.alloc | apply ww.drewN | apply ww.drew | apply ww.set_1 | apply ww.set_2 | refine ww.far ?_ NB105_101.out _ | refine ww.far ?_ NB105_115.out _) | exact HI105.out)) (by (with_reducible repeat (first | apply Kd.jq | apply Kd.zx | apply Kd.jz));exact HO167.out) (by decide)) hk (fun _ h => h.2)) (fun _ h => h.1))
          have n5_ := qq.mk (hb)
          have n6_ := qq.mk (hi)
          clear HO_9
          clear HO_116002
          clear BK101
          clear BK115
          clear HO167
          clear HB
          clear HI105
          have HO_9 := n0_
          have HO_116002 := n1_
          have BK101 := n2_
          have BK115 := n3_
          have HO167 := n4_
          have HB := n5_
          have HI105 := n6_
          clear n0_ n1_ n2_ n3_ n4_ n5_ n6_
          (try clear hb)
          (try clear hb2)
          (try clear hk)
          (try clear hi)
          obtain ⟨Ao77,co77,eo77⟩ := Kd.R_slice HO_116002.out
          (first | subst eo77 | (injection eo77 with f1_ f2_ f3_;have f4_ := f1_.symm;have f5_ := f3_.symm;clear f1_ f2_ f3_;subst f4_;subst f5_))
          refine hK.out _ _ ⟨(qw BK115.out 0).trans rfl,(qw BK115.out 1).trans rfl,(qw BK115.out 2).trans rfl,(qw BK115.out 3).trans rfl⟩ (fun hHeld => ?_)
          clear hK K
          refine norm_ (a' := ?_) ?_ ?_
          rotate_left
          ·show Act.put _ (some 74) _ = _
           simp only [Act.put,List.setIfInBounds_toArray,List.set_cons_zero,List.set_cons_succ,i64_w,i32_w]
           rfl
          refine one_ (i := 6) (N := none) #[true,true,true,true,true,true,true,false,false,false] rfl rfl (one_of HT_.out (by kernel_rfl)) (by decide) (fun K hK => ?_)
          have hs75 : w74.cell? ⟨gb101,0,none⟩ = some (.int .i64 0) := (qw BK101.out 0).trans rfl
          have hfs75 := qv BK101.out 0
          have hns75_1 := NB115_101.out
          have hms75_1 := NB101_115.out
          have hs76 : w74.cell? ⟨gb101,1,none⟩ = some (.int .i64 0) := (qw BK101.out 1).trans rfl
          have hfs76 := qv BK101.out 1
          have hns76_1 := NB115_101.out
          have hms76_1 := NB101_115.out
          have hs78 : w74.cell? ⟨gb101,2,none⟩ = some (.slice none 0 0) := (qw BK101.out 2).trans rfl
          have hfs78 := qv BK101.out 2
          have hns78_1 := NB115_101.out
          have hms78_1 := NB101_115.out
          have hs79 : w74.cell? ⟨gb101,3,none⟩ = some (.int .i64 0) := (qw BK101.out 3).trans rfl
          have hfs79 := qv BK101.out 3
          have hns79_1 := NB115_101.out
          have hms79_1 := NB101_115.out
          refine skip_ (w1 := ?_) (by rfl) rfl ?_ ?_
          rotate_left
          ·go_simp
           rfl
          refine hK.out _ _ ⟨((cell_far (p := ⟨gb101,_,none⟩) NB115_101.out _).trans (((cell_far (p := ⟨gb101,_,none⟩) NB115_101.out _).trans (((cell_far (p := ⟨gb101,_,none⟩) NB115_101.out _).trans (((cell_far (p := ⟨gb101,_,none⟩) NB115_101.out _).trans (hHeld.1)))))))),((cell_far (p := ⟨gb101,_,none⟩) NB115_101.out _).trans (((cell_far (p := ⟨gb101,_,none⟩) NB115_101.out _).trans (((cell_far (p := ⟨gb101,_,none⟩) NB115_101.out _).trans (((cell_far (p := ⟨gb101,_,none⟩) NB115_101.out _).trans (hHeld.2.1)))))))),((cell_far (p := ⟨gb101,_,none⟩) NB115_101.out _).trans (((cell_far (p := ⟨gb101,_,none⟩) NB115_101.out _).trans (((cell_far (p := ⟨gb101,_,none⟩) NB115_101.out _).trans (((cell_far (p := ⟨gb101,_,none⟩) NB115_101.out _).trans (hHeld.2.2.1)))))))),((cell_far (p := ⟨gb101,_,none⟩) NB115_101.out _).trans (((cell_far (p := ⟨gb101,_,none⟩) NB115_101.out _).trans (((cell_far (p := ⟨gb101,_,none⟩) NB115_101.out _).trans (((cell_far (p := ⟨gb101,_,none⟩) NB115_101.out _).trans (hHeld.2.2.2))))))))⟩ (fun hHeld => ?_)
          clear hK K
          refine pure_ (i := 7) (N := some 3) (v := ?_) (a' := ?_) #[true,true,true,true,true,true,true,true,false,false] rfl rfl (any_of HT_.out (by kernel_rfl)) (fun _ _ _ h => h) (Or.inl ⟨by rfl,?_⟩) ?_ ?_
          rotate_left
          ·intro w'
           go_simp
           with_reducible rfl
          rotate_left
          ·simp only [Act.put,List.setIfInBounds_toArray,List.set_cons_zero,List.set_cons_succ,i64_w,i32_w]
           rfl
          refine pure_ (i := 8) (N := some 4) (v := ?_) (a' := ?_) #[true,true,true,true,true,true,true,true,true,false] rfl rfl (any_of HT_.out (by kernel_rfl)) (fun _ _ _ h => h) (Or.inl ⟨by rfl,?_⟩) ?_ ?_
          rotate_left
          ·intro w'
           go_simp
           with_reducible rfl
          rotate_left
          ·simp only [Act.put,List.setIfInBounds_toArray,List.set_cons_zero,List.set_cons_succ,i64_w,i32_w]
           rfl
          refine pure_ (i := 9) (N := some 5) (v := ?_) (a' := ?_) #[true,true,true,true,true,true,true,true,true,true] rfl rfl (any_of HT_.out (by kernel_rfl)) (fun _ _ _ h => h) (Or.inl ⟨by rfl,?_⟩) ?_ ?_
          rotate_left
          ·intro w'
           go_simp
           with_reducible rfl
          rotate_left
          ·simp only [Act.put,List.setIfInBounds_toArray,List.set_cons_zero,List.set_cons_succ,i64_w,i32_w]
           rfl
          refine done_ (done_of HT_.out (by kernel_rfl)) ?_
          try go_wp2
          refine bodyPost_ret (results_list (rs := [.cell 2 53,.tmp 3,.tmp 4,.tmp 5]) rfl (by simp) (.cell gb101 53 #[.int .i64 x116000_37,.int .i64 x116001_37,.slice Ao77 x116002_37.length co77,.int .i64 t112] (0,0) _ rfl (by (with_reducible repeat (first | refine zz ?_ _ | refine zj ?_ | refine zq ?_ _));refine blk_put (cs := #[.int .i64 x116000_37,.int .i64 x116001_37,.slice Ao77 x116002_37.length co77,.int .i64 0]) ?_ 3 _ rfl;(with_reducible repeat (first | refine zz ?_ _ | refine zj ?_ | refine zq ?_ _));refine blk_put (cs := #[.int .i64 x116000_37,.int .i64 x116001_37,.slice none 0 0,.int .i64 0]) ?_ 2 _ rfl;(with_reducible repeat (first | refine zz ?_ _ | refine zj ?_ | refine zq ?_ _));refine blk_put (cs := #[.int .i64 x116000_37,.int .i64 0,.slice none 0 0,.int .i64 0]) ?_ 1 _ rfl;(with_reducible repeat (first | refine zz ?_ _ | refine zj ?_ | refine zq ?_ _));refine blk_put (cs := #[.int .i64 0,.int .i64 0,.slice none 0 0,.int .i64 0]) ?_ 0 _ rfl;(with_reducible repeat (first | refine zz ?_ _ | refine zj ?_ | refine zq ?_ _));exact BK101.out) Try.underlying53 rfl (by kernel_rfl) (.tmp (.tmp (.tmp .nil))))) rfl ?_
          exact ⟨_,_,by first | rfl | (simp [*,kz,jx] <;> rfl),by (with_reducible repeat (first | apply Kd.jq | apply Kd.zx | apply Kd.jz));exact Kd.R_mono (Kd.R_far (p := ⟨gb101,3,none⟩) (Kd.R_far (p := ⟨gb101,2,none⟩) (Kd.R_far (p := ⟨gb101,1,none⟩) (Kd.R_far (p := ⟨gb101,0,none⟩) (Kd.R_types HO_116002.out BK101.out (by decide)) (fun _ hk => hk.2) (.int .i64 x116000_37)) (fun _ hk => hk.2) (.int .i64 x116001_37)) (fun _ hk => hk.2) (.slice Ao77 x116002_37.length co77)) (fun _ hk => hk.2) (.int .i64 t112)) (fun _ hk => trivial),by (with_reducible repeat (first | apply Kd.vv | apply Kd.vk | apply Kd.vw));exact Kd.S_mono (Kd.S_far (p := ⟨gb101,3,none⟩) (Kd.S_far (p := ⟨gb101,2,none⟩) (Kd.S_far (p := ⟨gb101,1,none⟩) (Kd.S_far (p := ⟨gb101,0,none⟩) (Kd.S_types HO_9.out BK101.out (by decide)) (fun _ hk => hk.2) (.int .i64 x116000_37)) (fun _ hk => hk.2) (.int .i64 x116001_37)) (fun _ hk => hk.2) (.slice Ao77 x116002_37.length co77)) (fun _ hk => hk.2) (.int .i64 t112)) (fun _ hk => trivial),by repeat (first | (with_reducible first | exact HB.out | apply qj | apply qz | apply qk | refine qx ?_ (ww.ge HI105.out) | refine qx ?_ GE101.out | refine qx ?_ GE115.out) | exact HB.out)⟩
         ·replace c64 := Bool.eq_false_iff.mpr c64
          subst c64
          have H1 : ((qkk.f t102 t160 t161 (([(⟨#[97,110,110]⟩ : ByteArray),(⟨#[97,110]⟩ : ByteArray),(⟨#[98,111,98]⟩ : ByteArray)] : List ByteArray))).bind fun bt174 => (some (x116000_37,x116001_37,x116002_37,t112,bt174.1,t156,x9_2))) = some (r1,r2,r3,r4,r5,r6,r7) := by rw [if_neg (show ¬ (false = true) by decide)] at H;exact H
          clear H
          have H := H1
          clear H1
          obtain ⟨y171,hy171⟩ : ∃ y_ : List ByteArray,y_ = (([(⟨#[97,110,110]⟩ : ByteArray),(⟨#[97,110]⟩ : ByteArray),(⟨#[98,111,98]⟩ : ByteArray)] : List ByteArray)) := ⟨_,rfl⟩
          replace H : ((qkk.f t102 t160 t161 y171).bind fun bt174 => (some (x116000_37,x116001_37,x116002_37,t112,bt174.1,t156,x9_2))) = some (r1,r2,r3,r4,r5,r6,r7) := by first | (rw [hy171];with_reducible exact H) | (have H2_ := (Option.bind_some _ _).symm.trans H;rw [hy171];with_reducible exact H2_) | (have H2_ := (Option.bind_some _ _).symm.trans H;with_reducible exact H2_) | with_reducible exact H | (rw [hy171];exact H) | exact H
          have Ny171 := qq.mk hy171
          clear hy171
          replace H := Option.bind_eq_some_iff.mp H
          obtain ⟨⟨t174,t175,t176⟩,A800,H⟩ := H
          replace H : (some (x116000_37,x116001_37,x116002_37,t112,t174,t156,x9_2)) = some (r1,r2,r3,r4,r5,r6,r7) := H
          have A80 := qq.mk A800
          clear A800
          simp only [Option.some.injEq,Prod.mk.injEq] at H
          obtain ⟨rfl,rfl,rfl,rfl,rfl,rfl,rfl⟩ := H
          try go_wp2_with (first | ((with_reducible refine kj (f := 101) rfl ?_);refine goesL_ (some 66) rfl rfl Try.func101 (by kernel_rfl) rfl #[.pointer (some ⟨g105,0,none⟩)] rfl (by (try simp only [List.map_toArray,List.map_cons,List.map_nil]);first | done | rfl | (simp only [List.length_drop,List.length_take];rfl)) ?_;(with_reducible refine (qkw.calls g105 t102 x106001_37 x106002_37 t156 t157 t158 w _ ?side1 ?side2 A62.out).mono ?_);(case side1 => repeat (first | (with_reducible first | exact HI105.out | apply ww.alloc | apply ww.drewN | apply ww.drew | apply ww.set_1 | apply ww.set_2 | refine ww.far ?_ NB105_101.out _ | refine ww.far ?_ NB105_115.out _) | exact HI105.out));(case side2 => repeat (first | (with_reducible first | exact HB.out | apply qj | apply qz | apply qk | refine qx ?_ (ww.ge HI105.out) | refine qx ?_ GE101.out | refine qx ?_ GE115.out) | exact HB.out));rintro e w81 ⟨rfl,hi,hb,hk⟩;refine ⟨_,rfl,?_⟩;have n0_ := qq.mk (Kd.S_mono (Kd.S_keep (ww.apartS (show ww w _ g105 t102 x106001_37 x106002_37 from by repeat (first | (with_reducible first | exact HI105.out | apply ww.alloc | apply ww.drewN | apply ww.drew | apply ww.set_1 | apply ww.set_2 | refine ww.far ?_ NB105_101.out _ | refine ww.far ?_ NB105_115.out _) | exact HI105.out)) (by (with_reducible repeat (first | apply Kd.vv | apply Kd.vk | apply Kd.vw));exact HO_9.out) (by decide)) hk (fun _ h => h.2)) (fun _ h => h.1));have n1_ := qq.mk (Kd.R_mono (Kd.R_keep (ww.apart (show ww w _ g105 t102 x106001_37 x106002_37 from by repeat (first | (with_reducible first | exact HI105.out | apply ww.alloc | apply ww.drewN | apply ww.drew | apply ww.set_1 | apply ww.set_2 | refine ww.far ?_ NB105_101.out _ | refine ww.far ?_ NB105_115.out _) | exact HI105.out)) (by (with_reducible repeat (first | apply Kd.jq | apply Kd.zx | apply Kd.jz));exact HO_116002.out) (by decide)) hk (fun _ h => h.2)) (fun _ h => h.1));have n2_ := qq.mk (zk.blk hk (g' := gb101) (o := .cells #[.int .i64 0,.int .i64 0,.slice none 0 0,.int .i64 0] 53 (0,0)) (by (with_reducible repeat (first | refine zz ?_ _ | refine zj ?_ | refine zq ?_ _));exact BK101.out) NB101_105.out (by simp));have n3_ := qq.mk (zk.blk hk (g' := gb115) (o := .cells #[.int .i64 x116000_37,.int .i64 x116001_37,u116002,.int .i64 t112] 53 (0,0)) (by (with_reducible repeat (first | refine zz ?_ _ | refine zj ?_ | refine zq ?_ _));exact BK115.out) NB115_105.out (by simp));have n4_ := qq.mk (hb);have n5_ := qq.mk (hi);clear HO_9;clear HO_116002;clear BK101;clear BK115;clear HB;clear HI105;have HO_9 := n0_;have HO_116002 := n1_;have BK101 := n2_;have BK115 := n3_;have HB := n4_;have HI105 := n5_;clear n0_ n1_ n2_ n3_ n4_ n5_;(try clear hb);(try clear hb2);(try clear hk);(try clear hi)) | ((with_reducible refine kj (f := 90) rfl ?_);refine goesL_ (some 68) rfl rfl Try.func90 (by kernel_rfl) rfl #[.pointer (some ⟨g105,0,none⟩),.int .i64 16] rfl (by (try simp only [List.map_toArray,List.map_cons,List.map_nil]);first | done | rfl | (simp only [List.length_drop,List.length_take];rfl)) ?_;(with_reducible refine (qkv.calls g105 t102 t157 t158 16 false t160 t161 w _ ?side1 ?side2 A63.out).mono ?_);(case side1 => repeat (first | (with_reducible first | exact HI105.out | apply ww.alloc | apply ww.drewN | apply ww.drew | apply ww.set_1 | apply ww.set_2 | refine ww.far ?_ NB105_101.out _ | refine ww.far ?_ NB105_115.out _) | exact HI105.out));(case side2 => repeat (first | (with_reducible first | exact HB.out | apply qj | apply qz | apply qk | refine qx ?_ (ww.ge HI105.out) | refine qx ?_ GE101.out | refine qx ?_ GE115.out) | exact HB.out));rintro e w82 ⟨rfl,hi,hb,hk⟩;refine ⟨_,rfl,?_⟩;have n0_ := qq.mk (Kd.S_mono (Kd.S_keep (ww.apartS (show ww w _ g105 t102 t157 t158 from by repeat (first | (with_reducible first | exact HI105.out | apply ww.alloc | apply ww.drewN | apply ww.drew | apply ww.set_1 | apply ww.set_2 | refine ww.far ?_ NB105_101.out _ | refine ww.far ?_ NB105_115.out _) | exact HI105.out)) (by (with_reducible repeat (first | apply Kd.vv | apply Kd.vk | apply Kd.vw));exact HO_9.out) (by decide)) hk (fun _ h => h.2)) (fun _ h => h.1));have n1_ := qq.mk (Kd.R_mono (Kd.R_keep (ww.apart (show ww w _ g105 t102 t157 t158 from by repeat (first | (with_reducible first | exact HI105.out | apply ww.alloc | apply ww.drewN | apply ww.drew | apply ww.set_1 | apply ww.set_2 | refine ww.far ?_ NB105_101.out _ | refine ww.far ?_ NB105_115.out _) | exact HI105.out)) (by (with_reducible repeat (first | apply Kd.jq | apply Kd.zx | apply Kd.jz));exact HO_116002.out) (by decide)) hk (fun _ h => h.2)) (fun _ h => h.1));have n2_ := qq.mk (zk.blk hk (g' := gb101) (o := .cells #[.int .i64 0,.int .i64 0,.slice none 0 0,.int .i64 0] 53 (0,0)) (by (with_reducible repeat (first | refine zz ?_ _ | refine zj ?_ | refine zq ?_ _));exact BK101.out) NB101_105.out (by simp));have n3_ := qq.mk (zk.blk hk (g' := gb115) (o := .cells #[.int .i64 x116000_37,.int .i64 x116001_37,u116002,.int .i64 t112] 53 (0,0)) (by (with_reducible repeat (first | refine zz ?_ _ | refine zj ?_ | refine zq ?_ _));exact BK115.out) NB115_105.out (by simp));have n4_ := qq.mk (hb);have n5_ := qq.mk (hi);clear HO_9;clear HO_116002;clear BK101;clear BK115;clear HB;clear HI105;have HO_9 := n0_;have HO_116002 := n1_;have BK101 := n2_;have BK115 := n3_;have HB := n4_;have HI105 := n5_;clear n0_ n1_ n2_ n3_ n4_ n5_;(try clear hb);(try clear hb2);(try clear hk);(try clear hi)))
          have n0_ := qq.mk (Kd.vw HO_9.out)
          have n1_ := qq.mk (Kd.jz HO_116002.out)
          have n2_ := qq.mk (zj BK101.out)
          have n3_ := qq.mk (zj BK115.out)
          have n4_ := qq.mk (ww.drew HI105.out)
          have n5_ := qq.mk (qk HB.out)
          clear HO_9
          clear HO_116002
          clear BK101
          clear BK115
          clear HI105
          clear HB
          have HO_9 := n0_
          have HO_116002 := n1_
          have BK101 := n2_
          have BK115 := n3_
          have HI105 := n4_
          have HB := n5_
          clear n0_ n1_ n2_ n3_ n4_ n5_
          refine start_ (n := 10) (S := fun w' => w'.cell? ⟨gb115,0,none⟩ = some (.int .i64 x116000_37) ∧ w'.cell? ⟨gb115,1,none⟩ = some (.int .i64 x116001_37) ∧ w'.cell? ⟨gb115,2,none⟩ = some (u116002) ∧ w'.cell? ⟨gb115,3,none⟩ = some (.int .i64 t112)) (ds := []) #[false,false,false,false,false,false,false,false,false,false] (by kernel_rfl) rfl rfl ⟨(qw BK115.out 0).trans rfl,(qw BK115.out 1).trans rfl,(qw BK115.out 2).trans rfl,(qw BK115.out 3).trans rfl⟩ (fun hHeld => ?_);refine with_tabW qzk.tab22 qzk.bits22 (fun HT_ HW_ => ?_)
          generalize w82.drew = w83 at HO_9 HO_116002 BK101 BK115 HI105 HB hHeld ⊢
          refine pure_ (i := 1) (N := some 72) (v := ?_) (a' := ?_) #[false,true,false,false,false,false,false,false,false,false] rfl rfl (any_of HT_.out (by kernel_rfl)) (fun _ _ _ h => h) (Or.inl ⟨by rfl,?_⟩) ?_ ?_
          rotate_left
          ·intro w'
           go_simp
           with_reducible rfl
          rotate_left
          ·simp only [Act.put,List.setIfInBounds_toArray,List.set_cons_zero,List.set_cons_succ,i64_w,i32_w]
           rfl
          refine pure_ (i := 4) (N := some 75) (v := ?_) (a' := ?_) #[false,true,false,false,true,false,false,false,false,false] rfl rfl (any_of HT_.out (by kernel_rfl)) (fun _ _ _ h => h) (Or.inl ⟨by rfl,?_⟩) ?_ ?_
          rotate_left
          ·intro w'
           go_simp
           with_reducible rfl
          rotate_left
          ·simp only [Act.put,List.setIfInBounds_toArray,List.set_cons_zero,List.set_cons_succ,i64_w,i32_w]
           rfl
          refine pure_ (i := 5) (N := some 76) (v := ?_) (a' := ?_) #[false,true,false,false,true,true,false,false,false,false] rfl rfl (any_of HT_.out (by kernel_rfl)) (fun _ _ _ h => h) (Or.inl ⟨by rfl,?_⟩) ?_ ?_
          rotate_left
          ·intro w'
           go_simp
           with_reducible rfl
          rotate_left
          ·simp only [Act.put,List.setIfInBounds_toArray,List.set_cons_zero,List.set_cons_succ,i64_w,i32_w]
           rfl
          refine take_ (i := 0) (N := some 71) (v := ?_) (a' := ?_) #[true,true,false,false,true,true,false,false,false,false] rfl rfl (take_ofW HT_.out HW_.out (by kernel_rfl)) (fun _ _ _ h => h) (Or.inl ⟨by rfl,?_⟩) hHeld ?_ ?_
          rotate_left
          ·rintro w' ⟨s0,s1,s2,s3⟩
           go_simp
           with_reducible rfl
          rotate_left
          ·simp only [Act.put,List.setIfInBounds_toArray,List.set_cons_zero,List.set_cons_succ,i64_w,i32_w]
           rfl
          refine one_ (i := 2) (N := some 73) #[true,true,true,false,true,true,false,false,false,false] rfl rfl (one_of HT_.out (by kernel_rfl)) (by decide) (fun K hK => ?_)
          refine Kd.R_lit_step Kd.string _ 9 ?hg (N := 73) ?hd (xs := ([(⟨#[97,110,110]⟩ : ByteArray),(⟨#[97,110]⟩ : ByteArray),(⟨#[98,111,98]⟩ : ByteArray)] : List ByteArray)) (inner := [.string (⟨#[97,110,110]⟩ : ByteArray),.string (⟨#[97,110]⟩ : ByteArray),.string (⟨#[98,111,98]⟩ : ByteArray)]) (ok := fun _ => True) (okp := fun _ => True) ?hr ?hp (fun _ hk => hk) trivial (Below.refl _ _) (Nat.le_refl _) (by simp) ?_;(case hd => rfl);(case hg => rfl);(case hr => first | (go_simp;done) | (go_simp;rfl));(case hp => exact (Reps.one (show Kd.M Kd.string _ _ _ (⟨#[97,110,110]⟩ : ByteArray) [.string (⟨#[97,110,110]⟩ : ByteArray)] from rfl) (Reps.one (show Kd.M Kd.string _ _ _ (⟨#[97,110]⟩ : ByteArray) [.string (⟨#[97,110]⟩ : ByteArray)] from rfl) (Reps.one (show Kd.M Kd.string _ _ _ (⟨#[98,111,98]⟩ : ByteArray) [.string (⟨#[98,111,98]⟩ : ByteArray)] from rfl) (Reps.none _ _)))))
          intro v172 w84 ho85 hb hg_ hnew_
          clear hg_ hnew_
          (first | rw [← Ny171.out] at ho85 | (simp only [Int.reduceToNat] at ho85;rw [← Ny171.out] at ho85))
          have n0_ := qq.mk (Kd.S_below (by (with_reducible repeat (first | apply Kd.vv | apply Kd.vk | apply Kd.vw));exact HO_9.out) hb)
          have n1_ := qq.mk (Kd.R_elder' (by (with_reducible repeat (first | apply Kd.jq | apply Kd.zx | apply Kd.jz));exact HO_116002.out) (Kd.R_base ho85) hb)
          have n2_ := qq.mk (Kd.R_lower (Kd.R_new' ho85 (Kd.R_lt (by (with_reducible repeat (first | apply Kd.jq | apply Kd.zx | apply Kd.jz));exact HO_116002.out))) (zw (by repeat (first | (with_reducible first | exact HB.out | apply qj | apply qz | apply qk | refine qx ?_ (ww.ge HI105.out) | refine qx ?_ GE101.out | refine qx ?_ GE115.out) | exact HB.out))))
          have n3_ := qq.mk (wj (g := gb101) (o := .cells #[.int .i64 0,.int .i64 0,.slice none 0 0,.int .i64 0] 53 (0,0)) (by (with_reducible repeat (first | refine zz ?_ _ | refine zj ?_ | refine zq ?_ _));exact BK101.out) hb)
          have n4_ := qq.mk (wj (g := gb115) (o := .cells #[.int .i64 x116000_37,.int .i64 x116001_37,u116002,.int .i64 t112] 53 (0,0)) (by (with_reducible repeat (first | refine zz ?_ _ | refine zj ?_ | refine zq ?_ _));exact BK115.out) hb)
          have n5_ := qq.mk (ww.below (by repeat (first | (with_reducible first | exact HI105.out | apply ww.alloc | apply ww.drewN | apply ww.drew | apply ww.set_1 | apply ww.set_2 | refine ww.far ?_ NB105_101.out _ | refine ww.far ?_ NB105_115.out _) | exact HI105.out)) hb)
          have n6_ := qq.mk (zv (by repeat (first | (with_reducible first | exact HB.out | apply qj | apply qz | apply qk | refine qx ?_ (ww.ge HI105.out) | refine qx ?_ GE101.out | refine qx ?_ GE115.out) | exact HB.out)) hb)
          clear HO_9
          clear HO_116002
          clear BK101
          clear BK115
          clear HI105
          clear HB
          have HO_9 := n0_
          have HO_116002 := n1_
          have HO173 := n2_
          have BK101 := n3_
          have BK115 := n4_
          have HI105 := n5_
          have HB := n6_
          clear n0_ n1_ n2_ n3_ n4_ n5_ n6_
          clear hb ho85
          obtain ⟨Ao86,co86,eo86⟩ := Kd.R_slice HO173.out
          (first | subst eo86 | (injection eo86 with f1_ f2_ f3_;have f4_ := f1_.symm;have f5_ := f3_.symm;clear f1_ f2_ f3_;subst f4_;subst f5_))
          refine hK.out _ _ ⟨(qw BK115.out 0).trans rfl,(qw BK115.out 1).trans rfl,(qw BK115.out 2).trans rfl,(qw BK115.out 3).trans rfl⟩ (fun hHeld => ?_)
          clear hK K
          refine norm_ (a' := ?_) ?_ ?_
          rotate_left
          ·show Act.put _ (some 73) _ = _
           simp only [Act.put,List.setIfInBounds_toArray,List.set_cons_zero,List.set_cons_succ,i64_w,i32_w]
           rfl
          refine one_ (i := 3) (N := some 74) #[true,true,true,true,true,true,false,false,false,false] rfl rfl (one_of HT_.out (by kernel_rfl)) (by decide) (fun K hK => ?_)
          refine goes_ Try.func93 (by kernel_rfl) rfl #[.pointer (some ⟨g105,0,none⟩),.slice Ao86 y171.length co86] (by rfl) rfl rfl (by (try simp only [List.map_toArray,List.map_cons,List.map_nil]);first | done | rfl | (simp only [List.length_drop,List.length_take];rfl)) ?_
          with_reducible refine (qkk.calls g105 t102 t160 t161 _ _ y171 t174 t175 t176 w _ ?side1 ?side2 ?side3 ?side4 ?side5 A80.out).mono ?_
          (case side1 => repeat (first | (with_reducible first | exact HI105.out | apply ww.alloc | apply ww.drewN | apply ww.drew | apply ww.set_1 | apply ww.set_2 | refine ww.far ?_ NB105_101.out _ | refine ww.far ?_ NB105_115.out _) | exact HI105.out))
          (case side2 => repeat (first | (with_reducible first | exact HB.out | apply qj | apply qz | apply qk | refine qx ?_ (ww.ge HI105.out) | refine qx ?_ GE101.out | refine qx ?_ GE115.out) | exact HB.out))
          (case side3 => repeat (first | exact (Kd.R_reads' HO173.out).2.2 | (with_reducible refine Kd.C_alloc ?_ _) | (with_reducible refine Kd.C_drewN ?_ _) | (with_reducible refine Kd.C_drew ?_)))
          (case side4 => exact (Kd.R_reads' HO173.out).2.1)
          (case side5 => exact far_slice (ww.own_ne HI105.out HO173.out (by decide)))
          rintro e w87 ⟨rfl,hi,hb,hk⟩
          refine ⟨_,rfl,?_⟩
          have n0_ := qq.mk (Kd.S_mono (Kd.S_keep (ww.apartS (show ww w _ g105 t102 t160 t161 from by repeat (first | (with_reducible first | exact HI105.out | apply ww.alloc | apply ww.drewN | apply ww.drew | apply ww.set_1 | apply ww.set_2 | refine ww.far ?_ NB105_101.out _ | refine ww.far ?_ NB105_115.out _) | exact HI105.out)) (by (with_reducible repeat (first | apply Kd.vv | apply Kd.vk | apply Kd.vw));exact HO_9.out) (by decide)) hk (fun _ h => h.2)) (fun _ h => h.1))
          have n1_ := qq.mk (Kd.R_mono (Kd.R_keep (ww.apart (show ww w _ g105 t102 t160 t161 from by repeat (first | (with_reducible first | exact HI105.out | apply ww.alloc | apply ww.drewN | apply ww.drew | apply ww.set_1 | apply ww.set_2 | refine ww.far ?_ NB105_101.out _ | refine ww.far ?_ NB105_115.out _) | exact HI105.out)) (by (with_reducible repeat (first | apply Kd.jq | apply Kd.zx | apply Kd.jz));exact HO_116002.out) (by decide)) hk (fun _ h => h.2)) (fun _ h => h.1))
          have n2_ := qq.mk (zk.blk hk (g' := gb101) (o := .cells #[.int .i64 0,.int .i64 0,.slice none 0 0,.int .i64 0] 53 (0,0)) (by (with_reducible repeat (first | refine zz ?_ _ | refine zj ?_ | refine zq ?_ _));exact BK101.out) NB101_105.out (by simp))
          have n3_ := qq.mk (zk.blk hk (g' := gb115) (o := .cells #[.int .i64 x116000_37,.int .i64 x116001_37,u116002,.int .i64 t112] 53 (0,0)) (by (with_reducible repeat (first | refine zz ?_ _ | refine zj ?_ | refine zq ?_ _));exact BK115.out) NB115_105.out (by simp))
          have n4_ := qq.mk (Kd.R_mono (Kd.R_keep (ww.apart (show ww w _ g105 t102 t160 t161 from by repeat (first | (with_reducible first | exact HI105.out | apply ww.alloc | apply ww.drewN | apply ww.drew | apply ww.set_1 | apply ww.set_2 | refine ww.far ?_ NB105_101.out _ | refine ww.far ?_ NB105_115.out _) | exact HI105.out)) (by (with_reducible repeat (first | apply Kd.jq | apply Kd.zx | apply Kd.jz));exact HO173.out) (by decide)) hk (fun _ h => h.2)) (fun _ h => h.1))
          have n5_ := qq.mk (hb)
          have n6_ := qq.mk (hi)
          clear HO_9
          clear HO_116002
          clear BK101
          clear BK115
          clear HO173
          clear HB
          clear HI105
          have HO_9 := n0_
          have HO_116002 := n1_
          have BK101 := n2_
          have BK115 := n3_
          have HO173 := n4_
          have HB := n5_
          have HI105 := n6_
          clear n0_ n1_ n2_ n3_ n4_ n5_ n6_
          (try clear hb)
          (try clear hb2)
          (try clear hk)
          (try clear hi)
          obtain ⟨Ao90,co90,eo90⟩ := Kd.R_slice HO_116002.out
          (first | subst eo90 | (injection eo90 with f1_ f2_ f3_;have f4_ := f1_.symm;have f5_ := f3_.symm;clear f1_ f2_ f3_;subst f4_;subst f5_))
          refine hK.out _ _ ⟨(qw BK115.out 0).trans rfl,(qw BK115.out 1).trans rfl,(qw BK115.out 2).trans rfl,(qw BK115.out 3).trans rfl⟩ (fun hHeld => ?_)
          clear hK K
          refine norm_ (a' := ?_) ?_ ?_
          rotate_left
          ·show Act.put _ (some 74) _ = _
           simp only [Act.put,List.setIfInBounds_toArray,List.set_cons_zero,List.set_cons_succ,i64_w,i32_w]
           rfl
          refine one_ (i := 6) (N := none) #[true,true,true,true,true,true,true,false,false,false] rfl rfl (one_of HT_.out (by kernel_rfl)) (by decide) (fun K hK => ?_)
          have hs88 : w87.cell? ⟨gb101,0,none⟩ = some (.int .i64 0) := (qw BK101.out 0).trans rfl
          have hfs88 := qv BK101.out 0
          have hns88_1 := NB115_101.out
          have hms88_1 := NB101_115.out
          have hs89 : w87.cell? ⟨gb101,1,none⟩ = some (.int .i64 0) := (qw BK101.out 1).trans rfl
          have hfs89 := qv BK101.out 1
          have hns89_1 := NB115_101.out
          have hms89_1 := NB101_115.out
          have hs91 : w87.cell? ⟨gb101,2,none⟩ = some (.slice none 0 0) := (qw BK101.out 2).trans rfl
          have hfs91 := qv BK101.out 2
          have hns91_1 := NB115_101.out
          have hms91_1 := NB101_115.out
          have hs92 : w87.cell? ⟨gb101,3,none⟩ = some (.int .i64 0) := (qw BK101.out 3).trans rfl
          have hfs92 := qv BK101.out 3
          have hns92_1 := NB115_101.out
          have hms92_1 := NB101_115.out
          refine skip_ (w1 := ?_) (by rfl) rfl ?_ ?_
          rotate_left
          ·go_simp
           rfl
          refine hK.out _ _ ⟨((cell_far (p := ⟨gb101,_,none⟩) NB115_101.out _).trans (((cell_far (p := ⟨gb101,_,none⟩) NB115_101.out _).trans (((cell_far (p := ⟨gb101,_,none⟩) NB115_101.out _).trans (((cell_far (p := ⟨gb101,_,none⟩) NB115_101.out _).trans (hHeld.1)))))))),((cell_far (p := ⟨gb101,_,none⟩) NB115_101.out _).trans (((cell_far (p := ⟨gb101,_,none⟩) NB115_101.out _).trans (((cell_far (p := ⟨gb101,_,none⟩) NB115_101.out _).trans (((cell_far (p := ⟨gb101,_,none⟩) NB115_101.out _).trans (hHeld.2.1)))))))),((cell_far (p := ⟨gb101,_,none⟩) NB115_101.out _).trans (((cell_far (p := ⟨gb101,_,none⟩) NB115_101.out _).trans (((cell_far (p := ⟨gb101,_,none⟩) NB115_101.out _).trans (((cell_far (p := ⟨gb101,_,none⟩) NB115_101.out _).trans (hHeld.2.2.1)))))))),((cell_far (p := ⟨gb101,_,none⟩) NB115_101.out _).trans (((cell_far (p := ⟨gb101,_,none⟩) NB115_101.out _).trans (((cell_far (p := ⟨gb101,_,none⟩) NB115_101.out _).trans (((cell_far (p := ⟨gb101,_,none⟩) NB115_101.out _).trans (hHeld.2.2.2))))))))⟩ (fun hHeld => ?_)
          clear hK K
          refine pure_ (i := 7) (N := some 3) (v := ?_) (a' := ?_) #[true,true,true,true,true,true,true,true,false,false] rfl rfl (any_of HT_.out (by kernel_rfl)) (fun _ _ _ h => h) (Or.inl ⟨by rfl,?_⟩) ?_ ?_
          rotate_left
          ·intro w'
           go_simp
           with_reducible rfl
          rotate_left
          ·simp only [Act.put,List.setIfInBounds_toArray,List.set_cons_zero,List.set_cons_succ,i64_w,i32_w]
           rfl
          refine pure_ (i := 8) (N := some 4) (v := ?_) (a' := ?_) #[true,true,true,true,true,true,true,true,true,false] rfl rfl (any_of HT_.out (by kernel_rfl)) (fun _ _ _ h => h) (Or.inl ⟨by rfl,?_⟩) ?_ ?_
          rotate_left
          ·intro w'
           go_simp
           with_reducible rfl
          rotate_left
          ·simp only [Act.put,List.setIfInBounds_toArray,List.set_cons_zero,List.set_cons_succ,i64_w,i32_w]
           rfl
          refine pure_ (i := 9) (N := some 5) (v := ?_) (a' := ?_) #[true,true,true,true,true,true,true,true,true,true] rfl rfl (any_of HT_.out (by kernel_rfl)) (fun _ _ _ h => h) (Or.inl ⟨by rfl,?_⟩) ?_ ?_
          rotate_left
          ·intro w'
           go_simp
           with_reducible rfl
          rotate_left
          ·simp only [Act.put,List.setIfInBounds_toArray,List.set_cons_zero,List.set_cons_succ,i64_w,i32_w]
           rfl
          refine done_ (done_of HT_.out (by kernel_rfl)) ?_
          try go_wp2
          refine bodyPost_ret (results_list (rs := [.cell 2 53,.tmp 3,.tmp 4,.tmp 5]) rfl (by simp) (.cell gb101 53 #[.int .i64 x116000_37,.int .i64 x116001_37,.slice Ao90 x116002_37.length co90,.int .i64 t112] (0,0) _ rfl (by (with_reducible repeat (first | refine zz ?_ _ | refine zj ?_ | refine zq ?_ _));refine blk_put (cs := #[.int .i64 x116000_37,.int .i64 x116001_37,.slice Ao90 x116002_37.length co90,.int .i64 0]) ?_ 3 _ rfl;(with_reducible repeat (first | refine zz ?_ _ | refine zj ?_ | refine zq ?_ _));refine blk_put (cs := #[.int .i64 x116000_37,.int .i64 x116001_37,.slice none 0 0,.int .i64 0]) ?_ 2 _ rfl;(with_reducible repeat (first | refine zz ?_ _ | refine zj ?_ | refine zq ?_ _));refine blk_put (cs := #[.int .i64 x116000_37,.int .i64 0,.slice none 0 0,.int .i64 0]) ?_ 1 _ rfl;(with_reducible repeat (first | refine zz ?_ _ | refine zj ?_ | refine zq ?_ _));refine blk_put (cs := #[.int .i64 0,.int .i64 0,.slice none 0 0,.int .i64 0]) ?_ 0 _ rfl;(with_reducible repeat (first | refine zz ?_ _ | refine zj ?_ | refine zq ?_ _));exact BK101.out) Try.underlying53 rfl (by kernel_rfl) (.tmp (.tmp (.tmp .nil))))) rfl ?_
          exact ⟨_,_,by first | rfl | (simp [*,kz,jx] <;> rfl),by (with_reducible repeat (first | apply Kd.jq | apply Kd.zx | apply Kd.jz));exact Kd.R_mono (Kd.R_far (p := ⟨gb101,3,none⟩) (Kd.R_far (p := ⟨gb101,2,none⟩) (Kd.R_far (p := ⟨gb101,1,none⟩) (Kd.R_far (p := ⟨gb101,0,none⟩) (Kd.R_types HO_116002.out BK101.out (by decide)) (fun _ hk => hk.2) (.int .i64 x116000_37)) (fun _ hk => hk.2) (.int .i64 x116001_37)) (fun _ hk => hk.2) (.slice Ao90 x116002_37.length co90)) (fun _ hk => hk.2) (.int .i64 t112)) (fun _ hk => trivial),by (with_reducible repeat (first | apply Kd.vv | apply Kd.vk | apply Kd.vw));exact Kd.S_mono (Kd.S_far (p := ⟨gb101,3,none⟩) (Kd.S_far (p := ⟨gb101,2,none⟩) (Kd.S_far (p := ⟨gb101,1,none⟩) (Kd.S_far (p := ⟨gb101,0,none⟩) (Kd.S_types HO_9.out BK101.out (by decide)) (fun _ hk => hk.2) (.int .i64 x116000_37)) (fun _ hk => hk.2) (.int .i64 x116001_37)) (fun _ hk => hk.2) (.slice Ao90 x116002_37.length co90)) (fun _ hk => hk.2) (.int .i64 t112)) (fun _ hk => trivial),by repeat (first | (with_reducible first | exact HB.out | apply qj | apply qz | apply qk | refine qx ?_ (ww.ge HI105.out) | refine qx ?_ GE101.out | refine qx ?_ GE115.out) | exact HB.out)⟩
end Go.Proofs.Ytgolcojhnklfdaa.Pr
