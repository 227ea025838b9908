/- Printed texts, walks and plain facts that the law FnExactRotateRing leans on, joined. -/
import Derived.Test.YtakocdkcfjkmdaaFullFnExactRotateRingC
import Derived.Deep.QuietTactic
import Derived.BigQuiet
import Derived.Laws.Cover1
import Derived.Laws.Strings
import Derived.Sort.LotA
namespace Go.Proofs.Ytakocdkcfjkmdaa.Pr
open Go.RowKit Go.Proofs.YtakocdkcfjkmdaaW.PrintWords Go.Proofs.YtakocdkcfjkmdaaW.PrintLast Go.Proofs.YtakocdkcfjkmdaaW.PrintMore
attribute [local go_sem] max2_int min2_int max_two min_two max_three min_three max_four min_four
set_option linter.unusedVariables false
set_option linter.unusedSimpArgs false
def xz.l0 : Nat → List (S50) → Int → Int → Option (Int)
 | 0,_,_,_ => none
 | k + 1,x0,x1,x5 => if x5 < (x0.length : Int) then (if 0 ≤ x5 then ((xq.f ((kv x0 x5).f0) ((kv x0 x5).f1) ((kv x0 x5).f2) ((kv x0 x5).f3) x1).bind fun t102 => (if t102 < 0 then (some (-1)) else (xz.l0 k x0 t102 (wrap64 (x5 + 1))))) else (none)) else (some x1)
def xz.f (k : Nat) (l0 : List (S50)) (a1 : Int) : Option (Int) := if (wrap64 (a1 - (l0.length : Int))) < 0 then (some (-1)) else (xz.l0 k l0 (wrap64 (a1 - (l0.length : Int))) 0)
set_option maxHeartbeats 8000000 in
set_option maxRecDepth 100000 in
theorem xz.calls (k : Nat) (A0 : Option Addr) (c0 : Nat) (l0 : List (S50)) (a1 : Int) (r : Int) (w : World) (hr0 : Kd.C k50 w A0 l0.length l0) (hc0 : l0.length ≤ c0) (h : xz.f k l0 a1 = some r) :
  Calls Try.prog 13 #[.slice A0 l0.length c0,.int .i64 a1] w fun e w' => e = .returned (.int .i64 r) ∧ Below w.heap.size w w' := by
 have hu50 := Try.underlying50
 have HR0 := qq.mk hr0
 have HC0 := qq.mk hc0
 clear hr0 hc0
 have HB := qq.mk (Below.refl w.heap.size w)
 have H : (if (wrap64 (a1 - (l0.length : Int))) < 0 then (some (-1)) else (xz.l0 k l0 (wrap64 (a1 - (l0.length : Int))) 0)) = some r := h
 clear h
 by_cases c3 : (wrap64 (a1 - (l0.length : Int))) < 0
 ·rw [if_pos c3] at H
  have c3b0 : decide ((wrap64 (a1 - (l0.length : Int))) < 0) = true := decide_eq_true c3
  clear c3
  obtain rfl := Option.some.inj H
  go_enter Try.func13,Try.ntmps13
  go_wp2
  go_ret
  exact ⟨by first | rfl | (simp [*,jk,jj] <;> rfl),by repeat (first | (with_reducible first | exact HB.out | apply qj | apply qz | apply qk) | exact HB.out)⟩
 ·rw [if_neg c3] at H
  have c3b0 : decide ((wrap64 (a1 - (l0.length : Int))) < 0) = false := decide_eq_false c3
  clear c3
  have H' := qq.mk H
  clear H
  go_enter Try.func13,Try.ntmps13
  go_wp2
  go_loopg [1,5] k (fun kq v1 v5 w' => ∃ (x1_1 : Int) (x5_1 : Int),v1 = .int .i64 x1_1 ∧ v5 = .int .i64 x5_1 ∧ qq (xz.l0 kq l0 x1_1 x5_1 = some r) ∧ qq (kq ≤ k) ∧ qq (Below w.heap.size w w'))
  case atStart => exact ⟨(wrap64 (a1 - (l0.length : Int))),(0),(by first | rfl | (simp;done) | (simp [*];done)),(by first | rfl | (simp;done) | (simp [*];done)),H',⟨Nat.le_refl _⟩,⟨by repeat (first | (with_reducible first | exact HB.out | apply qj | apply qz | apply qk) | exact HB.out)⟩⟩
  case round =>
   clear H'
   try clear c1
   try clear p2
   try clear c3
   try clear c3b0
   obtain ⟨x1_1,x5_1,rfl,rfl,HA,HK1,HB⟩ := hrel
   cases gk with
   | zero => exact absurd HA.out (by simp [xz.l0])
   | succ k1 =>
    have H := HA.out
    clear HA
    simp only [xz.l0] at H
    by_cases c4 : x5_1 < (l0.length : Int)
    ·rw [if_pos c4] at H
     have c4b0 : decide (x5_1 < (l0.length : Int)) = true := decide_eq_true c4
     clear c4
     by_cases c5 : 0 ≤ x5_1
     ·rw [if_pos c5] at H
      have c5b0 : decide (0 ≤ x5_1) = true := decide_eq_true c5
      clear c5
      replace H := Option.bind_eq_some_iff.mp H
      obtain ⟨t102,A60,H⟩ := H
      replace H : (if t102 < 0 then (some (-1)) else (xz.l0 k1 l0 t102 (wrap64 (x5_1 + 1)))) = some r := H
      have A6 := qq.mk A60
      clear A60
      by_cases c7 : t102 < 0
      ·rw [if_pos c7] at H
       have c7b0 : decide (t102 < 0) = true := decide_eq_true c7
       clear c7
       obtain rfl := Option.some.inj H
       have p101 : 0 ≤ (x5_1 : Int) := of_decide_eq_true (by assumption)
       have q101 : x5_1 < (l0.length : Int) := of_decide_eq_true (by assumption)
       obtain ⟨ad101,e101,hx101_0,hx101_1,hx101_2,hx101_3⟩ := at_T50 HR0.out x5_1 p101 q101
       cases e101
       replace hx101_0 := (HB.out.cell (World.block_lt_of_cell? w _ hx101_0)).trans hx101_0
       replace hx101_1 := (HB.out.cell (World.block_lt_of_cell? w _ hx101_1)).trans hx101_1
       replace hx101_2 := (HB.out.cell (World.block_lt_of_cell? w _ hx101_2)).trans hx101_2
       replace hx101_3 := (HB.out.cell (World.block_lt_of_cell? w _ hx101_3)).trans hx101_3
       replace p101 := eq_true p101
       replace q101 := eq_true q101
       go_wp2_with (first | ((with_reducible refine jv (f := 23) rfl ?_);refine goesL_ (some 23) rfl rfl Try.func23 (by kernel_rfl) rfl #[.agg #[.string ((kv l0 x5_1).f0),.int .i64 ((kv l0 x5_1).f1),.int .i64 ((kv l0 x5_1).f2),.int .i64 ((kv l0 x5_1).f3)],.int .i64 x1_1] rfl (by (try simp only [List.map_toArray,List.map_cons,List.map_nil]);first | done | rfl | (simp only [List.length_drop,List.length_take];rfl)) ?_;(with_reducible refine (xq.calls ((kv l0 x5_1).f0) ((kv l0 x5_1).f1) ((kv l0 x5_1).f2) ((kv l0 x5_1).f3) x1_1 t102 _ A6.out).mono ?_);rintro e w8 ⟨rfl,hb⟩;refine ⟨_,rfl,?_⟩;have n0_ := qq.mk (zv (by repeat (first | (with_reducible first | exact HB.out | apply qj | apply qz | apply qk) | exact HB.out)) hb);clear HB;have HB := n0_;clear n0_;(try clear hb);(try clear hb2);(try clear hk);(try clear hi)))
       go_ret
       exact ⟨by first | rfl | (simp [*,jk,jj] <;> rfl),by repeat (first | (with_reducible first | exact HB.out | apply qj | apply qz | apply qk) | exact HB.out)⟩
      ·rw [if_neg c7] at H
       have c7b0 : decide (t102 < 0) = false := decide_eq_false c7
       clear c7
       have H' := qq.mk H
       clear H
       have p101 : 0 ≤ (x5_1 : Int) := of_decide_eq_true (by assumption)
       have q101 : x5_1 < (l0.length : Int) := of_decide_eq_true (by assumption)
       obtain ⟨ad101,e101,hx101_0,hx101_1,hx101_2,hx101_3⟩ := at_T50 HR0.out x5_1 p101 q101
       cases e101
       replace hx101_0 := (HB.out.cell (World.block_lt_of_cell? w _ hx101_0)).trans hx101_0
       replace hx101_1 := (HB.out.cell (World.block_lt_of_cell? w _ hx101_1)).trans hx101_1
       replace hx101_2 := (HB.out.cell (World.block_lt_of_cell? w _ hx101_2)).trans hx101_2
       replace hx101_3 := (HB.out.cell (World.block_lt_of_cell? w _ hx101_3)).trans hx101_3
       replace p101 := eq_true p101
       replace q101 := eq_true q101
       go_wp2_with (first | ((with_reducible refine jv (f := 23) rfl ?_);refine goesL_ (some 23) rfl rfl Try.func23 (by kernel_rfl) rfl #[.agg #[.string ((kv l0 x5_1).f0),.int .i64 ((kv l0 x5_1).f1),.int .i64 ((kv l0 x5_1).f2),.int .i64 ((kv l0 x5_1).f3)],.int .i64 x1_1] rfl (by (try simp only [List.map_toArray,List.map_cons,List.map_nil]);first | done | rfl | (simp only [List.length_drop,List.length_take];rfl)) ?_;(with_reducible refine (xq.calls ((kv l0 x5_1).f0) ((kv l0 x5_1).f1) ((kv l0 x5_1).f2) ((kv l0 x5_1).f3) x1_1 t102 _ A6.out).mono ?_);rintro e w9 ⟨rfl,hb⟩;refine ⟨_,rfl,?_⟩;have n0_ := qq.mk (zv (by repeat (first | (with_reducible first | exact HB.out | apply qj | apply qz | apply qk) | exact HB.out)) hb);clear HB;have HB := n0_;clear n0_;(try clear hb);(try clear hb2);(try clear hk);(try clear hi)))
       go_roundg k1
       case measure => have := HK1.out;omega
       case rel => exact ⟨(t102),(wrap64 (x5_1 + 1)),(by first | rfl | (simp;done) | (simp [*];done)),(by first | rfl | (simp;done) | (simp [*];done)),H',⟨by have := HK1.out;omega⟩,⟨by repeat (first | (with_reducible first | exact HB.out | apply qj | apply qz | apply qk) | exact HB.out)⟩⟩
     ·rw [if_neg c5] at H
      exact absurd H (by simp)
    ·rw [if_neg c4] at H
     have c4b0 : decide (x5_1 < (l0.length : Int)) = false := decide_eq_false c4
     clear c4
     obtain rfl := Option.some.inj H
     go_wp2
     go_ret
     exact ⟨by first | rfl | (simp [*,jk,jj] <;> rfl),by repeat (first | (with_reducible first | exact HB.out | apply qj | apply qz | apply qk) | exact HB.out)⟩
def xk.l0 : Nat → List (S50) → List (S53) → Int → Option ((List (S53)))
 | 0,_,_,_ => none
 | k + 1,x0,x3,x4 => if x4 < (x0.length : Int) then (if 0 ≤ x4 then ((xj.f ((kv x0 x4).f0) ((kv x0 x4).f1) ((kv x0 x4).f2) ((kv x0 x4).f3)).bind fun bt105 => (if x4 < (x3.length : Int) then (xk.l0 k x0 (x3.set (x4 : Int).toNat (⟨bt105.1,bt105.2.1,bt105.2.2.1,bt105.2.2.2⟩ : S53)) (wrap64 (x4 + 1))) else (none))) else (none)) else (some x3)
def xk.f (k : Nat) (l0 : List (S50)) : Option ((List (S53))) := if 0 ≤ (l0.length : Int) then (if ((l0.length : Int) : Int).toNat ≤ 7036874417766 then (xk.l0 k l0 (List.replicate ((l0.length : Int) : Int).toNat z53) 0) else (none)) else (none)
set_option maxHeartbeats 8000000 in
set_option maxRecDepth 100000 in
theorem xk.calls (k : Nat) (A0 : Option Addr) (c0 : Nat) (l0 : List (S50)) (r : List (S53)) (w : World) (hr0 : Kd.C k50 w A0 l0.length l0) (hc0 : l0.length ≤ c0) (h : xk.f k l0 = some r) :
  Calls Try.prog 15 #[.slice A0 l0.length c0] w fun e w' => ∃ v0_ : Value,e = .returned (v0_) ∧ Kd.R k53 53 w' w.heap.size (fun _ => True) v0_ r ∧ Below w.heap.size w w' := by
 have hu50 := Try.underlying50
 have hu53 := Try.underlying53
 have HR0 := qq.mk hr0
 have HC0 := qq.mk hc0
 clear hr0 hc0
 have HB := qq.mk (Below.refl w.heap.size w)
 have H : (if 0 ≤ (l0.length : Int) then (if ((l0.length : Int) : Int).toNat ≤ 7036874417766 then (xk.l0 k l0 (List.replicate ((l0.length : Int) : Int).toNat z53) 0) else (none)) else (none)) = some r := h
 clear h
 by_cases c2 : 0 ≤ (l0.length : Int)
 ·rw [if_pos c2] at H
  have c2b0 := eq_true c2
  have c2b1 : decide (0 ≤ (l0.length : Int)) = true := decide_eq_true c2
  clear c2
  by_cases c3 : ((l0.length : Int) : Int).toNat ≤ 7036874417766
  ·rw [if_pos c3] at H
   have c3b0 := eq_true c3
   have c3b1 : decide (((l0.length : Int) : Int).toNat ≤ 7036874417766) = true := decide_eq_true c3
   clear c3
   obtain ⟨y101,hy101⟩ : ∃ y_ : List (S53),y_ = (List.replicate ((l0.length : Int) : Int).toNat z53) := ⟨_,rfl⟩
   replace H : (xk.l0 k l0 y101 0) = some r := by first | (rw [hy101];with_reducible exact H) | (have H2_ := (Option.bind_some _ _).symm.trans H;rw [hy101];with_reducible exact H2_) | (have H2_ := (Option.bind_some _ _).symm.trans H;with_reducible exact H2_) | with_reducible exact H | (rw [hy101];exact H) | exact H
   have Ny101 := qq.mk hy101
   clear hy101
   have H' := qq.mk H
   clear H
   go_enter Try.func15,Try.ntmps15
   go_wp2_with (first | ((with_reducible refine gate_dst (N := 7) rfl ?_);refine Kd.R_make k53 _ 53 rfl (N := 7) rfl 34 _ _ rfl (l0.length : Int) rfl rfl Try.underlying34 (.agg #[(.string ⟨#[]⟩),(.int .i64 0),(.int .i64 0),(.int .i64 0)]) 40 info53 rfl (by decide) (by omega) z53 (ok := fun _ => True) (okp := fun _ => True) (k53_mkM _ _ _ z53 ) (fun _ hk => hk) trivial (of_decide_eq_true (by assumption)) (Nat.le_trans (Nat.mul_le_mul_right _ (of_decide_eq_true (by assumption) : (l0.length : Int).toNat ≤ 7036874417766)) (by omega)) (Below.refl _ _) (Nat.le_refl _) ?_;intro v102 w4 ho5 hb hg_ hnew_;clear hg_ hnew_;(first | rw [← Ny101.out] at ho5 | (simp only [Int.reduceToNat] at ho5;rw [← Ny101.out] at ho5));have n0_ := qq.mk (Kd.R_lower ho5 (zw (by repeat (first | (with_reducible first | exact HB.out | apply qj | apply qz | apply qk) | exact HB.out))));have n1_ := qq.mk (zv (by repeat (first | (with_reducible first | exact HB.out | apply qj | apply qz | apply qk) | exact HB.out)) hb);clear HB;have HO103 := n0_;have HB := n1_;clear n0_ n1_;clear hb ho5))
   go_loopg [4] k (fun kq v4 w' => ∃ (x3_1 : List (S53)) (x4_1 : Int),v4 = .int .i64 x4_1 ∧ qq (xk.l0 kq l0 x3_1 x4_1 = some r) ∧ qq (kq ≤ k) ∧ qq (Kd.R k53 53 w' w.heap.size (fun _ => True) v102 x3_1) ∧ qq (Below w.heap.size w w'))
   case atStart => exact ⟨(y101),(0),(by first | rfl | (simp;done) | (simp [*];done)),H',⟨Nat.le_refl _⟩,⟨by (with_reducible repeat (first | apply Kd.jq | apply Kd.zx | apply Kd.jz));exact HO103.out⟩,⟨by repeat (first | (with_reducible first | exact HB.out | apply qj | apply qz | apply qk) | exact HB.out)⟩⟩
   case round =>
    clear H'
    try clear c1
    try clear c2
    try clear c2b0
    try clear c2b1
    try clear p2
    try clear c3
    try clear c3b0
    try clear c3b1
    obtain ⟨x3_1,x4_1,rfl,HA,HK1,HO_3,HB⟩ := hrel
    cases gk with
    | zero => exact absurd HA.out (by simp [xk.l0])
    | succ k1 =>
     have H := HA.out
     clear HA
     simp only [xk.l0] at H
     by_cases c6 : x4_1 < (l0.length : Int)
     ·rw [if_pos c6] at H
      have c6b0 : decide (x4_1 < (l0.length : Int)) = true := decide_eq_true c6
      clear c6
      by_cases c7 : 0 ≤ x4_1
      ·rw [if_pos c7] at H
       have c7b0 : decide (0 ≤ x4_1) = true := decide_eq_true c7
       clear c7
       replace H := Option.bind_eq_some_iff.mp H
       obtain ⟨⟨t105,t106,t107,t108⟩,A80,H⟩ := H
       replace H : (if x4_1 < (x3_1.length : Int) then (xk.l0 k1 l0 (x3_1.set (x4_1 : Int).toNat (⟨t105,t106,t107,t108⟩ : S53)) (wrap64 (x4_1 + 1))) else (none)) = some r := H
       have A8 := qq.mk A80
       clear A80
       by_cases c9 : x4_1 < (x3_1.length : Int)
       ·rw [if_pos c9] at H
        have c9b0 : decide (x4_1 < (x3_1.length : Int)) = true := decide_eq_true c9
        clear c9
        obtain ⟨y109,hy109⟩ : ∃ y_ : List (S53),y_ = (x3_1.set (x4_1 : Int).toNat (⟨t105,t106,t107,t108⟩ : S53)) := ⟨_,rfl⟩
        replace H : (xk.l0 k1 l0 y109 (wrap64 (x4_1 + 1))) = some r := by first | (rw [hy109];with_reducible exact H) | (have H2_ := (Option.bind_some _ _).symm.trans H;rw [hy109];with_reducible exact H2_) | (have H2_ := (Option.bind_some _ _).symm.trans H;with_reducible exact H2_) | with_reducible exact H | (rw [hy109];exact H) | exact H
        have Ny109 := qq.mk hy109
        clear hy109
        have H' := qq.mk H
        clear H
        have p104 : 0 ≤ (x4_1 : Int) := of_decide_eq_true (by assumption)
        have q104 : x4_1 < (l0.length : Int) := of_decide_eq_true (by assumption)
        obtain ⟨ad104,e104,hx104_0,hx104_1,hx104_2,hx104_3⟩ := at_T50 HR0.out x4_1 p104 q104
        cases e104
        replace hx104_0 := (HB.out.cell (World.block_lt_of_cell? w _ hx104_0)).trans hx104_0
        replace hx104_1 := (HB.out.cell (World.block_lt_of_cell? w _ hx104_1)).trans hx104_1
        replace hx104_2 := (HB.out.cell (World.block_lt_of_cell? w _ hx104_2)).trans hx104_2
        replace hx104_3 := (HB.out.cell (World.block_lt_of_cell? w _ hx104_3)).trans hx104_3
        replace p104 := eq_true p104
        replace q104 := eq_true q104
        go_wp2_with (first | ((with_reducible refine jv (f := 25) rfl ?_);refine goesL_ (some 20) rfl rfl Try.func25 (by kernel_rfl) rfl #[.agg #[.string ((kv l0 x4_1).f0),.int .i64 ((kv l0 x4_1).f1),.int .i64 ((kv l0 x4_1).f2),.int .i64 ((kv l0 x4_1).f3)]] rfl (by (try simp only [List.map_toArray,List.map_cons,List.map_nil]);first | done | rfl | (simp only [List.length_drop,List.length_take];rfl)) ?_;(with_reducible refine (xj.calls ((kv l0 x4_1).f0) ((kv l0 x4_1).f1) ((kv l0 x4_1).f2) ((kv l0 x4_1).f3) t105 t106 t107 t108 _ A8.out).mono ?_);rintro e w11 ⟨rfl,hb⟩;refine ⟨_,rfl,?_⟩;have n0_ := qq.mk (Kd.R_below (by (with_reducible repeat (first | apply Kd.jq | apply Kd.zx | apply Kd.jz));exact HO_3.out) hb);have n1_ := qq.mk (zv (by repeat (first | (with_reducible first | exact HB.out | apply qj | apply qz | apply qk) | exact HB.out)) hb);clear HO_3;clear HB;have HO_3 := n0_;have HB := n1_;clear n0_ n1_;(try clear hb);(try clear hb2);(try clear hk);(try clear hi);have p10 : 0 ≤ (x4_1 : Int) := of_decide_eq_true (by assumption);have q10 : (x4_1 : Int) < ((x3_1.length : Int) : Int) := of_decide_eq_true (by assumption);obtain ⟨go10,co10,eo10,gb10,gl10,cl10,HG10⟩ := Kd.R_form HO_3.out (by omega);(first | cases eo10 | (injection eo10 with ea_ en_ ec_;(first | subst ea_ | (injection ea_ with ea_;subst ea_));subst ec_;clear en_));have GB10 := qq.mk gb10;have GG10 := qq.mk HG10;clear gb10 gl10 HG10;obtain ⟨ce10,hcl10,hM10,hcc10,hfr10⟩ := Kd.R_elem HO_3.out z53 (x4_1 : Int) p10 q10;obtain rfl := k53_openM hM10;have hx10_0 : w11.cell? ⟨go10,(x4_1 : Int).toNat * 4,none⟩ = some (.string ((kw x3_1 x4_1).f0)) := hcc10 0 _ rfl;have hx10_1 : w11.cell? ⟨go10,(x4_1 : Int).toNat * 4 + 1,none⟩ = some (.int .i64 ((kw x3_1 x4_1).f1)) := hcc10 1 _ rfl;have hx10_2 : w11.cell? ⟨go10,(x4_1 : Int).toNat * 4 + 2,none⟩ = some (.int .i64 ((kw x3_1 x4_1).f2)) := hcc10 2 _ rfl;have hx10_3 : w11.cell? ⟨go10,(x4_1 : Int).toNat * 4 + 3,none⟩ = some (.int .i64 ((kw x3_1 x4_1).f3)) := hcc10 3 _ rfl;have hf10_0 : w11.frozen? ⟨go10,(x4_1 : Int).toNat * 4,none⟩ = false := hfr10 0;have hf10_1 : w11.frozen? ⟨go10,(x4_1 : Int).toNat * 4 + 1,none⟩ = false := hfr10 1;have hf10_2 : w11.frozen? ⟨go10,(x4_1 : Int).toNat * 4 + 2,none⟩ = false := hfr10 2;have hf10_3 : w11.frozen? ⟨go10,(x4_1 : Int).toNat * 4 + 3,none⟩ = false := hfr10 3;clear hcl10 hcc10 hfr10;(try clear hM10);replace p10 := eq_true p10;replace q10 := eq_true q10;have HX12 := qq.mk (show Kd.R k53 53 w11 w.heap.size (fun _ => True) (.slice (some ⟨go10,0,none⟩) x3_1.length co10) x3_1 from (by (with_reducible repeat (first | apply Kd.jq | apply Kd.zx | apply Kd.jz));exact HO_3.out));obtain ⟨ce12,hcl12,hM12,hcc12,hfr12⟩ := Kd.R_elem HX12.out z53 (x4_1 : Int) (of_decide_eq_true (by assumption)) (by have h_ : (x4_1 : Int) < ((x3_1.length : Int) : Int) := of_decide_eq_true (by assumption);first | exact h_ | (have e_ := (Kd.R_reads' HO_3.out).1;omega) | simpa using h_);obtain rfl := k53_openM hM12;have HP12 := Kd.R_seg HX12.out (x4_1 : Int) (of_decide_eq_true (by assumption)) (by have h_ : (x4_1 : Int) < ((x3_1.length : Int) : Int) := of_decide_eq_true (by assumption);first | exact h_ | (have e_ := (Kd.R_reads' HO_3.out).1;omega) | simpa using h_) (seg := [.string t105,.int .i64 t106,.int .i64 t107,.int .i64 t108]) (j := 0) hcl12 hcc12 (show 4 ≤ 4 from by decide) (x' := (⟨t105,t106,t107,t108⟩ : S53)) (k53_mkM _ _ _ (⟨t105,t106,t107,t108⟩ : S53) ) (fun _ hk => hk);have hx12_0 := hcc12 0 _ rfl;(try simp only [show (k53).sz = 4 from rfl,Nat.mul_one,Nat.add_zero] at hx12_0);have hf12_0 := hfr12 0;(try simp only [show (k53).sz = 4 from rfl,Nat.mul_one,Nat.add_zero] at hf12_0);have hx12_1 := hcc12 1 _ rfl;(try simp only [show (k53).sz = 4 from rfl,Nat.mul_one,Nat.add_zero] at hx12_1);have hf12_1 := hfr12 1;(try simp only [show (k53).sz = 4 from rfl,Nat.mul_one,Nat.add_zero] at hf12_1);have hx12_2 := hcc12 2 _ rfl;(try simp only [show (k53).sz = 4 from rfl,Nat.mul_one,Nat.add_zero] at hx12_2);have hf12_2 := hfr12 2;(try simp only [show (k53).sz = 4 from rfl,Nat.mul_one,Nat.add_zero] at hf12_2);have hx12_3 := hcc12 3 _ rfl;(try simp only [show (k53).sz = 4 from rfl,Nat.mul_one,Nat.add_zero] at hx12_3);have hf12_3 := hfr12 3;(try simp only [show (k53).sz = 4 from rfl,Nat.mul_one,Nat.add_zero] at hf12_3);clear hcl12 hcc12 hfr12;(try clear hM12)) | ((with_reducible refine jw (t := 53) (p := 21) rfl ?_);refine jx (t := 53) (p := 21) (v := ?vo_w13) (w1 := ((((w11.setCell ⟨go10,(x4_1 : Int).toNat * 4,none⟩ (.string t105)).setCell ⟨go10,(x4_1 : Int).toNat * 4 + 1,none⟩ (.int .i64 t106)).setCell ⟨go10,(x4_1 : Int).toNat * 4 + 2,none⟩ (.int .i64 t107)).setCell ⟨go10,(x4_1 : Int).toNat * 4 + 3,none⟩ (.int .i64 t108))) ?hg ?ho ?hn ?hr ?_;(case ho => rfl);(case hg => rfl);(case hn => rfl);(case hr => first | (go_simp;done) | (go_simp;rfl));intro w13 hw;have hg : w11.grownBy w13 (some go10) := (by rw [hw];exact HP12.2);have hp_ : Kd.R k53 53 w13 w.heap.size (fun _ => True) (.slice (some ⟨go10,0,none⟩) x3_1.length co10) y109 := (by rw [hw,Ny109.out];exact HP12.1);clear HP12;have n0_ := qq.mk (hp_);have n1_ := qq.mk ((by rw [hw];exact qx (qx (qx (qx (HB.out) GB10.out) GB10.out) GB10.out) GB10.out : Below w.heap.size w w13));clear HO_3;clear HB;have HO_3 := n0_;have HB := n1_;clear n0_ n1_;clear hg hw hp_))
        go_roundg k1
        case measure => have := HK1.out;omega
        case rel => exact ⟨(y109),(wrap64 (x4_1 + 1)),(by first | rfl | (simp;done) | (simp [*];done)),H',⟨by have := HK1.out;omega⟩,⟨by (with_reducible repeat (first | apply Kd.jq | apply Kd.zx | apply Kd.jz));exact HO_3.out⟩,⟨by repeat (first | (with_reducible first | exact HB.out | apply qj | apply qz | apply qk) | exact HB.out)⟩⟩
       ·rw [if_neg c9] at H
        exact absurd H (by simp)
      ·rw [if_neg c7] at H
       exact absurd H (by simp)
     ·rw [if_neg c6] at H
      have c6b0 : decide (x4_1 < (l0.length : Int)) = false := decide_eq_false c6
      clear c6
      obtain rfl := Option.some.inj H
      go_wp2
      go_ret
      exact ⟨_,by first | rfl | (simp [*,jk,jj] <;> rfl),by (with_reducible repeat (first | apply Kd.jq | apply Kd.zx | apply Kd.jz));exact HO_3.out,by repeat (first | (with_reducible first | exact HB.out | apply qj | apply qz | apply qk) | exact HB.out)⟩
  ·rw [if_neg c3] at H
   exact absurd H (by simp)
 ·rw [if_neg c2] at H
  exact absurd H (by simp)
def wk.l0 : Nat → List (S53) → List (S53) → Int → Option (Bool)
 | 0,_,_,_ => none
 | k + 1,x0,x1,x5 => if x5 < (x0.length : Int) then (if 0 ≤ x5 then (if x5 < (x1.length : Int) then ((wj.f ((kw x0 x5).f0) ((kw x0 x5).f1) ((kw x0 x5).f2) ((kw x0 x5).f3) ((kw x1 x5).f0) ((kw x1 x5).f1) ((kw x1 x5).f2) ((kw x1 x5).f3)).bind fun t103 => (if t103 = true then (wk.l0 k x0 x1 (wrap64 (x5 + 1))) else (some false))) else (none)) else (none)) else (some true)
def wk.f (k : Nat) (l0 : List (S53)) (l1 : List (S53)) : Option (Bool) := if (l0.length : Int) = (l1.length : Int) then (wk.l0 k l0 l1 0) else (some false)
def wk.T6 : Bool × List (List Nat × List Nat) := (true,[([],[]),([],[]),([0,1],[0,1]),([2],[2]),([],[]),([],[]),([4,5],[4,5]),([6],[6]),([3,7],[3,7]),([8],[8])])
def wk.B6 : List Nat := [0,0,3,7,0,0,48,112,255,511]
theorem wk.tab6 : rtab .any (opsOf Try.f17 6) = wk.T6 := by kernel_rfl
theorem wk.bits6 : waitsOk wk.T6.2 wk.B6 = true := by kernel_rfl
set_option maxHeartbeats 8000000 in
set_option maxRecDepth 100000 in
theorem wk.calls (k : Nat) (A0 : Option Addr) (c0 : Nat) (l0 : List (S53)) (A1 : Option Addr) (c1 : Nat) (l1 : List (S53)) (r : Bool) (w : World) (hr0 : Kd.C k53 w A0 l0.length l0) (hc0 : l0.length ≤ c0) (hr1 : Kd.C k53 w A1 l1.length l1) (hc1 : l1.length ≤ c1) (h : wk.f k l0 l1 = some r) :
  Calls Try.prog 17 #[.slice A0 l0.length c0,.slice A1 l1.length c1] w fun e w' => e = .returned (.bool r) ∧ Below w.heap.size w w' := by
 have hu53 := Try.underlying53
 have HR0 := qq.mk hr0
 have HC0 := qq.mk hc0
 clear hr0 hc0
 have HR1 := qq.mk hr1
 have HC1 := qq.mk hc1
 clear hr1 hc1
 have HB := qq.mk (Below.refl w.heap.size w)
 have H : (if (l0.length : Int) = (l1.length : Int) then (wk.l0 k l0 l1 0) else (some false)) = some r := h
 clear h
 by_cases c3 : (l0.length : Int) = (l1.length : Int)
 ·rw [if_pos c3] at H
  have c3b0 : ((l0.length : Int) == (l1.length : Int)) = true := beq_iff_eq.mpr c3
  have c3b1 : ((l0.length : Int) != (l1.length : Int)) = false := bne_eq_false_iff_eq.mpr c3
  have c3b2 : (l0.length == l1.length) = true := by first | simpa using c3 | (simp at c3 ⊢;omega)
  clear c3
  have H' := qq.mk H
  clear H
  go_enter Try.func17,Try.ntmps17
  go_wp2
  go_loopg [5] k (fun kq v5 w' => ∃ (x5_1 : Int),v5 = .int .i64 x5_1 ∧ qq (wk.l0 kq l0 l1 x5_1 = some r) ∧ qq (kq ≤ k) ∧ qq (Below w.heap.size w w'))
  case atStart => exact ⟨(0),(by first | rfl | (simp;done) | (simp [*];done)),H',⟨Nat.le_refl _⟩,⟨by repeat (first | (with_reducible first | exact HB.out | apply qj | apply qz | apply qk) | exact HB.out)⟩⟩
  case round =>
   clear H'
   try clear c1
   try clear p2
   try clear c3
   try clear c3b0
   try clear c3b1
   try clear c3b2
   obtain ⟨x5_1,rfl,HA,HK1,HB⟩ := hrel
   cases gk with
   | zero => exact absurd HA.out (by simp [wk.l0])
   | succ k1 =>
    have H := HA.out
    clear HA
    simp only [wk.l0] at H
    by_cases c4 : x5_1 < (l0.length : Int)
    ·rw [if_pos c4] at H
     have c4b0 : decide (x5_1 < (l0.length : Int)) = true := decide_eq_true c4
     clear c4
     by_cases c5 : 0 ≤ x5_1
     ·rw [if_pos c5] at H
      have c5b0 : decide (0 ≤ x5_1) = true := decide_eq_true c5
      clear c5
      by_cases c6 : x5_1 < (l1.length : Int)
      ·rw [if_pos c6] at H
       have c6b0 : decide (x5_1 < (l1.length : Int)) = true := decide_eq_true c6
       clear c6
       replace H := Option.bind_eq_some_iff.mp H
       obtain ⟨t103,A70,H⟩ := H
       replace H : (if t103 = true then (wk.l0 k1 l0 l1 (wrap64 (x5_1 + 1))) else (some false)) = some r := H
       have A7 := qq.mk A70
       clear A70
       by_cases c8 : t103 = true
       ·subst c8
        have H1 : (wk.l0 k1 l0 l1 (wrap64 (x5_1 + 1))) = some r := by rw [if_pos rfl] at H;exact H
        clear H
        have H := H1
        clear H1
        have H' := qq.mk H
        clear H
        try go_wp2
        have n0_ := qq.mk (qk HB.out)
        clear HB
        have HB := n0_
        clear n0_
        have p101 : 0 ≤ (x5_1 : Int) := of_decide_eq_true (by assumption)
        have q101 : x5_1 < (l0.length : Int) := of_decide_eq_true (by assumption)
        obtain ⟨ad101,e101,hx101_0,hx101_1,hx101_2,hx101_3⟩ := at_T53 HR0.out x5_1 p101 q101
        have hw101_3 := hx101_3
        have hw101_2 := hx101_2
        have hw101_1 := hx101_1
        have hw101_0 := hx101_0
        cases e101
        replace hx101_0 := (HB.out.cell (World.block_lt_of_cell? w _ hx101_0)).trans hx101_0
        replace hx101_1 := (HB.out.cell (World.block_lt_of_cell? w _ hx101_1)).trans hx101_1
        replace hx101_2 := (HB.out.cell (World.block_lt_of_cell? w _ hx101_2)).trans hx101_2
        replace hx101_3 := (HB.out.cell (World.block_lt_of_cell? w _ hx101_3)).trans hx101_3
        replace p101 := eq_true p101
        replace q101 := eq_true q101
        have p102 : 0 ≤ (x5_1 : Int) := of_decide_eq_true (by assumption)
        have q102 : x5_1 < (l1.length : Int) := of_decide_eq_true (by assumption)
        obtain ⟨ad102,e102,hx102_0,hx102_1,hx102_2,hx102_3⟩ := at_T53 HR1.out x5_1 p102 q102
        have hw102_3 := hx102_3
        have hw102_2 := hx102_2
        have hw102_1 := hx102_1
        have hw102_0 := hx102_0
        cases e102
        replace hx102_0 := (HB.out.cell (World.block_lt_of_cell? w _ hx102_0)).trans hx102_0
        replace hx102_1 := (HB.out.cell (World.block_lt_of_cell? w _ hx102_1)).trans hx102_1
        replace hx102_2 := (HB.out.cell (World.block_lt_of_cell? w _ hx102_2)).trans hx102_2
        replace hx102_3 := (HB.out.cell (World.block_lt_of_cell? w _ hx102_3)).trans hx102_3
        replace p102 := eq_true p102
        replace q102 := eq_true q102
        refine start_ (n := 10) (S := fun w' => w'.cell? (ad101.add ((x5_1).toNat * 4)) = some (.string ((kw l0 x5_1).f0)) ∧ w'.cell? ⟨(ad101.add ((x5_1).toNat * 4)).block,(ad101.add ((x5_1).toNat * 4)).off + 1,none⟩ = some (.int .i64 ((kw l0 x5_1).f1)) ∧ w'.cell? ⟨(ad101.add ((x5_1).toNat * 4)).block,(ad101.add ((x5_1).toNat * 4)).off + 2,none⟩ = some (.int .i64 ((kw l0 x5_1).f2)) ∧ w'.cell? ⟨(ad101.add ((x5_1).toNat * 4)).block,(ad101.add ((x5_1).toNat * 4)).off + 3,none⟩ = some (.int .i64 ((kw l0 x5_1).f3)) ∧ w'.cell? (ad102.add ((x5_1).toNat * 4)) = some (.string ((kw l1 x5_1).f0)) ∧ w'.cell? ⟨(ad102.add ((x5_1).toNat * 4)).block,(ad102.add ((x5_1).toNat * 4)).off + 1,none⟩ = some (.int .i64 ((kw l1 x5_1).f1)) ∧ w'.cell? ⟨(ad102.add ((x5_1).toNat * 4)).block,(ad102.add ((x5_1).toNat * 4)).off + 2,none⟩ = some (.int .i64 ((kw l1 x5_1).f2)) ∧ w'.cell? ⟨(ad102.add ((x5_1).toNat * 4)).block,(ad102.add ((x5_1).toNat * 4)).off + 3,none⟩ = some (.int .i64 ((kw l1 x5_1).f3))) (ds := []) #[false,false,false,false,false,false,false,false,false,false] (by kernel_rfl) rfl rfl ⟨((HB.out.cell (World.block_lt_of_cell? w _ hw101_0)).trans hw101_0),((HB.out.cell (World.block_lt_of_cell? w _ hw101_1)).trans hw101_1),((HB.out.cell (World.block_lt_of_cell? w _ hw101_2)).trans hw101_2),((HB.out.cell (World.block_lt_of_cell? w _ hw101_3)).trans hw101_3),((HB.out.cell (World.block_lt_of_cell? w _ hw102_0)).trans hw102_0),((HB.out.cell (World.block_lt_of_cell? w _ hw102_1)).trans hw102_1),((HB.out.cell (World.block_lt_of_cell? w _ hw102_2)).trans hw102_2),((HB.out.cell (World.block_lt_of_cell? w _ hw102_3)).trans hw102_3)⟩ (fun hHeld => ?_);refine with_tabW wk.tab6 wk.bits6 (fun HT_ HW_ => ?_)
        generalize wr.drew = w9 at HB hx101_0 hx101_1 hx101_2 hx101_3 hx102_0 hx102_1 hx102_2 hx102_3 hHeld ⊢
        refine pure_ (i := 0) (N := some 17) (v := ?_) (a' := ?_) #[true,false,false,false,false,false,false,false,false,false] rfl rfl (any_of HT_.out (by kernel_rfl)) (fun _ _ _ h => h) (Or.inl ⟨by rfl,?_⟩) ?_ ?_
        rotate_left
        ·intro w'
         go_simp
         with_reducible rfl
        rotate_left
        ·simp only [Act.put,List.setIfInBounds_toArray,List.set_cons_zero,List.set_cons_succ,i64_w,i32_w]
         rfl
        refine pure_ (i := 1) (N := some 18) (v := ?_) (a' := ?_) #[true,true,false,false,false,false,false,false,false,false] rfl rfl (any_of HT_.out (by kernel_rfl)) (fun _ _ _ h => h) (Or.inl ⟨by rfl,?_⟩) ?_ ?_
        rotate_left
        ·intro w'
         go_simp
         with_reducible rfl
        rotate_left
        ·simp only [Act.put,List.setIfInBounds_toArray,List.set_cons_zero,List.set_cons_succ,i64_w,i32_w]
         rfl
        refine pure_ (i := 2) (N := some 19) (v := ?_) (a' := ?_) #[true,true,true,false,false,false,false,false,false,false] rfl rfl (any_of HT_.out (by kernel_rfl)) (fun _ _ _ h => h) (Or.inl ⟨by rfl,?_⟩) ?_ ?_
        rotate_left
        ·intro w'
         go_simp
         with_reducible rfl
        rotate_left
        ·simp only [Act.put,List.setIfInBounds_toArray,List.set_cons_zero,List.set_cons_succ,i64_w,i32_w]
         rfl
        refine pure_ (i := 4) (N := some 21) (v := ?_) (a' := ?_) #[true,true,true,false,true,false,false,false,false,false] rfl rfl (any_of HT_.out (by kernel_rfl)) (fun _ _ _ h => h) (Or.inl ⟨by rfl,?_⟩) ?_ ?_
        rotate_left
        ·intro w'
         go_simp
         with_reducible rfl
        rotate_left
        ·simp only [Act.put,List.setIfInBounds_toArray,List.set_cons_zero,List.set_cons_succ,i64_w,i32_w]
         rfl
        refine pure_ (i := 5) (N := some 22) (v := ?_) (a' := ?_) #[true,true,true,false,true,true,false,false,false,false] rfl rfl (any_of HT_.out (by kernel_rfl)) (fun _ _ _ h => h) (Or.inl ⟨by rfl,?_⟩) ?_ ?_
        rotate_left
        ·intro w'
         go_simp
         with_reducible rfl
        rotate_left
        ·simp only [Act.put,List.setIfInBounds_toArray,List.set_cons_zero,List.set_cons_succ,i64_w,i32_w]
         rfl
        refine pure_ (i := 6) (N := some 23) (v := ?_) (a' := ?_) #[true,true,true,false,true,true,true,false,false,false] rfl rfl (any_of HT_.out (by kernel_rfl)) (fun _ _ _ h => h) (Or.inl ⟨by rfl,?_⟩) ?_ ?_
        rotate_left
        ·intro w'
         go_simp
         with_reducible rfl
        rotate_left
        ·simp only [Act.put,List.setIfInBounds_toArray,List.set_cons_zero,List.set_cons_succ,i64_w,i32_w]
         rfl
        refine take_ (i := 3) (N := some 20) (v := ?_) (a' := ?_) #[true,true,true,true,true,true,true,false,false,false] rfl rfl (take_ofW HT_.out HW_.out (by kernel_rfl)) (fun _ _ _ h => h) (Or.inl ⟨by rfl,?_⟩) hHeld ?_ ?_
        rotate_left
        ·rintro w' ⟨s0,s1,s2,s3,s4,s5,s6,s7⟩
         go_simp
         with_reducible rfl
        rotate_left
        ·simp only [Act.put,List.setIfInBounds_toArray,List.set_cons_zero,List.set_cons_succ,i64_w,i32_w]
         rfl
        refine take_ (i := 7) (N := some 24) (v := ?_) (a' := ?_) #[true,true,true,true,true,true,true,true,false,false] rfl rfl (take_ofW HT_.out HW_.out (by kernel_rfl)) (fun _ _ _ h => h) (Or.inl ⟨by rfl,?_⟩) hHeld ?_ ?_
        rotate_left
        ·rintro w' ⟨s0,s1,s2,s3,s4,s5,s6,s7⟩
         go_simp
         with_reducible rfl
        rotate_left
        ·simp only [Act.put,List.setIfInBounds_toArray,List.set_cons_zero,List.set_cons_succ,i64_w,i32_w]
         rfl
        refine one_ (i := 8) (N := some 25) #[true,true,true,true,true,true,true,true,true,false] rfl rfl (one_of HT_.out (by kernel_rfl)) (by decide) (fun K hK => ?_)
        refine goes_ Try.func42 (by kernel_rfl) rfl #[.agg #[.string ((kw l0 x5_1).f0),.int .i64 ((kw l0 x5_1).f1),.int .i64 ((kw l0 x5_1).f2),.int .i64 ((kw l0 x5_1).f3)],.agg #[.string ((kw l1 x5_1).f0),.int .i64 ((kw l1 x5_1).f1),.int .i64 ((kw l1 x5_1).f2),.int .i64 ((kw l1 x5_1).f3)]] (by rfl) rfl rfl (by (try simp only [List.map_toArray,List.map_cons,List.map_nil]);first | done | rfl | (simp only [List.length_drop,List.length_take];rfl)) ?_
        with_reducible refine (wj.calls ((kw l0 x5_1).f0) ((kw l0 x5_1).f1) ((kw l0 x5_1).f2) ((kw l0 x5_1).f3) ((kw l1 x5_1).f0) ((kw l1 x5_1).f1) ((kw l1 x5_1).f2) ((kw l1 x5_1).f3) true _ A7.out).mono ?_
        rintro e w10 ⟨rfl,hb⟩
        refine ⟨_,rfl,?_⟩
        have n0_ := qq.mk (zv (by repeat (first | (with_reducible first | exact HB.out | apply qj | apply qz | apply qk) | exact HB.out)) hb)
        clear HB
        have HB := n0_
        clear n0_
        (try clear hb)
        (try clear hb2)
        (try clear hk)
        (try clear hi)
        refine hK.out _ _ ⟨((HB.out.cell (World.block_lt_of_cell? w _ hw101_0)).trans hw101_0),((HB.out.cell (World.block_lt_of_cell? w _ hw101_1)).trans hw101_1),((HB.out.cell (World.block_lt_of_cell? w _ hw101_2)).trans hw101_2),((HB.out.cell (World.block_lt_of_cell? w _ hw101_3)).trans hw101_3),((HB.out.cell (World.block_lt_of_cell? w _ hw102_0)).trans hw102_0),((HB.out.cell (World.block_lt_of_cell? w _ hw102_1)).trans hw102_1),((HB.out.cell (World.block_lt_of_cell? w _ hw102_2)).trans hw102_2),((HB.out.cell (World.block_lt_of_cell? w _ hw102_3)).trans hw102_3)⟩ (fun hHeld => ?_)
        clear hK K
        refine norm_ (a' := ?_) ?_ ?_
        rotate_left
        ·show Act.put _ (some 25) _ = _
         simp only [Act.put,List.setIfInBounds_toArray,List.set_cons_zero,List.set_cons_succ,i64_w,i32_w]
         rfl
        refine pure_ (i := 9) (N := some 26) (v := ?_) (a' := ?_) #[true,true,true,true,true,true,true,true,true,true] rfl rfl (any_of HT_.out (by kernel_rfl)) (fun _ _ _ h => h) (Or.inl ⟨by rfl,?_⟩) ?_ ?_
        rotate_left
        ·intro w'
         go_simp
         with_reducible rfl
        rotate_left
        ·simp only [Act.put,List.setIfInBounds_toArray,List.set_cons_zero,List.set_cons_succ,i64_w,i32_w]
         rfl
        refine done_ (done_of HT_.out (by kernel_rfl)) ?_
        try go_wp2
        go_roundg k1
        case measure => have := HK1.out;omega
        case rel => exact ⟨(wrap64 (x5_1 + 1)),(by first | rfl | (simp;done) | (simp [*];done)),H',⟨by have := HK1.out;omega⟩,⟨by repeat (first | (with_reducible first | exact HB.out | apply qj | apply qz | apply qk) | exact HB.out)⟩⟩
       ·replace c8 := Bool.eq_false_iff.mpr c8
        subst c8
        have H1 : (some false) = some r := by rw [if_neg (show ¬ (false = true) by decide)] at H;exact H
        clear H
        have H := H1
        clear H1
        obtain rfl := Option.some.inj H
        try go_wp2
        have n0_ := qq.mk (qk HB.out)
        clear HB
        have HB := n0_
        clear n0_
        have p101 : 0 ≤ (x5_1 : Int) := of_decide_eq_true (by assumption)
        have q101 : x5_1 < (l0.length : Int) := of_decide_eq_true (by assumption)
        obtain ⟨ad101,e101,hx101_0,hx101_1,hx101_2,hx101_3⟩ := at_T53 HR0.out x5_1 p101 q101
        have hw101_3 := hx101_3
        have hw101_2 := hx101_2
        have hw101_1 := hx101_1
        have hw101_0 := hx101_0
        cases e101
        replace hx101_0 := (HB.out.cell (World.block_lt_of_cell? w _ hx101_0)).trans hx101_0
        replace hx101_1 := (HB.out.cell (World.block_lt_of_cell? w _ hx101_1)).trans hx101_1
        replace hx101_2 := (HB.out.cell (World.block_lt_of_cell? w _ hx101_2)).trans hx101_2
        replace hx101_3 := (HB.out.cell (World.block_lt_of_cell? w _ hx101_3)).trans hx101_3
        replace p101 := eq_true p101
        replace q101 := eq_true q101
        have p102 : 0 ≤ (x5_1 : Int) := of_decide_eq_true (by assumption)
        have q102 : x5_1 < (l1.length : Int) := of_decide_eq_true (by assumption)
        obtain ⟨ad102,e102,hx102_0,hx102_1,hx102_2,hx102_3⟩ := at_T53 HR1.out x5_1 p102 q102
        have hw102_3 := hx102_3
        have hw102_2 := hx102_2
        have hw102_1 := hx102_1
        have hw102_0 := hx102_0
        cases e102
        replace hx102_0 := (HB.out.cell (World.block_lt_of_cell? w _ hx102_0)).trans hx102_0
        replace hx102_1 := (HB.out.cell (World.block_lt_of_cell? w _ hx102_1)).trans hx102_1
        replace hx102_2 := (HB.out.cell (World.block_lt_of_cell? w _ hx102_2)).trans hx102_2
        replace hx102_3 := (HB.out.cell (World.block_lt_of_cell? w _ hx102_3)).trans hx102_3
        replace p102 := eq_true p102
        replace q102 := eq_true q102
        refine start_ (n := 10) (S := fun w' => w'.cell? (ad101.add ((x5_1).toNat * 4)) = some (.string ((kw l0 x5_1).f0)) ∧ w'.cell? ⟨(ad101.add ((x5_1).toNat * 4)).block,(ad101.add ((x5_1).toNat * 4)).off + 1,none⟩ = some (.int .i64 ((kw l0 x5_1).f1)) ∧ w'.cell? ⟨(ad101.add ((x5_1).toNat * 4)).block,(ad101.add ((x5_1).toNat * 4)).off + 2,none⟩ = some (.int .i64 ((kw l0 x5_1).f2)) ∧ w'.cell? ⟨(ad101.add ((x5_1).toNat * 4)).block,(ad101.add ((x5_1).toNat * 4)).off + 3,none⟩ = some (.int .i64 ((kw l0 x5_1).f3)) ∧ w'.cell? (ad102.add ((x5_1).toNat * 4)) = some (.string ((kw l1 x5_1).f0)) ∧ w'.cell? ⟨(ad102.add ((x5_1).toNat * 4)).block,(ad102.add ((x5_1).toNat * 4)).off + 1,none⟩ = some (.int .i64 ((kw l1 x5_1).f1)) ∧ w'.cell? ⟨(ad102.add ((x5_1).toNat * 4)).block,(ad102.add ((x5_1).toNat * 4)).off + 2,none⟩ = some (.int .i64 ((kw l1 x5_1).f2)) ∧ w'.cell? ⟨(ad102.add ((x5_1).toNat * 4)).block,(ad102.add ((x5_1).toNat * 4)).off + 3,none⟩ = some (.int .i64 ((kw l1 x5_1).f3))) (ds := []) #[false,false,false,false,false,false,false,false,false,false] (by kernel_rfl) rfl rfl ⟨((HB.out.cell (World.block_lt_of_cell? w _ hw101_0)).trans hw101_0),((HB.out.cell (World.block_lt_of_cell? w _ hw101_1)).trans hw101_1),((HB.out.cell (World.block_lt_of_cell? w _ hw101_2)).trans hw101_2),((HB.out.cell (World.block_lt_of_cell? w _ hw101_3)).trans hw101_3),((HB.out.cell (World.block_lt_of_cell? w _ hw102_0)).trans hw102_0),((HB.out.cell (World.block_lt_of_cell? w _ hw102_1)).trans hw102_1),((HB.out.cell (World.block_lt_of_cell? w _ hw102_2)).trans hw102_2),((HB.out.cell (World.block_lt_of_cell? w _ hw102_3)).trans hw102_3)⟩ (fun hHeld => ?_);refine with_tabW wk.tab6 wk.bits6 (fun HT_ HW_ => ?_)
        generalize wr.drew = w11 at HB hx101_0 hx101_1 hx101_2 hx101_3 hx102_0 hx102_1 hx102_2 hx102_3 hHeld ⊢
        refine pure_ (i := 0) (N := some 17) (v := ?_) (a' := ?_) #[true,false,false,false,false,false,false,false,false,false] rfl rfl (any_of HT_.out (by kernel_rfl)) (fun _ _ _ h => h) (Or.inl ⟨by rfl,?_⟩) ?_ ?_
        rotate_left
        ·intro w'
         go_simp
         with_reducible rfl
        rotate_left
        ·simp only [Act.put,List.setIfInBounds_toArray,List.set_cons_zero,List.set_cons_succ,i64_w,i32_w]
         rfl
        refine pure_ (i := 1) (N := some 18) (v := ?_) (a' := ?_) #[true,true,false,false,false,false,false,false,false,false] rfl rfl (any_of HT_.out (by kernel_rfl)) (fun _ _ _ h => h) (Or.inl ⟨by rfl,?_⟩) ?_ ?_
        rotate_left
        ·intro w'
         go_simp
         with_reducible rfl
        rotate_left
        ·simp only [Act.put,List.setIfInBounds_toArray,List.set_cons_zero,List.set_cons_succ,i64_w,i32_w]
         rfl
        refine pure_ (i := 2) (N := some 19) (v := ?_) (a' := ?_) #[true,true,true,false,false,false,false,false,false,false] rfl rfl (any_of HT_.out (by kernel_rfl)) (fun _ _ _ h => h) (Or.inl ⟨by rfl,?_⟩) ?_ ?_
        rotate_left
        ·intro w'
         go_simp
         with_reducible rfl
        rotate_left
        ·simp only [Act.put,List.setIfInBounds_toArray,List.set_cons_zero,List.set_cons_succ,i64_w,i32_w]
         rfl
        refine pure_ (i := 4) (N := some 21) (v := ?_) (a' := ?_) #[true,true,true,false,true,false,false,false,false,false] rfl rfl (any_of HT_.out (by kernel_rfl)) (fun _ _ _ h => h) (Or.inl ⟨by rfl,?_⟩) ?_ ?_
        rotate_left
        ·intro w'
         go_simp
         with_reducible rfl
        rotate_left
        ·simp only [Act.put,List.setIfInBounds_toArray,List.set_cons_zero,List.set_cons_succ,i64_w,i32_w]
         rfl
        refine pure_ (i := 5) (N := some 22) (v := ?_) (a' := ?_) #[true,true,true,false,true,true,false,false,false,false] rfl rfl (any_of HT_.out (by kernel_rfl)) (fun _ _ _ h => h) (Or.inl ⟨by rfl,?_⟩) ?_ ?_
        rotate_left
        ·intro w'
         go_simp
         with_reducible rfl
        rotate_left
        ·simp only [Act.put,List.setIfInBounds_toArray,List.set_cons_zero,List.set_cons_succ,i64_w,i32_w]
         rfl
        refine pure_ (i := 6) (N := some 23) (v := ?_) (a' := ?_) #[true,true,true,false,true,true,true,false,false,false] rfl rfl (any_of HT_.out (by kernel_rfl)) (fun _ _ _ h => h) (Or.inl ⟨by rfl,?_⟩) ?_ ?_
        rotate_left
        ·intro w'
         go_simp
         with_reducible rfl
        rotate_left
        ·simp only [Act.put,List.setIfInBounds_toArray,List.set_cons_zero,List.set_cons_succ,i64_w,i32_w]
         rfl
        refine take_ (i := 3) (N := some 20) (v := ?_) (a' := ?_) #[true,true,true,true,true,true,true,false,false,false] rfl rfl (take_ofW HT_.out HW_.out (by kernel_rfl)) (fun _ _ _ h => h) (Or.inl ⟨by rfl,?_⟩) hHeld ?_ ?_
        rotate_left
        ·rintro w' ⟨s0,s1,s2,s3,s4,s5,s6,s7⟩
         go_simp
         with_reducible rfl
        rotate_left
        ·simp only [Act.put,List.setIfInBounds_toArray,List.set_cons_zero,List.set_cons_succ,i64_w,i32_w]
         rfl
        refine take_ (i := 7) (N := some 24) (v := ?_) (a' := ?_) #[true,true,true,true,true,true,true,true,false,false] rfl rfl (take_ofW HT_.out HW_.out (by kernel_rfl)) (fun _ _ _ h => h) (Or.inl ⟨by rfl,?_⟩) hHeld ?_ ?_
        rotate_left
        ·rintro w' ⟨s0,s1,s2,s3,s4,s5,s6,s7⟩
         go_simp
         with_reducible rfl
        rotate_left
        ·simp only [Act.put,List.setIfInBounds_toArray,List.set_cons_zero,List.set_cons_succ,i64_w,i32_w]
         rfl
        refine one_ (i := 8) (N := some 25) #[true,true,true,true,true,true,true,true,true,false] rfl rfl (one_of HT_.out (by kernel_rfl)) (by decide) (fun K hK => ?_)
        refine goes_ Try.func42 (by kernel_rfl) rfl #[.agg #[.string ((kw l0 x5_1).f0),.int .i64 ((kw l0 x5_1).f1),.int .i64 ((kw l0 x5_1).f2),.int .i64 ((kw l0 x5_1).f3)],.agg #[.string ((kw l1 x5_1).f0),.int .i64 ((kw l1 x5_1).f1),.int .i64 ((kw l1 x5_1).f2),.int .i64 ((kw l1 x5_1).f3)]] (by rfl) rfl rfl (by (try simp only [List.map_toArray,List.map_cons,List.map_nil]);first | done | rfl | (simp only [List.length_drop,List.length_take];rfl)) ?_
        with_reducible refine (wj.calls ((kw l0 x5_1).f0) ((kw l0 x5_1).f1) ((kw l0 x5_1).f2) ((kw l0 x5_1).f3) ((kw l1 x5_1).f0) ((kw l1 x5_1).f1) ((kw l1 x5_1).f2) ((kw l1 x5_1).f3) false _ A7.out).mono ?_
        rintro e w12 ⟨rfl,hb⟩
        refine ⟨_,rfl,?_⟩
        have n0_ := qq.mk (zv (by repeat (first | (with_reducible first | exact HB.out | apply qj | apply qz | apply qk) | exact HB.out)) hb)
        clear HB
        have HB := n0_
        clear n0_
        (try clear hb)
        (try clear hb2)
        (try clear hk)
        (try clear hi)
        refine hK.out _ _ ⟨((HB.out.cell (World.block_lt_of_cell? w _ hw101_0)).trans hw101_0),((HB.out.cell (World.block_lt_of_cell? w _ hw101_1)).trans hw101_1),((HB.out.cell (World.block_lt_of_cell? w _ hw101_2)).trans hw101_2),((HB.out.cell (World.block_lt_of_cell? w _ hw101_3)).trans hw101_3),((HB.out.cell (World.block_lt_of_cell? w _ hw102_0)).trans hw102_0),((HB.out.cell (World.block_lt_of_cell? w _ hw102_1)).trans hw102_1),((HB.out.cell (World.block_lt_of_cell? w _ hw102_2)).trans hw102_2),((HB.out.cell (World.block_lt_of_cell? w _ hw102_3)).trans hw102_3)⟩ (fun hHeld => ?_)
        clear hK K
        refine norm_ (a' := ?_) ?_ ?_
        rotate_left
        ·show Act.put _ (some 25) _ = _
         simp only [Act.put,List.setIfInBounds_toArray,List.set_cons_zero,List.set_cons_succ,i64_w,i32_w]
         rfl
        refine pure_ (i := 9) (N := some 26) (v := ?_) (a' := ?_) #[true,true,true,true,true,true,true,true,true,true] rfl rfl (any_of HT_.out (by kernel_rfl)) (fun _ _ _ h => h) (Or.inl ⟨by rfl,?_⟩) ?_ ?_
        rotate_left
        ·intro w'
         go_simp
         with_reducible rfl
        rotate_left
        ·simp only [Act.put,List.setIfInBounds_toArray,List.set_cons_zero,List.set_cons_succ,i64_w,i32_w]
         rfl
        refine done_ (done_of HT_.out (by kernel_rfl)) ?_
        try go_wp2
        go_ret
        exact ⟨by first | rfl | (simp [*,jk,jj] <;> rfl),by repeat (first | (with_reducible first | exact HB.out | apply qj | apply qz | apply qk) | exact HB.out)⟩
      ·rw [if_neg c6] at H
       exact absurd H (by simp)
     ·rw [if_neg c5] at H
      exact absurd H (by simp)
    ·rw [if_neg c4] at H
     have c4b0 : decide (x5_1 < (l0.length : Int)) = false := decide_eq_false c4
     clear c4
     obtain rfl := Option.some.inj H
     go_wp2
     go_ret
     exact ⟨by first | rfl | (simp [*,jk,jj] <;> rfl),by repeat (first | (with_reducible first | exact HB.out | apply qj | apply qz | apply qk) | exact HB.out)⟩
 ·rw [if_neg c3] at H
  have c3b0 : ((l0.length : Int) == (l1.length : Int)) = false := beq_eq_false_iff_ne.mpr c3
  have c3b1 : ((l0.length : Int) != (l1.length : Int)) = true := bne_iff_ne.mpr c3
  have c3b2 : (l0.length == l1.length) = false := by first | simpa using c3 | (simp at c3 ⊢;omega)
  obtain rfl := Option.some.inj H
  go_enter Try.func17,Try.ntmps17
  go_wp2
  go_ret
  exact ⟨by first | rfl | (simp [*,jk,jj] <;> rfl),by repeat (first | (with_reducible first | exact HB.out | apply qj | apply qz | apply qk) | exact HB.out)⟩
def ww.l0 : Nat → List (S53) → Int → Int → Option (Int × (List (S53)))
 | 0,_,_,_ => none
 | k + 1,x0,x1,x5 => if x5 < (x0.length : Int) then ((wx.f k x1).bind fun t101 => (if 0 ≤ x5 then ((some (x0.set (x5 : Int).toNat (⟨t101,(kw x0 x5).f1,(kw x0 x5).f2,(kw x0 x5).f3⟩ : S53) : List (S53))).bind fun y102 => ((some (y102.set (x5 : Int).toNat (⟨(kw y102 x5).f0,wrap64 (x1 + 1),(kw y102 x5).f2,(kw y102 x5).f3⟩ : S53) : List (S53))).bind fun y103 => ((some (y103.set (x5 : Int).toNat (⟨(kw y103 x5).f0,(kw y103 x5).f1,wrap64 ((wrap64 (x1 + 1)) + 1),(kw y103 x5).f3⟩ : S53) : List (S53))).bind fun y104 => (ww.l0 k (y104.set (x5 : Int).toNat (⟨(kw y104 x5).f0,(kw y104 x5).f1,(kw y104 x5).f2,wrap64 ((wrap64 ((wrap64 (x1 + 1)) + 1)) + 1)⟩ : S53)) (wrap64 ((wrap64 ((wrap64 ((wrap64 (x1 + 1)) + 1)) + 1)) + 1)) (wrap64 (x5 + 1)))))) else (none))) else (some (x1,x0))
def ww.f (k : Nat) (l0 : List (S53)) (a1 : Int) : Option (Int × (List (S53))) := ww.l0 k l0 a1 0
set_option maxHeartbeats 8000000 in
set_option maxRecDepth 100000 in
theorem ww.calls (k : Nat) (P0_ : Nat → Prop) (u9000_ : Value) (l0 : List (S53)) (a1 : Int) (r1 : Int) (r2 : List (S53)) (w0 w : World) (hB : Below w0.heap.size w0 w) (ho0 : Kd.R k53 53 w w0.heap.size P0_ u9000_ l0) (h : ww.f k l0 a1 = some (r1,r2)) :
  Calls Try.prog 27 #[u9000_,.int .i64 a1] w fun e w' => e = .returned (.int .i64 r1) ∧ Kd.R k53 53 w' w0.heap.size (fun k_ => (P0_ k_ ∨ w.heap.size ≤ k_)) u9000_ r2 ∧ Below w0.heap.size w0 w' ∧ kz w w' (fun k_ => P0_ k_) := by
 have HO0 := qq.mk (show Kd.R k53 53 w w0.heap.size (fun k_ => (P0_ k_ ∨ w.heap.size ≤ k_)) u9000_ l0 from Kd.R_mono ho0 (fun k_ hk => (.inl hk)))
 have HK := qq.mk (kz.refl w (fun k_ => P0_ k_))
 have HW0 := qq.mk hB.size
 have HB := qq.mk hB
 clear hB
 have H : (ww.l0 k l0 a1 0) = some (r1,r2) := h
 clear h
 have H' := qq.mk H
 clear H
 go_enter Try.func27,Try.ntmps27
 go_wp2
 go_loopg [1,5] k (fun kq v1 v5 w' => ∃ (x0_1 : List (S53)) (x1_1 : Int) (x5_1 : Int),v1 = .int .i64 x1_1 ∧ v5 = .int .i64 x5_1 ∧ qq (ww.l0 kq x0_1 x1_1 x5_1 = some (r1,r2)) ∧ qq (kq ≤ k) ∧ qq (Kd.R k53 53 w' w0.heap.size (fun k_ => (P0_ k_ ∨ w.heap.size ≤ k_)) u9000_ x0_1) ∧ qq (kz w w' (fun k_ => P0_ k_)) ∧ qq (Below w0.heap.size w0 w'))
 case atStart => exact ⟨(l0),(a1),(0),(by first | rfl | (simp;done) | (simp [*];done)),(by first | rfl | (simp;done) | (simp [*];done)),H',⟨Nat.le_refl _⟩,⟨by (with_reducible repeat (first | apply Kd.jq | apply Kd.zx | apply Kd.jz));exact HO0.out⟩,⟨by repeat (first | (with_reducible first | exact HK.out | apply kz.alloc | apply kz.drewN | apply kz.drew) | exact HK.out)⟩,⟨by repeat (first | (with_reducible first | exact HB.out | apply qj | apply qz | apply qk) | exact HB.out)⟩⟩
 case round =>
  clear H'
  try clear c2
  try clear p2
  obtain ⟨x0_1,x1_1,x5_1,rfl,rfl,HA,HK1,HO_0,HK,HB⟩ := hrel
  cases gk with
  | zero => exact absurd HA.out (by simp [ww.l0])
  | succ k1 =>
   have H := HA.out
   clear HA
   simp only [ww.l0] at H
   by_cases c3 : x5_1 < (x0_1.length : Int)
   ·rw [if_pos c3] at H
    have c3b0 : decide (x5_1 < (x0_1.length : Int)) = true := decide_eq_true c3
    clear c3
    replace H := Option.bind_eq_some_iff.mp H
    obtain ⟨t101,A40,H⟩ := H
    replace H : (if 0 ≤ x5_1 then ((some (x0_1.set (x5_1 : Int).toNat (⟨t101,(kw x0_1 x5_1).f1,(kw x0_1 x5_1).f2,(kw x0_1 x5_1).f3⟩ : S53) : List (S53))).bind fun y102 => ((some (y102.set (x5_1 : Int).toNat (⟨(kw y102 x5_1).f0,wrap64 (x1_1 + 1),(kw y102 x5_1).f2,(kw y102 x5_1).f3⟩ : S53) : List (S53))).bind fun y103 => ((some (y103.set (x5_1 : Int).toNat (⟨(kw y103 x5_1).f0,(kw y103 x5_1).f1,wrap64 ((wrap64 (x1_1 + 1)) + 1),(kw y103 x5_1).f3⟩ : S53) : List (S53))).bind fun y104 => (ww.l0 k1 (y104.set (x5_1 : Int).toNat (⟨(kw y104 x5_1).f0,(kw y104 x5_1).f1,(kw y104 x5_1).f2,wrap64 ((wrap64 ((wrap64 (x1_1 + 1)) + 1)) + 1)⟩ : S53)) (wrap64 ((wrap64 ((wrap64 ((wrap64 (x1_1 + 1)) + 1)) + 1)) + 1)) (wrap64 (x5_1 + 1)))))) else (none)) = some (r1,r2) := H
    have A4 := qq.mk A40
    clear A40
    by_cases c5 : 0 ≤ x5_1
    ·rw [if_pos c5] at H
     have c5b0 : decide (0 ≤ x5_1) = true := decide_eq_true c5
     clear c5
     obtain ⟨y102,hy102⟩ : ∃ y_ : List (S53),y_ = (x0_1.set (x5_1 : Int).toNat (⟨t101,(kw x0_1 x5_1).f1,(kw x0_1 x5_1).f2,(kw x0_1 x5_1).f3⟩ : S53)) := ⟨_,rfl⟩
     replace H : ((some (y102.set (x5_1 : Int).toNat (⟨(kw y102 x5_1).f0,wrap64 (x1_1 + 1),(kw y102 x5_1).f2,(kw y102 x5_1).f3⟩ : S53) : List (S53))).bind fun y103 => ((some (y103.set (x5_1 : Int).toNat (⟨(kw y103 x5_1).f0,(kw y103 x5_1).f1,wrap64 ((wrap64 (x1_1 + 1)) + 1),(kw y103 x5_1).f3⟩ : S53) : List (S53))).bind fun y104 => (ww.l0 k1 (y104.set (x5_1 : Int).toNat (⟨(kw y104 x5_1).f0,(kw y104 x5_1).f1,(kw y104 x5_1).f2,wrap64 ((wrap64 ((wrap64 (x1_1 + 1)) + 1)) + 1)⟩ : S53)) (wrap64 ((wrap64 ((wrap64 ((wrap64 (x1_1 + 1)) + 1)) + 1)) + 1)) (wrap64 (x5_1 + 1))))) = some (r1,r2) := by first | (rw [hy102];with_reducible exact H) | (have H2_ := (Option.bind_some _ _).symm.trans H;rw [hy102];with_reducible exact H2_) | (have H2_ := (Option.bind_some _ _).symm.trans H;with_reducible exact H2_) | with_reducible exact H | (rw [hy102];exact H) | exact H
     have Ny102 := qq.mk hy102
     clear hy102
     obtain ⟨y103,hy103⟩ : ∃ y_ : List (S53),y_ = (y102.set (x5_1 : Int).toNat (⟨(kw y102 x5_1).f0,wrap64 (x1_1 + 1),(kw y102 x5_1).f2,(kw y102 x5_1).f3⟩ : S53)) := ⟨_,rfl⟩
     replace H : ((some (y103.set (x5_1 : Int).toNat (⟨(kw y103 x5_1).f0,(kw y103 x5_1).f1,wrap64 ((wrap64 (x1_1 + 1)) + 1),(kw y103 x5_1).f3⟩ : S53) : List (S53))).bind fun y104 => (ww.l0 k1 (y104.set (x5_1 : Int).toNat (⟨(kw y104 x5_1).f0,(kw y104 x5_1).f1,(kw y104 x5_1).f2,wrap64 ((wrap64 ((wrap64 (x1_1 + 1)) + 1)) + 1)⟩ : S53)) (wrap64 ((wrap64 ((wrap64 ((wrap64 (x1_1 + 1)) + 1)) + 1)) + 1)) (wrap64 (x5_1 + 1)))) = some (r1,r2) := by first | (rw [hy103];with_reducible exact H) | (have H2_ := (Option.bind_some _ _).symm.trans H;rw [hy103];with_reducible exact H2_) | (have H2_ := (Option.bind_some _ _).symm.trans H;with_reducible exact H2_) | with_reducible exact H | (rw [hy103];exact H) | exact H
     have Ny103 := qq.mk hy103
     clear hy103
     obtain ⟨y104,hy104⟩ : ∃ y_ : List (S53),y_ = (y103.set (x5_1 : Int).toNat (⟨(kw y103 x5_1).f0,(kw y103 x5_1).f1,wrap64 ((wrap64 (x1_1 + 1)) + 1),(kw y103 x5_1).f3⟩ : S53)) := ⟨_,rfl⟩
     replace H : (ww.l0 k1 (y104.set (x5_1 : Int).toNat (⟨(kw y104 x5_1).f0,(kw y104 x5_1).f1,(kw y104 x5_1).f2,wrap64 ((wrap64 ((wrap64 (x1_1 + 1)) + 1)) + 1)⟩ : S53)) (wrap64 ((wrap64 ((wrap64 ((wrap64 (x1_1 + 1)) + 1)) + 1)) + 1)) (wrap64 (x5_1 + 1))) = some (r1,r2) := by first | (rw [hy104];with_reducible exact H) | (have H2_ := (Option.bind_some _ _).symm.trans H;rw [hy104];with_reducible exact H2_) | (have H2_ := (Option.bind_some _ _).symm.trans H;with_reducible exact H2_) | with_reducible exact H | (rw [hy104];exact H) | exact H
     have Ny104 := qq.mk hy104
     clear hy104
     obtain ⟨y105,hy105⟩ : ∃ y_ : List (S53),y_ = (y104.set (x5_1 : Int).toNat (⟨(kw y104 x5_1).f0,(kw y104 x5_1).f1,(kw y104 x5_1).f2,wrap64 ((wrap64 ((wrap64 (x1_1 + 1)) + 1)) + 1)⟩ : S53)) := ⟨_,rfl⟩
     replace H : (ww.l0 k1 y105 (wrap64 ((wrap64 ((wrap64 ((wrap64 (x1_1 + 1)) + 1)) + 1)) + 1)) (wrap64 (x5_1 + 1))) = some (r1,r2) := by first | (rw [hy105];with_reducible exact H) | (have H2_ := (Option.bind_some _ _).symm.trans H;rw [hy105];with_reducible exact H2_) | (have H2_ := (Option.bind_some _ _).symm.trans H;with_reducible exact H2_) | with_reducible exact H | (rw [hy105];exact H) | exact H
     have Ny105 := qq.mk hy105
     clear hy105
     have H' := qq.mk H
     clear H
     obtain ⟨Ao10,co10,eo10⟩ := Kd.R_slice HO_0.out
     subst eo10
     go_wp2_with (first | ((with_reducible refine jv (f := 58) rfl ?_);refine goesL_ (some 15) rfl rfl Try.func58 (by kernel_rfl) rfl #[.int .i64 x1_1] rfl (by (try simp only [List.map_toArray,List.map_cons,List.map_nil]);first | done | rfl | (simp only [List.length_drop,List.length_take];rfl)) ?_;(with_reducible refine (wx.calls k1 x1_1 t101 _ A4.out).mono ?_);rintro e w11 ⟨rfl,hb⟩;refine ⟨_,rfl,?_⟩;have n0_ := qq.mk (Kd.R_below (by (with_reducible repeat (first | apply Kd.jq | apply Kd.zx | apply Kd.jz));exact HO_0.out) hb);have n1_ := qq.mk (kz.below (S := (fun k_ => P0_ k_)) (by repeat (first | (with_reducible first | exact HK.out | apply kz.alloc | apply kz.drewN | apply kz.drew) | exact HK.out)) hb);have n2_ := qq.mk (zv (by repeat (first | (with_reducible first | exact HB.out | apply qj | apply qz | apply qk) | exact HB.out)) hb);clear HO_0;clear HK;clear HB;have HO_0 := n0_;have HK := n1_;have HB := n2_;clear n0_ n1_ n2_;(try clear hb);(try clear hb2);(try clear hk);(try clear hi);have p6 : 0 ≤ (x5_1 : Int) := of_decide_eq_true (by assumption);have q6 : (x5_1 : Int) < ((x0_1.length : Int) : Int) := of_decide_eq_true (by assumption);obtain ⟨go6,co6,eo6,gb6,gl6,cl6,HG6⟩ := Kd.R_form HO_0.out (by omega);(first | cases eo6 | (injection eo6 with ea_ en_ ec_;(first | subst ea_ | (injection ea_ with ea_;subst ea_));subst ec_;clear en_));have GB6 := qq.mk gb6;have GG6 := qq.mk HG6;clear gb6 gl6 HG6;have HMgo6 := qq.mk (show (P0_ go6 ∨ w.heap.size ≤ go6) from (HO_0.out.1 _ rfl));obtain ⟨ce6,hcl6,hM6,hcc6,hfr6⟩ := Kd.R_elem HO_0.out z53 (x5_1 : Int) p6 q6;obtain rfl := k53_openM hM6;have hx6_0 : w11.cell? ⟨go6,(x5_1 : Int).toNat * 4,none⟩ = some (.string ((kw x0_1 x5_1).f0)) := hcc6 0 _ rfl;have hx6_1 : w11.cell? ⟨go6,(x5_1 : Int).toNat * 4 + 1,none⟩ = some (.int .i64 ((kw x0_1 x5_1).f1)) := hcc6 1 _ rfl;have hx6_2 : w11.cell? ⟨go6,(x5_1 : Int).toNat * 4 + 2,none⟩ = some (.int .i64 ((kw x0_1 x5_1).f2)) := hcc6 2 _ rfl;have hx6_3 : w11.cell? ⟨go6,(x5_1 : Int).toNat * 4 + 3,none⟩ = some (.int .i64 ((kw x0_1 x5_1).f3)) := hcc6 3 _ rfl;have hf6_0 : w11.frozen? ⟨go6,(x5_1 : Int).toNat * 4,none⟩ = false := hfr6 0;have hf6_1 : w11.frozen? ⟨go6,(x5_1 : Int).toNat * 4 + 1,none⟩ = false := hfr6 1;have hf6_2 : w11.frozen? ⟨go6,(x5_1 : Int).toNat * 4 + 2,none⟩ = false := hfr6 2;have hf6_3 : w11.frozen? ⟨go6,(x5_1 : Int).toNat * 4 + 3,none⟩ = false := hfr6 3;clear hcl6 hcc6 hfr6;(try clear hM6);replace p6 := eq_true p6;replace q6 := eq_true q6;have HX12 := qq.mk (show Kd.R k53 53 w11 w0.heap.size (fun k_ => (P0_ k_ ∨ w.heap.size ≤ k_)) (.slice (some ⟨go6,0,none⟩) x0_1.length co10) x0_1 from (by (with_reducible repeat (first | apply Kd.jq | apply Kd.zx | apply Kd.jz));exact HO_0.out));obtain ⟨ce12,hcl12,hM12,hcc12,hfr12⟩ := Kd.R_elem HX12.out z53 (x5_1 : Int) (of_decide_eq_true (by assumption)) (by have h_ : (x5_1 : Int) < ((x0_1.length : Int) : Int) := of_decide_eq_true (by assumption);first | exact h_ | (have e_ := (Kd.R_reads' HO_0.out).1;omega) | simpa using h_);obtain rfl := k53_openM hM12;have HP12 := Kd.R_seg HX12.out (x5_1 : Int) (of_decide_eq_true (by assumption)) (by have h_ : (x5_1 : Int) < ((x0_1.length : Int) : Int) := of_decide_eq_true (by assumption);first | exact h_ | (have e_ := (Kd.R_reads' HO_0.out).1;omega) | simpa using h_) (seg := [.string t101]) (j := 0) hcl12 hcc12 (show 1 ≤ 4 from by decide) (x' := (⟨t101,(kw x0_1 x5_1).f1,(kw x0_1 x5_1).f2,(kw x0_1 x5_1).f3⟩ : S53)) (k53_mkM _ _ _ (⟨t101,(kw x0_1 x5_1).f1,(kw x0_1 x5_1).f2,(kw x0_1 x5_1).f3⟩ : S53) ) (fun _ hk => hk);have hx12_0 := hcc12 0 _ rfl;(try simp only [show (k53).sz = 4 from rfl,Nat.mul_one,Nat.add_zero] at hx12_0);have hf12_0 := hfr12 0;(try simp only [show (k53).sz = 4 from rfl,Nat.mul_one,Nat.add_zero] at hf12_0);clear hcl12 hcc12 hfr12;(try clear hM12)) | ((with_reducible refine jw (t := 9) (p := 17) rfl ?_);refine jx (t := 9) (p := 17) (v := ?vo_w13) (w1 := (w11.setCell ⟨go6,(x5_1 : Int).toNat * 4,none⟩ (.string t101))) ?hg ?ho ?hn ?hr ?_;(case ho => rfl);(case hg => rfl);(case hn => rfl);(case hr => first | (go_simp;done) | (go_simp;rfl));intro w13 hw;have hg : w11.grownBy w13 (some go6) := (by rw [hw];exact HP12.2);have hp_ : Kd.R k53 53 w13 w0.heap.size (fun k_ => (P0_ k_ ∨ w.heap.size ≤ k_)) (.slice (some ⟨go6,0,none⟩) x0_1.length co10) y102 := (by rw [hw,Ny102.out];exact HP12.1);clear HP12;have n0_ := qq.mk (hp_);have n1_ := qq.mk ((by rw [hw];exact qx (HB.out) GB6.out : Below w0.heap.size w0 w13));have n2_ := qq.mk (kz.of_grown (S := (fun k_ => P0_ k_)) hg (by repeat (first | (with_reducible first | exact HK.out | apply kz.alloc | apply kz.drewN | apply kz.drew) | exact HK.out)) (fun k_ e_ => (HO_0.out.1 k_ e_)));clear HO_0;clear HB;clear HK;have HO_0 := n0_;have HB := n1_;have HK := n2_;clear n0_ n1_ n2_;clear hg hw hp_;have p7 : 0 ≤ (x5_1 : Int) := of_decide_eq_true (by assumption);have q7 : (x5_1 : Int) < ((x0_1.length : Int) : Int) := of_decide_eq_true (by assumption);obtain ⟨ce7,hcl7,hM7,hcc7,hfr7⟩ := Kd.R_elem HO_0.out z53 (x5_1 : Int) p7 q7;obtain rfl := k53_openM hM7;have hx7_0 : w13.cell? ⟨go6,(x5_1 : Int).toNat * 4,none⟩ = some (.string ((kw y102 x5_1).f0)) := hcc7 0 _ rfl;have hx7_1 : w13.cell? ⟨go6,(x5_1 : Int).toNat * 4 + 1,none⟩ = some (.int .i64 ((kw y102 x5_1).f1)) := hcc7 1 _ rfl;have hx7_2 : w13.cell? ⟨go6,(x5_1 : Int).toNat * 4 + 2,none⟩ = some (.int .i64 ((kw y102 x5_1).f2)) := hcc7 2 _ rfl;have hx7_3 : w13.cell? ⟨go6,(x5_1 : Int).toNat * 4 + 3,none⟩ = some (.int .i64 ((kw y102 x5_1).f3)) := hcc7 3 _ rfl;have hf7_0 : w13.frozen? ⟨go6,(x5_1 : Int).toNat * 4,none⟩ = false := hfr7 0;have hf7_1 : w13.frozen? ⟨go6,(x5_1 : Int).toNat * 4 + 1,none⟩ = false := hfr7 1;have hf7_2 : w13.frozen? ⟨go6,(x5_1 : Int).toNat * 4 + 2,none⟩ = false := hfr7 2;have hf7_3 : w13.frozen? ⟨go6,(x5_1 : Int).toNat * 4 + 3,none⟩ = false := hfr7 3;clear hcl7 hcc7 hfr7;(try clear hM7);replace p7 := eq_true p7;replace q7 := eq_true q7;have HX14 := qq.mk (show Kd.R k53 53 w13 w0.heap.size (fun k_ => (P0_ k_ ∨ w.heap.size ≤ k_)) (.slice (some ⟨go6,0,none⟩) x0_1.length co10) y102 from (by (with_reducible repeat (first | apply Kd.jq | apply Kd.zx | apply Kd.jz));exact HO_0.out));obtain ⟨ce14,hcl14,hM14,hcc14,hfr14⟩ := Kd.R_elem HX14.out z53 (x5_1 : Int) (of_decide_eq_true (by assumption)) (by have h_ : (x5_1 : Int) < ((x0_1.length : Int) : Int) := of_decide_eq_true (by assumption);first | exact h_ | (have e_ := (Kd.R_reads' HO_0.out).1;omega) | simpa using h_);obtain rfl := k53_openM hM14;have HP14 := Kd.R_seg HX14.out (x5_1 : Int) (of_decide_eq_true (by assumption)) (by have h_ : (x5_1 : Int) < ((x0_1.length : Int) : Int) := of_decide_eq_true (by assumption);first | exact h_ | (have e_ := (Kd.R_reads' HO_0.out).1;omega) | simpa using h_) (seg := [.int .i64 (wrap64 (x1_1 + 1))]) (j := 1) hcl14 hcc14 (show 2 ≤ 4 from by decide) (x' := (⟨(kw y102 x5_1).f0,wrap64 (x1_1 + 1),(kw y102 x5_1).f2,(kw y102 x5_1).f3⟩ : S53)) (k53_mkM _ _ _ (⟨(kw y102 x5_1).f0,wrap64 (x1_1 + 1),(kw y102 x5_1).f2,(kw y102 x5_1).f3⟩ : S53) ) (fun _ hk => hk);have hx14_1 := hcc14 1 _ rfl;(try simp only [show (k53).sz = 4 from rfl,Nat.mul_one,Nat.add_zero] at hx14_1);have hf14_1 := hfr14 1;(try simp only [show (k53).sz = 4 from rfl,Nat.mul_one,Nat.add_zero] at hf14_1);clear hcl14 hcc14 hfr14;(try clear hM14)) | ((with_reducible refine jw (t := 3) (p := 24) rfl ?_);refine jx (t := 3) (p := 24) (v := ?vo_w15) (w1 := (w13.setCell ⟨go6,(x5_1 : Int).toNat * 4 + 1,none⟩ (.int .i64 (wrap64 (x1_1 + 1))))) ?hg ?ho ?hn ?hr ?_;(case ho => rfl);(case hg => rfl);(case hn => rfl);(case hr => first | (go_simp;done) | (go_simp;rfl));intro w15 hw;have hg : w13.grownBy w15 (some go6) := (by rw [hw];exact HP14.2);have hp_ : Kd.R k53 53 w15 w0.heap.size (fun k_ => (P0_ k_ ∨ w.heap.size ≤ k_)) (.slice (some ⟨go6,0,none⟩) x0_1.length co10) y103 := (by rw [hw,Ny103.out];exact HP14.1);clear HP14;have n0_ := qq.mk (hp_);have n1_ := qq.mk ((by rw [hw];exact qx (HB.out) GB6.out : Below w0.heap.size w0 w15));have n2_ := qq.mk (kz.of_grown (S := (fun k_ => P0_ k_)) hg (by repeat (first | (with_reducible first | exact HK.out | apply kz.alloc | apply kz.drewN | apply kz.drew) | exact HK.out)) (fun k_ e_ => (HO_0.out.1 k_ e_)));clear HO_0;clear HB;clear HK;have HO_0 := n0_;have HB := n1_;have HK := n2_;clear n0_ n1_ n2_;clear hg hw hp_;have p8 : 0 ≤ (x5_1 : Int) := of_decide_eq_true (by assumption);have q8 : (x5_1 : Int) < ((x0_1.length : Int) : Int) := of_decide_eq_true (by assumption);obtain ⟨ce8,hcl8,hM8,hcc8,hfr8⟩ := Kd.R_elem HO_0.out z53 (x5_1 : Int) p8 q8;obtain rfl := k53_openM hM8;have hx8_0 : w15.cell? ⟨go6,(x5_1 : Int).toNat * 4,none⟩ = some (.string ((kw y103 x5_1).f0)) := hcc8 0 _ rfl;have hx8_1 : w15.cell? ⟨go6,(x5_1 : Int).toNat * 4 + 1,none⟩ = some (.int .i64 ((kw y103 x5_1).f1)) := hcc8 1 _ rfl;have hx8_2 : w15.cell? ⟨go6,(x5_1 : Int).toNat * 4 + 2,none⟩ = some (.int .i64 ((kw y103 x5_1).f2)) := hcc8 2 _ rfl;have hx8_3 : w15.cell? ⟨go6,(x5_1 : Int).toNat * 4 + 3,none⟩ = some (.int .i64 ((kw y103 x5_1).f3)) := hcc8 3 _ rfl;have hf8_0 : w15.frozen? ⟨go6,(x5_1 : Int).toNat * 4,none⟩ = false := hfr8 0;have hf8_1 : w15.frozen? ⟨go6,(x5_1 : Int).toNat * 4 + 1,none⟩ = false := hfr8 1;have hf8_2 : w15.frozen? ⟨go6,(x5_1 : Int).toNat * 4 + 2,none⟩ = false := hfr8 2;have hf8_3 : w15.frozen? ⟨go6,(x5_1 : Int).toNat * 4 + 3,none⟩ = false := hfr8 3;clear hcl8 hcc8 hfr8;(try clear hM8);replace p8 := eq_true p8;replace q8 := eq_true q8;have HX16 := qq.mk (show Kd.R k53 53 w15 w0.heap.size (fun k_ => (P0_ k_ ∨ w.heap.size ≤ k_)) (.slice (some ⟨go6,0,none⟩) x0_1.length co10) y103 from (by (with_reducible repeat (first | apply Kd.jq | apply Kd.zx | apply Kd.jz));exact HO_0.out));obtain ⟨ce16,hcl16,hM16,hcc16,hfr16⟩ := Kd.R_elem HX16.out z53 (x5_1 : Int) (of_decide_eq_true (by assumption)) (by have h_ : (x5_1 : Int) < ((x0_1.length : Int) : Int) := of_decide_eq_true (by assumption);first | exact h_ | (have e_ := (Kd.R_reads' HO_0.out).1;omega) | simpa using h_);obtain rfl := k53_openM hM16;have HP16 := Kd.R_seg HX16.out (x5_1 : Int) (of_decide_eq_true (by assumption)) (by have h_ : (x5_1 : Int) < ((x0_1.length : Int) : Int) := of_decide_eq_true (by assumption);first | exact h_ | (have e_ := (Kd.R_reads' HO_0.out).1;omega) | simpa using h_) (seg := [.int .i64 (wrap64 ((wrap64 (x1_1 + 1)) + 1))]) (j := 2) hcl16 hcc16 (show 3 ≤ 4 from by decide) (x' := (⟨(kw y103 x5_1).f0,(kw y103 x5_1).f1,wrap64 ((wrap64 (x1_1 + 1)) + 1),(kw y103 x5_1).f3⟩ : S53)) (k53_mkM _ _ _ (⟨(kw y103 x5_1).f0,(kw y103 x5_1).f1,wrap64 ((wrap64 (x1_1 + 1)) + 1),(kw y103 x5_1).f3⟩ : S53) ) (fun _ hk => hk);have hx16_2 := hcc16 2 _ rfl;(try simp only [show (k53).sz = 4 from rfl,Nat.mul_one,Nat.add_zero] at hx16_2);have hf16_2 := hfr16 2;(try simp only [show (k53).sz = 4 from rfl,Nat.mul_one,Nat.add_zero] at hf16_2);clear hcl16 hcc16 hfr16;(try clear hM16)) | ((with_reducible refine jw (t := 3) (p := 31) rfl ?_);refine jx (t := 3) (p := 31) (v := ?vo_w17) (w1 := (w15.setCell ⟨go6,(x5_1 : Int).toNat * 4 + 2,none⟩ (.int .i64 (wrap64 ((wrap64 (x1_1 + 1)) + 1))))) ?hg ?ho ?hn ?hr ?_;(case ho => rfl);(case hg => rfl);(case hn => rfl);(case hr => first | (go_simp;done) | (go_simp;rfl));intro w17 hw;have hg : w15.grownBy w17 (some go6) := (by rw [hw];exact HP16.2);have hp_ : Kd.R k53 53 w17 w0.heap.size (fun k_ => (P0_ k_ ∨ w.heap.size ≤ k_)) (.slice (some ⟨go6,0,none⟩) x0_1.length co10) y104 := (by rw [hw,Ny104.out];exact HP16.1);clear HP16;have n0_ := qq.mk (hp_);have n1_ := qq.mk ((by rw [hw];exact qx (HB.out) GB6.out : Below w0.heap.size w0 w17));have n2_ := qq.mk (kz.of_grown (S := (fun k_ => P0_ k_)) hg (by repeat (first | (with_reducible first | exact HK.out | apply kz.alloc | apply kz.drewN | apply kz.drew) | exact HK.out)) (fun k_ e_ => (HO_0.out.1 k_ e_)));clear HO_0;clear HB;clear HK;have HO_0 := n0_;have HB := n1_;have HK := n2_;clear n0_ n1_ n2_;clear hg hw hp_;have p9 : 0 ≤ (x5_1 : Int) := of_decide_eq_true (by assumption);have q9 : (x5_1 : Int) < ((x0_1.length : Int) : Int) := of_decide_eq_true (by assumption);obtain ⟨ce9,hcl9,hM9,hcc9,hfr9⟩ := Kd.R_elem HO_0.out z53 (x5_1 : Int) p9 q9;obtain rfl := k53_openM hM9;have hx9_0 : w17.cell? ⟨go6,(x5_1 : Int).toNat * 4,none⟩ = some (.string ((kw y104 x5_1).f0)) := hcc9 0 _ rfl;have hx9_1 : w17.cell? ⟨go6,(x5_1 : Int).toNat * 4 + 1,none⟩ = some (.int .i64 ((kw y104 x5_1).f1)) := hcc9 1 _ rfl;have hx9_2 : w17.cell? ⟨go6,(x5_1 : Int).toNat * 4 + 2,none⟩ = some (.int .i64 ((kw y104 x5_1).f2)) := hcc9 2 _ rfl;have hx9_3 : w17.cell? ⟨go6,(x5_1 : Int).toNat * 4 + 3,none⟩ = some (.int .i64 ((kw y104 x5_1).f3)) := hcc9 3 _ rfl;have hf9_0 : w17.frozen? ⟨go6,(x5_1 : Int).toNat * 4,none⟩ = false := hfr9 0;have hf9_1 : w17.frozen? ⟨go6,(x5_1 : Int).toNat * 4 + 1,none⟩ = false := hfr9 1;have hf9_2 : w17.frozen? ⟨go6,(x5_1 : Int).toNat * 4 + 2,none⟩ = false := hfr9 2;have hf9_3 : w17.frozen? ⟨go6,(x5_1 : Int).toNat * 4 + 3,none⟩ = false := hfr9 3;clear hcl9 hcc9 hfr9;(try clear hM9);replace p9 := eq_true p9;replace q9 := eq_true q9;have HX18 := qq.mk (show Kd.R k53 53 w17 w0.heap.size (fun k_ => (P0_ k_ ∨ w.heap.size ≤ k_)) (.slice (some ⟨go6,0,none⟩) x0_1.length co10) y104 from (by (with_reducible repeat (first | apply Kd.jq | apply Kd.zx | apply Kd.jz));exact HO_0.out));obtain ⟨ce18,hcl18,hM18,hcc18,hfr18⟩ := Kd.R_elem HX18.out z53 (x5_1 : Int) (of_decide_eq_true (by assumption)) (by have h_ : (x5_1 : Int) < ((x0_1.length : Int) : Int) := of_decide_eq_true (by assumption);first | exact h_ | (have e_ := (Kd.R_reads' HO_0.out).1;omega) | simpa using h_);obtain rfl := k53_openM hM18;have HP18 := Kd.R_seg HX18.out (x5_1 : Int) (of_decide_eq_true (by assumption)) (by have h_ : (x5_1 : Int) < ((x0_1.length : Int) : Int) := of_decide_eq_true (by assumption);first | exact h_ | (have e_ := (Kd.R_reads' HO_0.out).1;omega) | simpa using h_) (seg := [.int .i64 (wrap64 ((wrap64 ((wrap64 (x1_1 + 1)) + 1)) + 1))]) (j := 3) hcl18 hcc18 (show 4 ≤ 4 from by decide) (x' := (⟨(kw y104 x5_1).f0,(kw y104 x5_1).f1,(kw y104 x5_1).f2,wrap64 ((wrap64 ((wrap64 (x1_1 + 1)) + 1)) + 1)⟩ : S53)) (k53_mkM _ _ _ (⟨(kw y104 x5_1).f0,(kw y104 x5_1).f1,(kw y104 x5_1).f2,wrap64 ((wrap64 ((wrap64 (x1_1 + 1)) + 1)) + 1)⟩ : S53) ) (fun _ hk => hk);have hx18_3 := hcc18 3 _ rfl;(try simp only [show (k53).sz = 4 from rfl,Nat.mul_one,Nat.add_zero] at hx18_3);have hf18_3 := hfr18 3;(try simp only [show (k53).sz = 4 from rfl,Nat.mul_one,Nat.add_zero] at hf18_3);clear hcl18 hcc18 hfr18;(try clear hM18)) | ((with_reducible refine jw (t := 3) (p := 38) rfl ?_);refine jx (t := 3) (p := 38) (v := ?vo_w19) (w1 := (w17.setCell ⟨go6,(x5_1 : Int).toNat * 4 + 3,none⟩ (.int .i64 (wrap64 ((wrap64 ((wrap64 (x1_1 + 1)) + 1)) + 1))))) ?hg ?ho ?hn ?hr ?_;(case ho => rfl);(case hg => rfl);(case hn => rfl);(case hr => first | (go_simp;done) | (go_simp;rfl));intro w19 hw;have hg : w17.grownBy w19 (some go6) := (by rw [hw];exact HP18.2);have hp_ : Kd.R k53 53 w19 w0.heap.size (fun k_ => (P0_ k_ ∨ w.heap.size ≤ k_)) (.slice (some ⟨go6,0,none⟩) x0_1.length co10) y105 := (by rw [hw,Ny105.out];exact HP18.1);clear HP18;have n0_ := qq.mk (hp_);have n1_ := qq.mk ((by rw [hw];exact qx (HB.out) GB6.out : Below w0.heap.size w0 w19));have n2_ := qq.mk (kz.of_grown (S := (fun k_ => P0_ k_)) hg (by repeat (first | (with_reducible first | exact HK.out | apply kz.alloc | apply kz.drewN | apply kz.drew) | exact HK.out)) (fun k_ e_ => (HO_0.out.1 k_ e_)));clear HO_0;clear HB;clear HK;have HO_0 := n0_;have HB := n1_;have HK := n2_;clear n0_ n1_ n2_;clear hg hw hp_))
     go_roundg k1
     case measure => have := HK1.out;omega
     case rel => exact ⟨(y105),(wrap64 ((wrap64 ((wrap64 ((wrap64 (x1_1 + 1)) + 1)) + 1)) + 1)),(wrap64 (x5_1 + 1)),(by first | rfl | (simp;done) | (simp [*];done)),(by first | rfl | (simp;done) | (simp [*];done)),H',⟨by have := HK1.out;omega⟩,⟨by (with_reducible repeat (first | apply Kd.jq | apply Kd.zx | apply Kd.jz));exact HO_0.out⟩,⟨by repeat (first | (with_reducible first | exact HK.out | apply kz.alloc | apply kz.drewN | apply kz.drew) | exact HK.out)⟩,⟨by repeat (first | (with_reducible first | exact HB.out | apply qj | apply qz | apply qk) | exact HB.out)⟩⟩
    ·rw [if_neg c5] at H
     exact absurd H (by simp)
   ·rw [if_neg c3] at H
    have c3b0 : decide (x5_1 < (x0_1.length : Int)) = false := decide_eq_false c3
    clear c3
    simp only [Option.some.injEq,Prod.mk.injEq] at H
    obtain ⟨rfl,rfl⟩ := H
    obtain ⟨Ao20,co20,eo20⟩ := Kd.R_slice HO_0.out
    subst eo20
    go_wp2
    go_ret
    exact ⟨by first | rfl | (simp [*,jk,jj] <;> rfl),by (with_reducible repeat (first | apply Kd.jq | apply Kd.zx | apply Kd.jz));exact HO_0.out,by repeat (first | (with_reducible first | exact HB.out | apply qj | apply qz | apply qk) | exact HB.out),by repeat (first | (with_reducible first | exact HK.out | apply kz.alloc | apply kz.drewN | apply kz.drew) | exact HK.out)⟩
def wv.l0 : Nat → List (S53) → Int → Int → Option (Int)
 | 0,_,_,_ => none
 | k + 1,x0,x1,x5 => if x5 < (x0.length : Int) then (if 0 ≤ x5 then ((wx.f k x1).bind fun t102 => (if ((kw x0 x5).f0).toList = t102.toList then (if ((kw x0 x5).f1) = (wrap64 (x1 + 1)) then (if ((kw x0 x5).f2) = (wrap64 ((wrap64 (x1 + 1)) + 1)) then (if ((kw x0 x5).f3) = (wrap64 ((wrap64 ((wrap64 (x1 + 1)) + 1)) + 1)) then (wv.l0 k x0 (wrap64 ((wrap64 ((wrap64 ((wrap64 (x1 + 1)) + 1)) + 1)) + 1)) (wrap64 (x5 + 1))) else (some (-1))) else (some (-1))) else (some (-1))) else (some (-1)))) else (none)) else (some x1)
def wv.f (k : Nat) (l0 : List (S53)) (a1 : Int) : Option (Int) := wv.l0 k l0 a1 0
def wv.T4 : Bool × List (List Nat × List Nat) := (true,[([],[]),([],[]),([0,1],[0,1]),([2],[2]),([3],[3]),([],[]),([5],[5]),([4,6],[4,6])])
def wv.B4 : List Nat := [0,0,3,7,15,0,32,127]
theorem wv.tab4 : rtab .any (opsOf Try.f28 4) = wv.T4 := by kernel_rfl
theorem wv.bits4 : waitsOk wv.T4.2 wv.B4 = true := by kernel_rfl
set_option maxHeartbeats 8000000 in
set_option maxRecDepth 100000 in
theorem wv.calls (k : Nat) (A0 : Option Addr) (c0 : Nat) (l0 : List (S53)) (a1 : Int) (r : Int) (w : World) (hr0 : Kd.C k53 w A0 l0.length l0) (hc0 : l0.length ≤ c0) (h : wv.f k l0 a1 = some r) :
  Calls Try.prog 28 #[.slice A0 l0.length c0,.int .i64 a1] w fun e w' => e = .returned (.int .i64 r) ∧ Below w.heap.size w w' := by
 have HR0 := qq.mk hr0
 have HC0 := qq.mk hc0
 clear hr0 hc0
 have HB := qq.mk (Below.refl w.heap.size w)
 have H : (wv.l0 k l0 a1 0) = some r := h
 clear h
 have H' := qq.mk H
 clear H
 go_enter Try.func28,Try.ntmps28
 go_wp2
 go_loopg [1,5] k (fun kq v1 v5 w' => ∃ (x1_1 : Int) (x5_1 : Int),v1 = .int .i64 x1_1 ∧ v5 = .int .i64 x5_1 ∧ qq (wv.l0 kq l0 x1_1 x5_1 = some r) ∧ qq (kq ≤ k) ∧ qq (Below w.heap.size w w'))
 case atStart => exact ⟨(a1),(0),(by first | rfl | (simp;done) | (simp [*];done)),(by first | rfl | (simp;done) | (simp [*];done)),H',⟨Nat.le_refl _⟩,⟨by repeat (first | (with_reducible first | exact HB.out | apply qj | apply qz | apply qk) | exact HB.out)⟩⟩
 case round =>
  clear H'
  try clear c2
  try clear p2
  obtain ⟨x1_1,x5_1,rfl,rfl,HA,HK1,HB⟩ := hrel
  cases gk with
  | zero => exact absurd HA.out (by simp [wv.l0])
  | succ k1 =>
   have H := HA.out
   clear HA
   simp only [wv.l0] at H
   by_cases c3 : x5_1 < (l0.length : Int)
   ·rw [if_pos c3] at H
    have c3b0 : decide (x5_1 < (l0.length : Int)) = true := decide_eq_true c3
    clear c3
    by_cases c4 : 0 ≤ x5_1
    ·rw [if_pos c4] at H
     have c4b0 : decide (0 ≤ x5_1) = true := decide_eq_true c4
     clear c4
     replace H := Option.bind_eq_some_iff.mp H
     obtain ⟨t102,A50,H⟩ := H
     replace H : (if ((kw l0 x5_1).f0).toList = t102.toList then (if ((kw l0 x5_1).f1) = (wrap64 (x1_1 + 1)) then (if ((kw l0 x5_1).f2) = (wrap64 ((wrap64 (x1_1 + 1)) + 1)) then (if ((kw l0 x5_1).f3) = (wrap64 ((wrap64 ((wrap64 (x1_1 + 1)) + 1)) + 1)) then (wv.l0 k1 l0 (wrap64 ((wrap64 ((wrap64 ((wrap64 (x1_1 + 1)) + 1)) + 1)) + 1)) (wrap64 (x5_1 + 1))) else (some (-1))) else (some (-1))) else (some (-1))) else (some (-1))) = some r := H
     have A5 := qq.mk A50
     clear A50
     by_cases c6 : ((kw l0 x5_1).f0).toList = t102.toList
     ·rw [if_pos c6] at H
      have c6b0 : (((kw l0 x5_1).f0).toList == t102.toList) = true := beq_iff_eq.mpr c6
      have c6b1 : (((kw l0 x5_1).f0).toList != t102.toList) = false := bne_eq_false_iff_eq.mpr c6
      clear c6
      by_cases c7 : ((kw l0 x5_1).f1) = (wrap64 (x1_1 + 1))
      ·rw [if_pos c7] at H
       have c7b0 : (((kw l0 x5_1).f1) == (wrap64 (x1_1 + 1))) = true := beq_iff_eq.mpr c7
       have c7b1 : (((kw l0 x5_1).f1) != (wrap64 (x1_1 + 1))) = false := bne_eq_false_iff_eq.mpr c7
       clear c7
       by_cases c8 : ((kw l0 x5_1).f2) = (wrap64 ((wrap64 (x1_1 + 1)) + 1))
       ·rw [if_pos c8] at H
        have c8b0 : (((kw l0 x5_1).f2) == (wrap64 ((wrap64 (x1_1 + 1)) + 1))) = true := beq_iff_eq.mpr c8
        have c8b1 : (((kw l0 x5_1).f2) != (wrap64 ((wrap64 (x1_1 + 1)) + 1))) = false := bne_eq_false_iff_eq.mpr c8
        clear c8
        by_cases c9 : ((kw l0 x5_1).f3) = (wrap64 ((wrap64 ((wrap64 (x1_1 + 1)) + 1)) + 1))
        ·rw [if_pos c9] at H
         have c9b0 : (((kw l0 x5_1).f3) == (wrap64 ((wrap64 ((wrap64 (x1_1 + 1)) + 1)) + 1))) = true := beq_iff_eq.mpr c9
         have c9b1 : (((kw l0 x5_1).f3) != (wrap64 ((wrap64 ((wrap64 (x1_1 + 1)) + 1)) + 1))) = false := bne_eq_false_iff_eq.mpr c9
         clear c9
         have H' := qq.mk H
         clear H
         try go_wp2
         have n0_ := qq.mk (qk HB.out)
         clear HB
         have HB := n0_
         clear n0_
         have p101 : 0 ≤ (x5_1 : Int) := of_decide_eq_true (by assumption)
         have q101 : x5_1 < (l0.length : Int) := of_decide_eq_true (by assumption)
         obtain ⟨ad101,e101,hx101_0,hx101_1,hx101_2,hx101_3⟩ := at_T53 HR0.out x5_1 p101 q101
         have hw101_3 := hx101_3
         have hw101_2 := hx101_2
         have hw101_1 := hx101_1
         have hw101_0 := hx101_0
         cases e101
         replace hx101_0 := (HB.out.cell (World.block_lt_of_cell? w _ hx101_0)).trans hx101_0
         replace hx101_1 := (HB.out.cell (World.block_lt_of_cell? w _ hx101_1)).trans hx101_1
         replace hx101_2 := (HB.out.cell (World.block_lt_of_cell? w _ hx101_2)).trans hx101_2
         replace hx101_3 := (HB.out.cell (World.block_lt_of_cell? w _ hx101_3)).trans hx101_3
         replace p101 := eq_true p101
         replace q101 := eq_true q101
         refine start_ (n := 8) (S := fun w' => w'.cell? (ad101.add ((x5_1).toNat * 4)) = some (.string ((kw l0 x5_1).f0)) ∧ w'.cell? ⟨(ad101.add ((x5_1).toNat * 4)).block,(ad101.add ((x5_1).toNat * 4)).off + 1,none⟩ = some (.int .i64 ((kw l0 x5_1).f1)) ∧ w'.cell? ⟨(ad101.add ((x5_1).toNat * 4)).block,(ad101.add ((x5_1).toNat * 4)).off + 2,none⟩ = some (.int .i64 ((kw l0 x5_1).f2)) ∧ w'.cell? ⟨(ad101.add ((x5_1).toNat * 4)).block,(ad101.add ((x5_1).toNat * 4)).off + 3,none⟩ = some (.int .i64 ((kw l0 x5_1).f3))) (ds := []) #[false,false,false,false,false,false,false,false] (by kernel_rfl) rfl rfl ⟨((HB.out.cell (World.block_lt_of_cell? w _ hw101_0)).trans hw101_0),((HB.out.cell (World.block_lt_of_cell? w _ hw101_1)).trans hw101_1),((HB.out.cell (World.block_lt_of_cell? w _ hw101_2)).trans hw101_2),((HB.out.cell (World.block_lt_of_cell? w _ hw101_3)).trans hw101_3)⟩ (fun hHeld => ?_);refine with_tabW wv.tab4 wv.bits4 (fun HT_ HW_ => ?_)
         generalize wr.drew = w10 at HB hx101_0 hx101_1 hx101_2 hx101_3 hHeld ⊢
         refine pure_ (i := 0) (N := some 12) (v := ?_) (a' := ?_) #[true,false,false,false,false,false,false,false] rfl rfl (any_of HT_.out (by kernel_rfl)) (fun _ _ _ h => h) (Or.inl ⟨by rfl,?_⟩) ?_ ?_
         rotate_left
         ·intro w'
          go_simp
          with_reducible rfl
         rotate_left
         ·simp only [Act.put,List.setIfInBounds_toArray,List.set_cons_zero,List.set_cons_succ,i64_w,i32_w]
          rfl
         refine pure_ (i := 1) (N := some 13) (v := ?_) (a' := ?_) #[true,true,false,false,false,false,false,false] rfl rfl (any_of HT_.out (by kernel_rfl)) (fun _ _ _ h => h) (Or.inl ⟨by rfl,?_⟩) ?_ ?_
         rotate_left
         ·intro w'
          go_simp
          with_reducible rfl
         rotate_left
         ·simp only [Act.put,List.setIfInBounds_toArray,List.set_cons_zero,List.set_cons_succ,i64_w,i32_w]
          rfl
         refine pure_ (i := 2) (N := some 14) (v := ?_) (a' := ?_) #[true,true,true,false,false,false,false,false] rfl rfl (any_of HT_.out (by kernel_rfl)) (fun _ _ _ h => h) (Or.inl ⟨by rfl,?_⟩) ?_ ?_
         rotate_left
         ·intro w'
          go_simp
          with_reducible rfl
         rotate_left
         ·simp only [Act.put,List.setIfInBounds_toArray,List.set_cons_zero,List.set_cons_succ,i64_w,i32_w]
          rfl
         refine pure_ (i := 3) (N := some 15) (v := ?_) (a' := ?_) #[true,true,true,true,false,false,false,false] rfl rfl (any_of HT_.out (by kernel_rfl)) (fun _ _ _ h => h) (Or.inl ⟨by rfl,?_⟩) ?_ ?_
         rotate_left
         ·intro w'
          go_simp
          with_reducible rfl
         rotate_left
         ·simp only [Act.put,List.setIfInBounds_toArray,List.set_cons_zero,List.set_cons_succ,i64_w,i32_w]
          rfl
         refine pure_ (i := 5) (N := some 17) (v := ?_) (a' := ?_) #[true,true,true,true,false,true,false,false] rfl rfl (any_of HT_.out (by kernel_rfl)) (fun _ _ _ h => h) (Or.inl ⟨by rfl,?_⟩) ?_ ?_
         rotate_left
         ·intro w'
          go_simp
          with_reducible rfl
         rotate_left
         ·simp only [Act.put,List.setIfInBounds_toArray,List.set_cons_zero,List.set_cons_succ,i64_w,i32_w]
          rfl
         refine take_ (i := 4) (N := some 16) (v := ?_) (a' := ?_) #[true,true,true,true,true,true,false,false] rfl rfl (take_ofW HT_.out HW_.out (by kernel_rfl)) (fun _ _ _ h => h) (Or.inl ⟨by rfl,?_⟩) hHeld ?_ ?_
         rotate_left
         ·rintro w' ⟨s0,s1,s2,s3⟩
          go_simp
          with_reducible rfl
         rotate_left
         ·simp only [Act.put,List.setIfInBounds_toArray,List.set_cons_zero,List.set_cons_succ,i64_w,i32_w]
          rfl
         refine one_ (i := 6) (N := some 18) #[true,true,true,true,true,true,true,false] rfl rfl (one_of HT_.out (by kernel_rfl)) (by decide) (fun K hK => ?_)
         refine goes_ Try.func58 (by kernel_rfl) rfl #[.int .i64 x1_1] (by rfl) rfl rfl (by (try simp only [List.map_toArray,List.map_cons,List.map_nil]);first | done | rfl | (simp only [List.length_drop,List.length_take];rfl)) ?_
         with_reducible refine (wx.calls k1 x1_1 t102 _ A5.out).mono ?_
         rintro e w11 ⟨rfl,hb⟩
         refine ⟨_,rfl,?_⟩
         have n0_ := qq.mk (zv (by repeat (first | (with_reducible first | exact HB.out | apply qj | apply qz | apply qk) | exact HB.out)) hb)
         clear HB
         have HB := n0_
         clear n0_
         (try clear hb)
         (try clear hb2)
         (try clear hk)
         (try clear hi)
         refine hK.out _ _ ⟨((HB.out.cell (World.block_lt_of_cell? w _ hw101_0)).trans hw101_0),((HB.out.cell (World.block_lt_of_cell? w _ hw101_1)).trans hw101_1),((HB.out.cell (World.block_lt_of_cell? w _ hw101_2)).trans hw101_2),((HB.out.cell (World.block_lt_of_cell? w _ hw101_3)).trans hw101_3)⟩ (fun hHeld => ?_)
         clear hK K
         refine norm_ (a' := ?_) ?_ ?_
         rotate_left
         ·show Act.put _ (some 18) _ = _
          simp only [Act.put,List.setIfInBounds_toArray,List.set_cons_zero,List.set_cons_succ,i64_w,i32_w]
          rfl
         refine pure_ (i := 7) (N := some 19) (v := ?_) (a' := ?_) #[true,true,true,true,true,true,true,true] rfl rfl (any_of HT_.out (by kernel_rfl)) (fun _ _ _ h => h) (Or.inl ⟨by rfl,?_⟩) ?_ ?_
         rotate_left
         ·intro w'
          go_simp
          with_reducible rfl
         rotate_left
         ·simp only [Act.put,List.setIfInBounds_toArray,List.set_cons_zero,List.set_cons_succ,i64_w,i32_w]
          rfl
         refine done_ (done_of HT_.out (by kernel_rfl)) ?_
         have p103 : 0 ≤ (x5_1 : Int) := of_decide_eq_true (by assumption)
         have q103 : x5_1 < (l0.length : Int) := of_decide_eq_true (by assumption)
         obtain ⟨ad103,e103,hx103_0,hx103_1,hx103_2,hx103_3⟩ := at_T53 HR0.out x5_1 p103 q103
         obtain rfl : ad101 = ad103 := (by injection e103)
         replace hx103_0 := (HB.out.cell (World.block_lt_of_cell? w _ hx103_0)).trans hx103_0
         replace hx103_1 := (HB.out.cell (World.block_lt_of_cell? w _ hx103_1)).trans hx103_1
         replace hx103_2 := (HB.out.cell (World.block_lt_of_cell? w _ hx103_2)).trans hx103_2
         replace hx103_3 := (HB.out.cell (World.block_lt_of_cell? w _ hx103_3)).trans hx103_3
         replace p103 := eq_true p103
         replace q103 := eq_true q103
         have p104 : 0 ≤ (x5_1 : Int) := of_decide_eq_true (by assumption)
         have q104 : x5_1 < (l0.length : Int) := of_decide_eq_true (by assumption)
         obtain ⟨ad104,e104,hx104_0,hx104_1,hx104_2,hx104_3⟩ := at_T53 HR0.out x5_1 p104 q104
         obtain rfl : ad101 = ad104 := (by injection e104)
         replace hx104_0 := (HB.out.cell (World.block_lt_of_cell? w _ hx104_0)).trans hx104_0
         replace hx104_1 := (HB.out.cell (World.block_lt_of_cell? w _ hx104_1)).trans hx104_1
         replace hx104_2 := (HB.out.cell (World.block_lt_of_cell? w _ hx104_2)).trans hx104_2
         replace hx104_3 := (HB.out.cell (World.block_lt_of_cell? w _ hx104_3)).trans hx104_3
         replace p104 := eq_true p104
         replace q104 := eq_true q104
         have p105 : 0 ≤ (x5_1 : Int) := of_decide_eq_true (by assumption)
         have q105 : x5_1 < (l0.length : Int) := of_decide_eq_true (by assumption)
         obtain ⟨ad105,e105,hx105_0,hx105_1,hx105_2,hx105_3⟩ := at_T53 HR0.out x5_1 p105 q105
         obtain rfl : ad101 = ad105 := (by injection e105)
         replace hx105_0 := (HB.out.cell (World.block_lt_of_cell? w _ hx105_0)).trans hx105_0
         replace hx105_1 := (HB.out.cell (World.block_lt_of_cell? w _ hx105_1)).trans hx105_1
         replace hx105_2 := (HB.out.cell (World.block_lt_of_cell? w _ hx105_2)).trans hx105_2
         replace hx105_3 := (HB.out.cell (World.block_lt_of_cell? w _ hx105_3)).trans hx105_3
         replace p105 := eq_true p105
         replace q105 := eq_true q105
         try go_wp2
         go_roundg k1
         case measure => have := HK1.out;omega
         case rel => exact ⟨(wrap64 ((wrap64 ((wrap64 ((wrap64 (x1_1 + 1)) + 1)) + 1)) + 1)),(wrap64 (x5_1 + 1)),(by first | rfl | (simp;done) | (simp [*];done)),(by first | rfl | (simp;done) | (simp [*];done)),H',⟨by have := HK1.out;omega⟩,⟨by repeat (first | (with_reducible first | exact HB.out | apply qj | apply qz | apply qk) | exact HB.out)⟩⟩
        ·rw [if_neg c9] at H
         have c9b0 : (((kw l0 x5_1).f3) == (wrap64 ((wrap64 ((wrap64 (x1_1 + 1)) + 1)) + 1))) = false := beq_eq_false_iff_ne.mpr c9
         have c9b1 : (((kw l0 x5_1).f3) != (wrap64 ((wrap64 ((wrap64 (x1_1 + 1)) + 1)) + 1))) = true := bne_iff_ne.mpr c9
         obtain rfl := Option.some.inj H
         try go_wp2
         have n0_ := qq.mk (qk HB.out)
         clear HB
         have HB := n0_
         clear n0_
         have p101 : 0 ≤ (x5_1 : Int) := of_decide_eq_true (by assumption)
         have q101 : x5_1 < (l0.length : Int) := of_decide_eq_true (by assumption)
         obtain ⟨ad101,e101,hx101_0,hx101_1,hx101_2,hx101_3⟩ := at_T53 HR0.out x5_1 p101 q101
         have hw101_3 := hx101_3
         have hw101_2 := hx101_2
         have hw101_1 := hx101_1
         have hw101_0 := hx101_0
         cases e101
         replace hx101_0 := (HB.out.cell (World.block_lt_of_cell? w _ hx101_0)).trans hx101_0
         replace hx101_1 := (HB.out.cell (World.block_lt_of_cell? w _ hx101_1)).trans hx101_1
         replace hx101_2 := (HB.out.cell (World.block_lt_of_cell? w _ hx101_2)).trans hx101_2
         replace hx101_3 := (HB.out.cell (World.block_lt_of_cell? w _ hx101_3)).trans hx101_3
         replace p101 := eq_true p101
         replace q101 := eq_true q101
         refine start_ (n := 8) (S := fun w' => w'.cell? (ad101.add ((x5_1).toNat * 4)) = some (.string ((kw l0 x5_1).f0)) ∧ w'.cell? ⟨(ad101.add ((x5_1).toNat * 4)).block,(ad101.add ((x5_1).toNat * 4)).off + 1,none⟩ = some (.int .i64 ((kw l0 x5_1).f1)) ∧ w'.cell? ⟨(ad101.add ((x5_1).toNat * 4)).block,(ad101.add ((x5_1).toNat * 4)).off + 2,none⟩ = some (.int .i64 ((kw l0 x5_1).f2)) ∧ w'.cell? ⟨(ad101.add ((x5_1).toNat * 4)).block,(ad101.add ((x5_1).toNat * 4)).off + 3,none⟩ = some (.int .i64 ((kw l0 x5_1).f3))) (ds := []) #[false,false,false,false,false,false,false,false] (by kernel_rfl) rfl rfl ⟨((HB.out.cell (World.block_lt_of_cell? w _ hw101_0)).trans hw101_0),((HB.out.cell (World.block_lt_of_cell? w _ hw101_1)).trans hw101_1),((HB.out.cell (World.block_lt_of_cell? w _ hw101_2)).trans hw101_2),((HB.out.cell (World.block_lt_of_cell? w _ hw101_3)).trans hw101_3)⟩ (fun hHeld => ?_);refine with_tabW wv.tab4 wv.bits4 (fun HT_ HW_ => ?_)
         generalize wr.drew = w12 at HB hx101_0 hx101_1 hx101_2 hx101_3 hHeld ⊢
         refine pure_ (i := 0) (N := some 12) (v := ?_) (a' := ?_) #[true,false,false,false,false,false,false,false] rfl rfl (any_of HT_.out (by kernel_rfl)) (fun _ _ _ h => h) (Or.inl ⟨by rfl,?_⟩) ?_ ?_
         rotate_left
         ·intro w'
          go_simp
          with_reducible rfl
         rotate_left
         ·simp only [Act.put,List.setIfInBounds_toArray,List.set_cons_zero,List.set_cons_succ,i64_w,i32_w]
          rfl
         refine pure_ (i := 1) (N := some 13) (v := ?_) (a' := ?_) #[true,true,false,false,false,false,false,false] rfl rfl (any_of HT_.out (by kernel_rfl)) (fun _ _ _ h => h) (Or.inl ⟨by rfl,?_⟩) ?_ ?_
         rotate_left
         ·intro w'
          go_simp
          with_reducible rfl
         rotate_left
         ·simp only [Act.put,List.setIfInBounds_toArray,List.set_cons_zero,List.set_cons_succ,i64_w,i32_w]
          rfl
         refine pure_ (i := 2) (N := some 14) (v := ?_) (a' := ?_) #[true,true,true,false,false,false,false,false] rfl rfl (any_of HT_.out (by kernel_rfl)) (fun _ _ _ h => h) (Or.inl ⟨by rfl,?_⟩) ?_ ?_
         rotate_left
         ·intro w'
          go_simp
          with_reducible rfl
         rotate_left
         ·simp only [Act.put,List.setIfInBounds_toArray,List.set_cons_zero,List.set_cons_succ,i64_w,i32_w]
          rfl
         refine pure_ (i := 3) (N := some 15) (v := ?_) (a' := ?_) #[true,true,true,true,false,false,false,false] rfl rfl (any_of HT_.out (by kernel_rfl)) (fun _ _ _ h => h) (Or.inl ⟨by rfl,?_⟩) ?_ ?_
         rotate_left
         ·intro w'
          go_simp
          with_reducible rfl
         rotate_left
         ·simp only [Act.put,List.setIfInBounds_toArray,List.set_cons_zero,List.set_cons_succ,i64_w,i32_w]
          rfl
         refine pure_ (i := 5) (N := some 17) (v := ?_) (a' := ?_) #[true,true,true,true,false,true,false,false] rfl rfl (any_of HT_.out (by kernel_rfl)) (fun _ _ _ h => h) (Or.inl ⟨by rfl,?_⟩) ?_ ?_
         rotate_left
         ·intro w'
          go_simp
          with_reducible rfl
         rotate_left
         ·simp only [Act.put,List.setIfInBounds_toArray,List.set_cons_zero,List.set_cons_succ,i64_w,i32_w]
          rfl
         refine take_ (i := 4) (N := some 16) (v := ?_) (a' := ?_) #[true,true,true,true,true,true,false,false] rfl rfl (take_ofW HT_.out HW_.out (by kernel_rfl)) (fun _ _ _ h => h) (Or.inl ⟨by rfl,?_⟩) hHeld ?_ ?_
         rotate_left
         ·rintro w' ⟨s0,s1,s2,s3⟩
          go_simp
          with_reducible rfl
         rotate_left
         ·simp only [Act.put,List.setIfInBounds_toArray,List.set_cons_zero,List.set_cons_succ,i64_w,i32_w]
          rfl
         refine one_ (i := 6) (N := some 18) #[true,true,true,true,true,true,true,false] rfl rfl (one_of HT_.out (by kernel_rfl)) (by decide) (fun K hK => ?_)
         refine goes_ Try.func58 (by kernel_rfl) rfl #[.int .i64 x1_1] (by rfl) rfl rfl (by (try simp only [List.map_toArray,List.map_cons,List.map_nil]);first | done | rfl | (simp only [List.length_drop,List.length_take];rfl)) ?_
         with_reducible refine (wx.calls k1 x1_1 t102 _ A5.out).mono ?_
         rintro e w13 ⟨rfl,hb⟩
         refine ⟨_,rfl,?_⟩
         have n0_ := qq.mk (zv (by repeat (first | (with_reducible first | exact HB.out | apply qj | apply qz | apply qk) | exact HB.out)) hb)
         clear HB
         have HB := n0_
         clear n0_
         (try clear hb)
         (try clear hb2)
         (try clear hk)
         (try clear hi)
         refine hK.out _ _ ⟨((HB.out.cell (World.block_lt_of_cell? w _ hw101_0)).trans hw101_0),((HB.out.cell (World.block_lt_of_cell? w _ hw101_1)).trans hw101_1),((HB.out.cell (World.block_lt_of_cell? w _ hw101_2)).trans hw101_2),((HB.out.cell (World.block_lt_of_cell? w _ hw101_3)).trans hw101_3)⟩ (fun hHeld => ?_)
         clear hK K
         refine norm_ (a' := ?_) ?_ ?_
         rotate_left
         ·show Act.put _ (some 18) _ = _
          simp only [Act.put,List.setIfInBounds_toArray,List.set_cons_zero,List.set_cons_succ,i64_w,i32_w]
          rfl
         refine pure_ (i := 7) (N := some 19) (v := ?_) (a' := ?_) #[true,true,true,true,true,true,true,true] rfl rfl (any_of HT_.out (by kernel_rfl)) (fun _ _ _ h => h) (Or.inl ⟨by rfl,?_⟩) ?_ ?_
         rotate_left
         ·intro w'
          go_simp
          with_reducible rfl
         rotate_left
         ·simp only [Act.put,List.setIfInBounds_toArray,List.set_cons_zero,List.set_cons_succ,i64_w,i32_w]
          rfl
         refine done_ (done_of HT_.out (by kernel_rfl)) ?_
         have p103 : 0 ≤ (x5_1 : Int) := of_decide_eq_true (by assumption)
         have q103 : x5_1 < (l0.length : Int) := of_decide_eq_true (by assumption)
         obtain ⟨ad103,e103,hx103_0,hx103_1,hx103_2,hx103_3⟩ := at_T53 HR0.out x5_1 p103 q103
         obtain rfl : ad101 = ad103 := (by injection e103)
         replace hx103_0 := (HB.out.cell (World.block_lt_of_cell? w _ hx103_0)).trans hx103_0
         replace hx103_1 := (HB.out.cell (World.block_lt_of_cell? w _ hx103_1)).trans hx103_1
         replace hx103_2 := (HB.out.cell (World.block_lt_of_cell? w _ hx103_2)).trans hx103_2
         replace hx103_3 := (HB.out.cell (World.block_lt_of_cell? w _ hx103_3)).trans hx103_3
         replace p103 := eq_true p103
         replace q103 := eq_true q103
         have p104 : 0 ≤ (x5_1 : Int) := of_decide_eq_true (by assumption)
         have q104 : x5_1 < (l0.length : Int) := of_decide_eq_true (by assumption)
         obtain ⟨ad104,e104,hx104_0,hx104_1,hx104_2,hx104_3⟩ := at_T53 HR0.out x5_1 p104 q104
         obtain rfl : ad101 = ad104 := (by injection e104)
         replace hx104_0 := (HB.out.cell (World.block_lt_of_cell? w _ hx104_0)).trans hx104_0
         replace hx104_1 := (HB.out.cell (World.block_lt_of_cell? w _ hx104_1)).trans hx104_1
         replace hx104_2 := (HB.out.cell (World.block_lt_of_cell? w _ hx104_2)).trans hx104_2
         replace hx104_3 := (HB.out.cell (World.block_lt_of_cell? w _ hx104_3)).trans hx104_3
         replace p104 := eq_true p104
         replace q104 := eq_true q104
         have p105 : 0 ≤ (x5_1 : Int) := of_decide_eq_true (by assumption)
         have q105 : x5_1 < (l0.length : Int) := of_decide_eq_true (by assumption)
         obtain ⟨ad105,e105,hx105_0,hx105_1,hx105_2,hx105_3⟩ := at_T53 HR0.out x5_1 p105 q105
         obtain rfl : ad101 = ad105 := (by injection e105)
         replace hx105_0 := (HB.out.cell (World.block_lt_of_cell? w _ hx105_0)).trans hx105_0
         replace hx105_1 := (HB.out.cell (World.block_lt_of_cell? w _ hx105_1)).trans hx105_1
         replace hx105_2 := (HB.out.cell (World.block_lt_of_cell? w _ hx105_2)).trans hx105_2
         replace hx105_3 := (HB.out.cell (World.block_lt_of_cell? w _ hx105_3)).trans hx105_3
         replace p105 := eq_true p105
         replace q105 := eq_true q105
         try go_wp2
         go_ret
         exact ⟨by first | rfl | (simp [*,jk,jj] <;> rfl),by repeat (first | (with_reducible first | exact HB.out | apply qj | apply qz | apply qk) | exact HB.out)⟩
       ·rw [if_neg c8] at H
        have c8b0 : (((kw l0 x5_1).f2) == (wrap64 ((wrap64 (x1_1 + 1)) + 1))) = false := beq_eq_false_iff_ne.mpr c8
        have c8b1 : (((kw l0 x5_1).f2) != (wrap64 ((wrap64 (x1_1 + 1)) + 1))) = true := bne_iff_ne.mpr c8
        obtain rfl := Option.some.inj H
        try go_wp2
        have n0_ := qq.mk (qk HB.out)
        clear HB
        have HB := n0_
        clear n0_
        have p101 : 0 ≤ (x5_1 : Int) := of_decide_eq_true (by assumption)
        have q101 : x5_1 < (l0.length : Int) := of_decide_eq_true (by assumption)
        obtain ⟨ad101,e101,hx101_0,hx101_1,hx101_2,hx101_3⟩ := at_T53 HR0.out x5_1 p101 q101
        have hw101_3 := hx101_3
        have hw101_2 := hx101_2
        have hw101_1 := hx101_1
        have hw101_0 := hx101_0
        cases e101
        replace hx101_0 := (HB.out.cell (World.block_lt_of_cell? w _ hx101_0)).trans hx101_0
        replace hx101_1 := (HB.out.cell (World.block_lt_of_cell? w _ hx101_1)).trans hx101_1
        replace hx101_2 := (HB.out.cell (World.block_lt_of_cell? w _ hx101_2)).trans hx101_2
        replace hx101_3 := (HB.out.cell (World.block_lt_of_cell? w _ hx101_3)).trans hx101_3
        replace p101 := eq_true p101
        replace q101 := eq_true q101
        refine start_ (n := 8) (S := fun w' => w'.cell? (ad101.add ((x5_1).toNat * 4)) = some (.string ((kw l0 x5_1).f0)) ∧ w'.cell? ⟨(ad101.add ((x5_1).toNat * 4)).block,(ad101.add ((x5_1).toNat * 4)).off + 1,none⟩ = some (.int .i64 ((kw l0 x5_1).f1)) ∧ w'.cell? ⟨(ad101.add ((x5_1).toNat * 4)).block,(ad101.add ((x5_1).toNat * 4)).off + 2,none⟩ = some (.int .i64 ((kw l0 x5_1).f2)) ∧ w'.cell? ⟨(ad101.add ((x5_1).toNat * 4)).block,(ad101.add ((x5_1).toNat * 4)).off + 3,none⟩ = some (.int .i64 ((kw l0 x5_1).f3))) (ds := []) #[false,false,false,false,false,false,false,false] (by kernel_rfl) rfl rfl ⟨((HB.out.cell (World.block_lt_of_cell? w _ hw101_0)).trans hw101_0),((HB.out.cell (World.block_lt_of_cell? w _ hw101_1)).trans hw101_1),((HB.out.cell (World.block_lt_of_cell? w _ hw101_2)).trans hw101_2),((HB.out.cell (World.block_lt_of_cell? w _ hw101_3)).trans hw101_3)⟩ (fun hHeld => ?_);refine with_tabW wv.tab4 wv.bits4 (fun HT_ HW_ => ?_)
        generalize wr.drew = w14 at HB hx101_0 hx101_1 hx101_2 hx101_3 hHeld ⊢
        refine pure_ (i := 0) (N := some 12) (v := ?_) (a' := ?_) #[true,false,false,false,false,false,false,false] rfl rfl (any_of HT_.out (by kernel_rfl)) (fun _ _ _ h => h) (Or.inl ⟨by rfl,?_⟩) ?_ ?_
        rotate_left
        ·intro w'
         go_simp
         with_reducible rfl
        rotate_left
        ·simp only [Act.put,List.setIfInBounds_toArray,List.set_cons_zero,List.set_cons_succ,i64_w,i32_w]
         rfl
        refine pure_ (i := 1) (N := some 13) (v := ?_) (a' := ?_) #[true,true,false,false,false,false,false,false] rfl rfl (any_of HT_.out (by kernel_rfl)) (fun _ _ _ h => h) (Or.inl ⟨by rfl,?_⟩) ?_ ?_
        rotate_left
        ·intro w'
         go_simp
         with_reducible rfl
        rotate_left
        ·simp only [Act.put,List.setIfInBounds_toArray,List.set_cons_zero,List.set_cons_succ,i64_w,i32_w]
         rfl
        refine pure_ (i := 2) (N := some 14) (v := ?_) (a' := ?_) #[true,true,true,false,false,false,false,false] rfl rfl (any_of HT_.out (by kernel_rfl)) (fun _ _ _ h => h) (Or.inl ⟨by rfl,?_⟩) ?_ ?_
        rotate_left
        ·intro w'
         go_simp
         with_reducible rfl
        rotate_left
        ·simp only [Act.put,List.setIfInBounds_toArray,List.set_cons_zero,List.set_cons_succ,i64_w,i32_w]
         rfl
        refine pure_ (i := 3) (N := some 15) (v := ?_) (a' := ?_) #[true,true,true,true,false,false,false,false] rfl rfl (any_of HT_.out (by kernel_rfl)) (fun _ _ _ h => h) (Or.inl ⟨by rfl,?_⟩) ?_ ?_
        rotate_left
        ·intro w'
         go_simp
         with_reducible rfl
        rotate_left
        ·simp only [Act.put,List.setIfInBounds_toArray,List.set_cons_zero,List.set_cons_succ,i64_w,i32_w]
         rfl
        refine pure_ (i := 5) (N := some 17) (v := ?_) (a' := ?_) #[true,true,true,true,false,true,false,false] rfl rfl (any_of HT_.out (by kernel_rfl)) (fun _ _ _ h => h) (Or.inl ⟨by rfl,?_⟩) ?_ ?_
        rotate_left
        ·intro w'
         go_simp
         with_reducible rfl
        rotate_left
        ·simp only [Act.put,List.setIfInBounds_toArray,List.set_cons_zero,List.set_cons_succ,i64_w,i32_w]
         rfl
        refine take_ (i := 4) (N := some 16) (v := ?_) (a' := ?_) #[true,true,true,true,true,true,false,false] rfl rfl (take_ofW HT_.out HW_.out (by kernel_rfl)) (fun _ _ _ h => h) (Or.inl ⟨by rfl,?_⟩) hHeld ?_ ?_
        rotate_left
        ·rintro w' ⟨s0,s1,s2,s3⟩
         go_simp
         with_reducible rfl
        rotate_left
        ·simp only [Act.put,List.setIfInBounds_toArray,List.set_cons_zero,List.set_cons_succ,i64_w,i32_w]
         rfl
        refine one_ (i := 6) (N := some 18) #[true,true,true,true,true,true,true,false] rfl rfl (one_of HT_.out (by kernel_rfl)) (by decide) (fun K hK => ?_)
        refine goes_ Try.func58 (by kernel_rfl) rfl #[.int .i64 x1_1] (by rfl) rfl rfl (by (try simp only [List.map_toArray,List.map_cons,List.map_nil]);first | done | rfl | (simp only [List.length_drop,List.length_take];rfl)) ?_
        with_reducible refine (wx.calls k1 x1_1 t102 _ A5.out).mono ?_
        rintro e w15 ⟨rfl,hb⟩
        refine ⟨_,rfl,?_⟩
        have n0_ := qq.mk (zv (by repeat (first | (with_reducible first | exact HB.out | apply qj | apply qz | apply qk) | exact HB.out)) hb)
        clear HB
        have HB := n0_
        clear n0_
        (try clear hb)
        (try clear hb2)
        (try clear hk)
        (try clear hi)
        refine hK.out _ _ ⟨((HB.out.cell (World.block_lt_of_cell? w _ hw101_0)).trans hw101_0),((HB.out.cell (World.block_lt_of_cell? w _ hw101_1)).trans hw101_1),((HB.out.cell (World.block_lt_of_cell? w _ hw101_2)).trans hw101_2),((HB.out.cell (World.block_lt_of_cell? w _ hw101_3)).trans hw101_3)⟩ (fun hHeld => ?_)
        clear hK K
        refine norm_ (a' := ?_) ?_ ?_
        rotate_left
        ·show Act.put _ (some 18) _ = _
         simp only [Act.put,List.setIfInBounds_toArray,List.set_cons_zero,List.set_cons_succ,i64_w,i32_w]
         rfl
        refine pure_ (i := 7) (N := some 19) (v := ?_) (a' := ?_) #[true,true,true,true,true,true,true,true] rfl rfl (any_of HT_.out (by kernel_rfl)) (fun _ _ _ h => h) (Or.inl ⟨by rfl,?_⟩) ?_ ?_
        rotate_left
        ·intro w'
         go_simp
         with_reducible rfl
        rotate_left
        ·simp only [Act.put,List.setIfInBounds_toArray,List.set_cons_zero,List.set_cons_succ,i64_w,i32_w]
         rfl
        refine done_ (done_of HT_.out (by kernel_rfl)) ?_
        have p103 : 0 ≤ (x5_1 : Int) := of_decide_eq_true (by assumption)
        have q103 : x5_1 < (l0.length : Int) := of_decide_eq_true (by assumption)
        obtain ⟨ad103,e103,hx103_0,hx103_1,hx103_2,hx103_3⟩ := at_T53 HR0.out x5_1 p103 q103
        obtain rfl : ad101 = ad103 := (by injection e103)
        replace hx103_0 := (HB.out.cell (World.block_lt_of_cell? w _ hx103_0)).trans hx103_0
        replace hx103_1 := (HB.out.cell (World.block_lt_of_cell? w _ hx103_1)).trans hx103_1
        replace hx103_2 := (HB.out.cell (World.block_lt_of_cell? w _ hx103_2)).trans hx103_2
        replace hx103_3 := (HB.out.cell (World.block_lt_of_cell? w _ hx103_3)).trans hx103_3
        replace p103 := eq_true p103
        replace q103 := eq_true q103
        have p104 : 0 ≤ (x5_1 : Int) := of_decide_eq_true (by assumption)
        have q104 : x5_1 < (l0.length : Int) := of_decide_eq_true (by assumption)
        obtain ⟨ad104,e104,hx104_0,hx104_1,hx104_2,hx104_3⟩ := at_T53 HR0.out x5_1 p104 q104
        obtain rfl : ad101 = ad104 := (by injection e104)
        replace hx104_0 := (HB.out.cell (World.block_lt_of_cell? w _ hx104_0)).trans hx104_0
        replace hx104_1 := (HB.out.cell (World.block_lt_of_cell? w _ hx104_1)).trans hx104_1
        replace hx104_2 := (HB.out.cell (World.block_lt_of_cell? w _ hx104_2)).trans hx104_2
        replace hx104_3 := (HB.out.cell (World.block_lt_of_cell? w _ hx104_3)).trans hx104_3
        replace p104 := eq_true p104
        replace q104 := eq_true q104
        try go_wp2
        go_ret
        exact ⟨by first | rfl | (simp [*,jk,jj] <;> rfl),by repeat (first | (with_reducible first | exact HB.out | apply qj | apply qz | apply qk) | exact HB.out)⟩
      ·rw [if_neg c7] at H
       have c7b0 : (((kw l0 x5_1).f1) == (wrap64 (x1_1 + 1))) = false := beq_eq_false_iff_ne.mpr c7
       have c7b1 : (((kw l0 x5_1).f1) != (wrap64 (x1_1 + 1))) = true := bne_iff_ne.mpr c7
       obtain rfl := Option.some.inj H
       try go_wp2
       have n0_ := qq.mk (qk HB.out)
       clear HB
       have HB := n0_
       clear n0_
       have p101 : 0 ≤ (x5_1 : Int) := of_decide_eq_true (by assumption)
       have q101 : x5_1 < (l0.length : Int) := of_decide_eq_true (by assumption)
       obtain ⟨ad101,e101,hx101_0,hx101_1,hx101_2,hx101_3⟩ := at_T53 HR0.out x5_1 p101 q101
       have hw101_3 := hx101_3
       have hw101_2 := hx101_2
       have hw101_1 := hx101_1
       have hw101_0 := hx101_0
       cases e101
       replace hx101_0 := (HB.out.cell (World.block_lt_of_cell? w _ hx101_0)).trans hx101_0
       replace hx101_1 := (HB.out.cell (World.block_lt_of_cell? w _ hx101_1)).trans hx101_1
       replace hx101_2 := (HB.out.cell (World.block_lt_of_cell? w _ hx101_2)).trans hx101_2
       replace hx101_3 := (HB.out.cell (World.block_lt_of_cell? w _ hx101_3)).trans hx101_3
       replace p101 := eq_true p101
       replace q101 := eq_true q101
       refine start_ (n := 8) (S := fun w' => w'.cell? (ad101.add ((x5_1).toNat * 4)) = some (.string ((kw l0 x5_1).f0)) ∧ w'.cell? ⟨(ad101.add ((x5_1).toNat * 4)).block,(ad101.add ((x5_1).toNat * 4)).off + 1,none⟩ = some (.int .i64 ((kw l0 x5_1).f1)) ∧ w'.cell? ⟨(ad101.add ((x5_1).toNat * 4)).block,(ad101.add ((x5_1).toNat * 4)).off + 2,none⟩ = some (.int .i64 ((kw l0 x5_1).f2)) ∧ w'.cell? ⟨(ad101.add ((x5_1).toNat * 4)).block,(ad101.add ((x5_1).toNat * 4)).off + 3,none⟩ = some (.int .i64 ((kw l0 x5_1).f3))) (ds := []) #[false,false,false,false,false,false,false,false] (by kernel_rfl) rfl rfl ⟨((HB.out.cell (World.block_lt_of_cell? w _ hw101_0)).trans hw101_0),((HB.out.cell (World.block_lt_of_cell? w _ hw101_1)).trans hw101_1),((HB.out.cell (World.block_lt_of_cell? w _ hw101_2)).trans hw101_2),((HB.out.cell (World.block_lt_of_cell? w _ hw101_3)).trans hw101_3)⟩ (fun hHeld => ?_);refine with_tabW wv.tab4 wv.bits4 (fun HT_ HW_ => ?_)
       generalize wr.drew = w16 at HB hx101_0 hx101_1 hx101_2 hx101_3 hHeld ⊢
       refine pure_ (i := 0) (N := some 12) (v := ?_) (a' := ?_) #[true,false,false,false,false,false,false,false] rfl rfl (any_of HT_.out (by kernel_rfl)) (fun _ _ _ h => h) (Or.inl ⟨by rfl,?_⟩) ?_ ?_
       rotate_left
       ·intro w'
        go_simp
        with_reducible rfl
       rotate_left
       ·simp only [Act.put,List.setIfInBounds_toArray,List.set_cons_zero,List.set_cons_succ,i64_w,i32_w]
        rfl
       refine pure_ (i := 1) (N := some 13) (v := ?_) (a' := ?_) #[true,true,false,false,false,false,false,false] rfl rfl (any_of HT_.out (by kernel_rfl)) (fun _ _ _ h => h) (Or.inl ⟨by rfl,?_⟩) ?_ ?_
       rotate_left
       ·intro w'
        go_simp
        with_reducible rfl
       rotate_left
       ·simp only [Act.put,List.setIfInBounds_toArray,List.set_cons_zero,List.set_cons_succ,i64_w,i32_w]
        rfl
       refine pure_ (i := 2) (N := some 14) (v := ?_) (a' := ?_) #[true,true,true,false,false,false,false,false] rfl rfl (any_of HT_.out (by kernel_rfl)) (fun _ _ _ h => h) (Or.inl ⟨by rfl,?_⟩) ?_ ?_
       rotate_left
       ·intro w'
        go_simp
        with_reducible rfl
       rotate_left
       ·simp only [Act.put,List.setIfInBounds_toArray,List.set_cons_zero,List.set_cons_succ,i64_w,i32_w]
        rfl
       refine pure_ (i := 3) (N := some 15) (v := ?_) (a' := ?_) #[true,true,true,true,false,false,false,false] rfl rfl (any_of HT_.out (by kernel_rfl)) (fun _ _ _ h => h) (Or.inl ⟨by rfl,?_⟩) ?_ ?_
       rotate_left
       ·intro w'
        go_simp
        with_reducible rfl
       rotate_left
       ·simp only [Act.put,List.setIfInBounds_toArray,List.set_cons_zero,List.set_cons_succ,i64_w,i32_w]
        rfl
       refine pure_ (i := 5) (N := some 17) (v := ?_) (a' := ?_) #[true,true,true,true,false,true,false,false] rfl rfl (any_of HT_.out (by kernel_rfl)) (fun _ _ _ h => h) (Or.inl ⟨by rfl,?_⟩) ?_ ?_
       rotate_left
       ·intro w'
        go_simp
        with_reducible rfl
       rotate_left
       ·simp only [Act.put,List.setIfInBounds_toArray,List.set_cons_zero,List.set_cons_succ,i64_w,i32_w]
        rfl
       refine take_ (i := 4) (N := some 16) (v := ?_) (a' := ?_) #[true,true,true,true,true,true,false,false] rfl rfl (take_ofW HT_.out HW_.out (by kernel_rfl)) (fun _ _ _ h => h) (Or.inl ⟨by rfl,?_⟩) hHeld ?_ ?_
       rotate_left
       ·rintro w' ⟨s0,s1,s2,s3⟩
        go_simp
        with_reducible rfl
       rotate_left
       ·simp only [Act.put,List.setIfInBounds_toArray,List.set_cons_zero,List.set_cons_succ,i64_w,i32_w]
        rfl
       refine one_ (i := 6) (N := some 18) #[true,true,true,true,true,true,true,false] rfl rfl (one_of HT_.out (by kernel_rfl)) (by decide) (fun K hK => ?_)
       refine goes_ Try.func58 (by kernel_rfl) rfl #[.int .i64 x1_1] (by rfl) rfl rfl (by (try simp only [List.map_toArray,List.map_cons,List.map_nil]);first | done | rfl | (simp only [List.length_drop,List.length_take];rfl)) ?_
       with_reducible refine (wx.calls k1 x1_1 t102 _ A5.out).mono ?_
       rintro e w17 ⟨rfl,hb⟩
       refine ⟨_,rfl,?_⟩
       have n0_ := qq.mk (zv (by repeat (first | (with_reducible first | exact HB.out | apply qj | apply qz | apply qk) | exact HB.out)) hb)
       clear HB
       have HB := n0_
       clear n0_
       (try clear hb)
       (try clear hb2)
       (try clear hk)
       (try clear hi)
       refine hK.out _ _ ⟨((HB.out.cell (World.block_lt_of_cell? w _ hw101_0)).trans hw101_0),((HB.out.cell (World.block_lt_of_cell? w _ hw101_1)).trans hw101_1),((HB.out.cell (World.block_lt_of_cell? w _ hw101_2)).trans hw101_2),((HB.out.cell (World.block_lt_of_cell? w _ hw101_3)).trans hw101_3)⟩ (fun hHeld => ?_)
       clear hK K
       refine norm_ (a' := ?_) ?_ ?_
       rotate_left
       ·show Act.put _ (some 18) _ = _
        simp only [Act.put,List.setIfInBounds_toArray,List.set_cons_zero,List.set_cons_succ,i64_w,i32_w]
        rfl
       refine pure_ (i := 7) (N := some 19) (v := ?_) (a' := ?_) #[true,true,true,true,true,true,true,true] rfl rfl (any_of HT_.out (by kernel_rfl)) (fun _ _ _ h => h) (Or.inl ⟨by rfl,?_⟩) ?_ ?_
       rotate_left
       ·intro w'
        go_simp
        with_reducible rfl
       rotate_left
       ·simp only [Act.put,List.setIfInBounds_toArray,List.set_cons_zero,List.set_cons_succ,i64_w,i32_w]
        rfl
       refine done_ (done_of HT_.out (by kernel_rfl)) ?_
       have p103 : 0 ≤ (x5_1 : Int) := of_decide_eq_true (by assumption)
       have q103 : x5_1 < (l0.length : Int) := of_decide_eq_true (by assumption)
       obtain ⟨ad103,e103,hx103_0,hx103_1,hx103_2,hx103_3⟩ := at_T53 HR0.out x5_1 p103 q103
       obtain rfl : ad101 = ad103 := (by injection e103)
       replace hx103_0 := (HB.out.cell (World.block_lt_of_cell? w _ hx103_0)).trans hx103_0
       replace hx103_1 := (HB.out.cell (World.block_lt_of_cell? w _ hx103_1)).trans hx103_1
       replace hx103_2 := (HB.out.cell (World.block_lt_of_cell? w _ hx103_2)).trans hx103_2
       replace hx103_3 := (HB.out.cell (World.block_lt_of_cell? w _ hx103_3)).trans hx103_3
       replace p103 := eq_true p103
       replace q103 := eq_true q103
       try go_wp2
       go_ret
       exact ⟨by first | rfl | (simp [*,jk,jj] <;> rfl),by repeat (first | (with_reducible first | exact HB.out | apply qj | apply qz | apply qk) | exact HB.out)⟩
     ·rw [if_neg c6] at H
      have c6b0 : (((kw l0 x5_1).f0).toList == t102.toList) = false := beq_eq_false_iff_ne.mpr c6
      have c6b1 : (((kw l0 x5_1).f0).toList != t102.toList) = true := bne_iff_ne.mpr c6
      obtain rfl := Option.some.inj H
      try go_wp2
      have n0_ := qq.mk (qk HB.out)
      clear HB
      have HB := n0_
      clear n0_
      have p101 : 0 ≤ (x5_1 : Int) := of_decide_eq_true (by assumption)
      have q101 : x5_1 < (l0.length : Int) := of_decide_eq_true (by assumption)
      obtain ⟨ad101,e101,hx101_0,hx101_1,hx101_2,hx101_3⟩ := at_T53 HR0.out x5_1 p101 q101
      have hw101_3 := hx101_3
      have hw101_2 := hx101_2
      have hw101_1 := hx101_1
      have hw101_0 := hx101_0
      cases e101
      replace hx101_0 := (HB.out.cell (World.block_lt_of_cell? w _ hx101_0)).trans hx101_0
      replace hx101_1 := (HB.out.cell (World.block_lt_of_cell? w _ hx101_1)).trans hx101_1
      replace hx101_2 := (HB.out.cell (World.block_lt_of_cell? w _ hx101_2)).trans hx101_2
      replace hx101_3 := (HB.out.cell (World.block_lt_of_cell? w _ hx101_3)).trans hx101_3
      replace p101 := eq_true p101
      replace q101 := eq_true q101
      refine start_ (n := 8) (S := fun w' => w'.cell? (ad101.add ((x5_1).toNat * 4)) = some (.string ((kw l0 x5_1).f0)) ∧ w'.cell? ⟨(ad101.add ((x5_1).toNat * 4)).block,(ad101.add ((x5_1).toNat * 4)).off + 1,none⟩ = some (.int .i64 ((kw l0 x5_1).f1)) ∧ w'.cell? ⟨(ad101.add ((x5_1).toNat * 4)).block,(ad101.add ((x5_1).toNat * 4)).off + 2,none⟩ = some (.int .i64 ((kw l0 x5_1).f2)) ∧ w'.cell? ⟨(ad101.add ((x5_1).toNat * 4)).block,(ad101.add ((x5_1).toNat * 4)).off + 3,none⟩ = some (.int .i64 ((kw l0 x5_1).f3))) (ds := []) #[false,false,false,false,false,false,false,false] (by kernel_rfl) rfl rfl ⟨((HB.out.cell (World.block_lt_of_cell? w _ hw101_0)).trans hw101_0),((HB.out.cell (World.block_lt_of_cell? w _ hw101_1)).trans hw101_1),((HB.out.cell (World.block_lt_of_cell? w _ hw101_2)).trans hw101_2),((HB.out.cell (World.block_lt_of_cell? w _ hw101_3)).trans hw101_3)⟩ (fun hHeld => ?_);refine with_tabW wv.tab4 wv.bits4 (fun HT_ HW_ => ?_)
      generalize wr.drew = w18 at HB hx101_0 hx101_1 hx101_2 hx101_3 hHeld ⊢
      refine pure_ (i := 0) (N := some 12) (v := ?_) (a' := ?_) #[true,false,false,false,false,false,false,false] rfl rfl (any_of HT_.out (by kernel_rfl)) (fun _ _ _ h => h) (Or.inl ⟨by rfl,?_⟩) ?_ ?_
      rotate_left
      ·intro w'
       go_simp
       with_reducible rfl
      rotate_left
      ·simp only [Act.put,List.setIfInBounds_toArray,List.set_cons_zero,List.set_cons_succ,i64_w,i32_w]
       rfl
      refine pure_ (i := 1) (N := some 13) (v := ?_) (a' := ?_) #[true,true,false,false,false,false,false,false] rfl rfl (any_of HT_.out (by kernel_rfl)) (fun _ _ _ h => h) (Or.inl ⟨by rfl,?_⟩) ?_ ?_
      rotate_left
      ·intro w'
       go_simp
       with_reducible rfl
      rotate_left
      ·simp only [Act.put,List.setIfInBounds_toArray,List.set_cons_zero,List.set_cons_succ,i64_w,i32_w]
       rfl
      refine pure_ (i := 2) (N := some 14) (v := ?_) (a' := ?_) #[true,true,true,false,false,false,false,false] rfl rfl (any_of HT_.out (by kernel_rfl)) (fun _ _ _ h => h) (Or.inl ⟨by rfl,?_⟩) ?_ ?_
      rotate_left
      ·intro w'
       go_simp
       with_reducible rfl
      rotate_left
      ·simp only [Act.put,List.setIfInBounds_toArray,List.set_cons_zero,List.set_cons_succ,i64_w,i32_w]
       rfl
      refine pure_ (i := 3) (N := some 15) (v := ?_) (a' := ?_) #[true,true,true,true,false,false,false,false] rfl rfl (any_of HT_.out (by kernel_rfl)) (fun _ _ _ h => h) (Or.inl ⟨by rfl,?_⟩) ?_ ?_
      rotate_left
      ·intro w'
       go_simp
       with_reducible rfl
      rotate_left
      ·simp only [Act.put,List.setIfInBounds_toArray,List.set_cons_zero,List.set_cons_succ,i64_w,i32_w]
       rfl
      refine pure_ (i := 5) (N := some 17) (v := ?_) (a' := ?_) #[true,true,true,true,false,true,false,false] rfl rfl (any_of HT_.out (by kernel_rfl)) (fun _ _ _ h => h) (Or.inl ⟨by rfl,?_⟩) ?_ ?_
      rotate_left
      ·intro w'
       go_simp
       with_reducible rfl
      rotate_left
      ·simp only [Act.put,List.setIfInBounds_toArray,List.set_cons_zero,List.set_cons_succ,i64_w,i32_w]
       rfl
      refine take_ (i := 4) (N := some 16) (v := ?_) (a' := ?_) #[true,true,true,true,true,true,false,false] rfl rfl (take_ofW HT_.out HW_.out (by kernel_rfl)) (fun _ _ _ h => h) (Or.inl ⟨by rfl,?_⟩) hHeld ?_ ?_
      rotate_left
      ·rintro w' ⟨s0,s1,s2,s3⟩
       go_simp
       with_reducible rfl
      rotate_left
      ·simp only [Act.put,List.setIfInBounds_toArray,List.set_cons_zero,List.set_cons_succ,i64_w,i32_w]
       rfl
      refine one_ (i := 6) (N := some 18) #[true,true,true,true,true,true,true,false] rfl rfl (one_of HT_.out (by kernel_rfl)) (by decide) (fun K hK => ?_)
      refine goes_ Try.func58 (by kernel_rfl) rfl #[.int .i64 x1_1] (by rfl) rfl rfl (by (try simp only [List.map_toArray,List.map_cons,List.map_nil]);first | done | rfl | (simp only [List.length_drop,List.length_take];rfl)) ?_
      with_reducible refine (wx.calls k1 x1_1 t102 _ A5.out).mono ?_
      rintro e w19 ⟨rfl,hb⟩
      refine ⟨_,rfl,?_⟩
      have n0_ := qq.mk (zv (by repeat (first | (with_reducible first | exact HB.out | apply qj | apply qz | apply qk) | exact HB.out)) hb)
      clear HB
      have HB := n0_
      clear n0_
      (try clear hb)
      (try clear hb2)
      (try clear hk)
      (try clear hi)
      refine hK.out _ _ ⟨((HB.out.cell (World.block_lt_of_cell? w _ hw101_0)).trans hw101_0),((HB.out.cell (World.block_lt_of_cell? w _ hw101_1)).trans hw101_1),((HB.out.cell (World.block_lt_of_cell? w _ hw101_2)).trans hw101_2),((HB.out.cell (World.block_lt_of_cell? w _ hw101_3)).trans hw101_3)⟩ (fun hHeld => ?_)
      clear hK K
      refine norm_ (a' := ?_) ?_ ?_
      rotate_left
      ·show Act.put _ (some 18) _ = _
       simp only [Act.put,List.setIfInBounds_toArray,List.set_cons_zero,List.set_cons_succ,i64_w,i32_w]
       rfl
      refine pure_ (i := 7) (N := some 19) (v := ?_) (a' := ?_) #[true,true,true,true,true,true,true,true] rfl rfl (any_of HT_.out (by kernel_rfl)) (fun _ _ _ h => h) (Or.inl ⟨by rfl,?_⟩) ?_ ?_
      rotate_left
      ·intro w'
       go_simp
       with_reducible rfl
      rotate_left
      ·simp only [Act.put,List.setIfInBounds_toArray,List.set_cons_zero,List.set_cons_succ,i64_w,i32_w]
       rfl
      refine done_ (done_of HT_.out (by kernel_rfl)) ?_
      try go_wp2
      go_ret
      exact ⟨by first | rfl | (simp [*,jk,jj] <;> rfl),by repeat (first | (with_reducible first | exact HB.out | apply qj | apply qz | apply qk) | exact HB.out)⟩
    ·rw [if_neg c4] at H
     exact absurd H (by simp)
   ·rw [if_neg c3] at H
    have c3b0 : decide (x5_1 < (l0.length : Int)) = false := decide_eq_false c3
    clear c3
    obtain rfl := Option.some.inj H
    go_wp2
    go_ret
    exact ⟨by first | rfl | (simp [*,jk,jj] <;> rfl),by repeat (first | (with_reducible first | exact HB.out | apply qj | apply qz | apply qk) | exact HB.out)⟩
def wz.f (k : Nat) (l0 : List (S50)) (a1_0 : ByteArray) (a1_1 : Int) (a1_2 : Int) (a1_3 : Int) (a2 : Int) (a3 : Int) : Option (Bool) := (xz.f k l0 1048576).bind fun t102 => (if t102 < 0 then (some true) else ((xq.f a1_0 a1_1 a1_2 a1_3 t102).bind fun t103 => (if t103 < 0 then (some true) else ((xk.f k l0).bind fun t104 => ((xj.f a1_0 a1_1 a1_2 a1_3).bind fun bt107 => ((xw.f k t104 bt107.1 bt107.2.1 bt107.2.2.1 bt107.2.2.2 a2 a3).bind fun t111 => ((xk.f k l0).bind fun t114 => ((xj.f a1_0 a1_1 a1_2 a1_3).bind fun bt117 => ((vq.f k t114 bt117.1 bt117.2.1 bt117.2.2.1 bt117.2.2.2 a2 a3).bind fun t121 => ((wk.f k t121 t111).bind fun t124 => (if t124 = true then ((xk.f k l0).bind fun t125 => ((wk.f k t114 t125).bind fun t128 => (if t128 = true then ((ww.f k t114 1).bind fun bt129 => (if bt129.1 < 0 then (none) else ((wk.f k t121 t111).bind fun t131 => (if t131 = true then ((ww.f k t121 1).bind fun bt132 => ((wv.f k bt132.2 1).bind fun t134 => (if t134 < 0 then (none) else (if t134 = bt132.1 then ((xk.f k l0).bind fun t135 => ((xj.f a1_0 a1_1 a1_2 a1_3).bind fun bt138 => ((vq.f k t135 bt138.1 bt138.2.1 bt138.2.2.1 bt138.2.2.2 a2 a3).bind fun t142 => ((wk.f k t142 t111).bind fun t145 => (if t145 = true then ((wv.f k bt132.2 1).bind fun t146 => (if t146 < 0 then (none) else (if t146 = bt132.1 then (some true) else (none)))) else (none)))))) else (none))))) else (none))))) else (none)))) else (none))))))))))))
def wz.T8 : Bool × List (List Nat × List Nat) := (true,[([],[]),([0],[0]),([],[]),([2,1],[2]),([],[]),([],[]),([1,3,4,5,3],[1,3,4,5]),([6,6,0,1,2,3,4,5,6],[6])])
def wz.B8 : List Nat := [0,1,0,7,0,0,63,127]
theorem wz.tab8 : rtab .any (opsOf Try.f6 8) = wz.T8 := by kernel_rfl
theorem wz.bits8 : waitsOk wz.T8.2 wz.B8 = true := by kernel_rfl
def wz.T27 : Bool × List (List Nat × List Nat) := (true,[([],[]),([0],[0]),([],[]),([2,1],[2]),([],[]),([],[]),([1,3,4,5,3],[1,3,4,5]),([6,6,0,1,2,3,4,5,6],[6])])
def wz.B27 : List Nat := [0,1,0,7,0,0,63,127]
theorem wz.tab27 : rtab .any (opsOf Try.f6 27) = wz.T27 := by kernel_rfl
theorem wz.bits27 : waitsOk wz.T27.2 wz.B27 = true := by kernel_rfl
set_option maxHeartbeats 8000000 in
set_option maxRecDepth 100000 in
theorem wz.calls (k : Nat) (A0 : Option Addr) (c0 : Nat) (l0 : List (S50)) (a1_0 : ByteArray) (a1_1 : Int) (a1_2 : Int) (a1_3 : Int) (a2 : Int) (a3 : Int) (r : Bool) (w : World) (hr0 : Kd.C k50 w A0 l0.length l0) (hc0 : l0.length ≤ c0) (h : wz.f k l0 a1_0 a1_1 a1_2 a1_3 a2 a3 = some r) :
  Calls Try.prog 6 #[.slice A0 l0.length c0,.agg #[.string a1_0,.int .i64 a1_1,.int .i64 a1_2,.int .i64 a1_3],.int .i64 a2,.int .i64 a3] w fun e w' => e = .returned (.bool r) ∧ Below w.heap.size w w' := by
 have hu50 := Try.underlying50
 have HR0 := qq.mk hr0
 have HC0 := qq.mk hc0
 clear hr0 hc0
 have HB := qq.mk (Below.refl w.heap.size w)
 have H : ((xz.f k l0 1048576).bind fun t102 => (if t102 < 0 then (some true) else ((xq.f a1_0 a1_1 a1_2 a1_3 t102).bind fun t103 => (if t103 < 0 then (some true) else ((xk.f k l0).bind fun t104 => ((xj.f a1_0 a1_1 a1_2 a1_3).bind fun bt107 => ((xw.f k t104 bt107.1 bt107.2.1 bt107.2.2.1 bt107.2.2.2 a2 a3).bind fun t111 => ((xk.f k l0).bind fun t114 => ((xj.f a1_0 a1_1 a1_2 a1_3).bind fun bt117 => ((vq.f k t114 bt117.1 bt117.2.1 bt117.2.2.1 bt117.2.2.2 a2 a3).bind fun t121 => ((wk.f k t121 t111).bind fun t124 => (if t124 = true then ((xk.f k l0).bind fun t125 => ((wk.f k t114 t125).bind fun t128 => (if t128 = true then ((ww.f k t114 1).bind fun bt129 => (if bt129.1 < 0 then (none) else ((wk.f k t121 t111).bind fun t131 => (if t131 = true then ((ww.f k t121 1).bind fun bt132 => ((wv.f k bt132.2 1).bind fun t134 => (if t134 < 0 then (none) else (if t134 = bt132.1 then ((xk.f k l0).bind fun t135 => ((xj.f a1_0 a1_1 a1_2 a1_3).bind fun bt138 => ((vq.f k t135 bt138.1 bt138.2.1 bt138.2.2.1 bt138.2.2.2 a2 a3).bind fun t142 => ((wk.f k t142 t111).bind fun t145 => (if t145 = true then ((wv.f k bt132.2 1).bind fun t146 => (if t146 < 0 then (none) else (if t146 = bt132.1 then (some true) else (none)))) else (none)))))) else (none))))) else (none))))) else (none)))) else (none))))))))))))) = some r := h
 clear h
 replace H := Option.bind_eq_some_iff.mp H
 obtain ⟨t102,A50,H⟩ := H
 replace H : (if t102 < 0 then (some true) else ((xq.f a1_0 a1_1 a1_2 a1_3 t102).bind fun t103 => (if t103 < 0 then (some true) else ((xk.f k l0).bind fun t104 => ((xj.f a1_0 a1_1 a1_2 a1_3).bind fun bt107 => ((xw.f k t104 bt107.1 bt107.2.1 bt107.2.2.1 bt107.2.2.2 a2 a3).bind fun t111 => ((xk.f k l0).bind fun t114 => ((xj.f a1_0 a1_1 a1_2 a1_3).bind fun bt117 => ((vq.f k t114 bt117.1 bt117.2.1 bt117.2.2.1 bt117.2.2.2 a2 a3).bind fun t121 => ((wk.f k t121 t111).bind fun t124 => (if t124 = true then ((xk.f k l0).bind fun t125 => ((wk.f k t114 t125).bind fun t128 => (if t128 = true then ((ww.f k t114 1).bind fun bt129 => (if bt129.1 < 0 then (none) else ((wk.f k t121 t111).bind fun t131 => (if t131 = true then ((ww.f k t121 1).bind fun bt132 => ((wv.f k bt132.2 1).bind fun t134 => (if t134 < 0 then (none) else (if t134 = bt132.1 then ((xk.f k l0).bind fun t135 => ((xj.f a1_0 a1_1 a1_2 a1_3).bind fun bt138 => ((vq.f k t135 bt138.1 bt138.2.1 bt138.2.2.1 bt138.2.2.2 a2 a3).bind fun t142 => ((wk.f k t142 t111).bind fun t145 => (if t145 = true then ((wv.f k bt132.2 1).bind fun t146 => (if t146 < 0 then (none) else (if t146 = bt132.1 then (some true) else (none)))) else (none)))))) else (none))))) else (none))))) else (none)))) else (none)))))))))))) = some r := H
 have A5 := qq.mk A50
 clear A50
 by_cases c6 : t102 < 0
 ·rw [if_pos c6] at H
  have c6b0 : decide (t102 < 0) = true := decide_eq_true c6
  clear c6
  obtain rfl := Option.some.inj H
  go_enter Try.func6,Try.ntmps6
  go_wp2_with (first | ((with_reducible refine gate_dst (N := 5) rfl ?_);refine box_event ?hg (N := 5) ?hd (cs := #[.string a1_0,.int .i64 a1_1,.int .i64 a1_2,.int .i64 a1_3]) (t := 50) ?hr ?_;(case hd => rfl);(case hg => rfl);(case hr => first | (go_simp;done) | (go_simp;rfl));intro gb101 hg w7 hbox hb;have n0_ := qq.mk (zv (by repeat (first | (with_reducible first | exact HB.out | apply qj | apply qz | apply qk) | exact HB.out)) hb);have n1_ := qq.mk (hbox);have n2_ := qq.mk ((by rw [hg];exact (zw (by repeat (first | (with_reducible first | exact HB.out | apply qj | apply qz | apply qk) | exact HB.out))) : w.heap.size ≤ gb101));have n3_ := qq.mk ((by rw [hg];exact (zw (by repeat (first | (with_reducible first | exact HB.out | apply qj | apply qz | apply qk) | exact HB.out))) : w.heap.size ≤ gb101));clear HB;have HB := n0_;have BK101 := n1_;have GW101 := n2_;have GE101 := n3_;clear n0_ n1_ n2_ n3_;clear hb hbox hg) | ((with_reducible refine jv (f := 13) rfl ?_);refine goesL_ (some 19) rfl rfl Try.func13 (by kernel_rfl) rfl #[.slice A0 l0.length c0,.int .i64 1048576] rfl (by (try simp only [List.map_toArray,List.map_cons,List.map_nil]);first | done | rfl | (simp only [List.length_drop,List.length_take];rfl)) ?_;(with_reducible refine (xz.calls k _ _ l0 1048576 t102 _ ?side1 ?side2 A5.out).mono ?_);(case side1 => repeat (first | exact (Kd.C_below HR0.out HB.out) | (with_reducible refine Kd.C_alloc ?_ _) | (with_reducible refine Kd.C_drewN ?_ _) | (with_reducible refine Kd.C_drew ?_)));(case side2 => exact HC0.out);rintro e w8 ⟨rfl,hb⟩;refine ⟨_,rfl,?_⟩;have n0_ := qq.mk (kj (g := gb101) (o := .cells #[.string a1_0,.int .i64 a1_1,.int .i64 a1_2,.int .i64 a1_3] 50 (0,0)) (by (with_reducible repeat (first | refine zz ?_ _ | refine zj ?_ | refine zq ?_ _));exact BK101.out) hb);have n1_ := qq.mk (zv (by repeat (first | (with_reducible first | exact HB.out | apply qj | apply qz | apply qk | refine qx ?_ GE101.out) | exact HB.out)) hb);clear BK101;clear HB;have BK101 := n0_;have HB := n1_;clear n0_ n1_;(try clear hb);(try clear hb2);(try clear hk);(try clear hi)))
  go_ret
  exact ⟨by first | rfl | (simp [*,jk,jj] <;> rfl),by repeat (first | (with_reducible first | exact HB.out | apply qj | apply qz | apply qk | refine qx ?_ GE101.out) | exact HB.out)⟩
 ·rw [if_neg c6] at H
  have c6b0 : decide (t102 < 0) = false := decide_eq_false c6
  clear c6
  replace H := Option.bind_eq_some_iff.mp H
  obtain ⟨t103,A90,H⟩ := H
  replace H : (if t103 < 0 then (some true) else ((xk.f k l0).bind fun t104 => ((xj.f a1_0 a1_1 a1_2 a1_3).bind fun bt107 => ((xw.f k t104 bt107.1 bt107.2.1 bt107.2.2.1 bt107.2.2.2 a2 a3).bind fun t111 => ((xk.f k l0).bind fun t114 => ((xj.f a1_0 a1_1 a1_2 a1_3).bind fun bt117 => ((vq.f k t114 bt117.1 bt117.2.1 bt117.2.2.1 bt117.2.2.2 a2 a3).bind fun t121 => ((wk.f k t121 t111).bind fun t124 => (if t124 = true then ((xk.f k l0).bind fun t125 => ((wk.f k t114 t125).bind fun t128 => (if t128 = true then ((ww.f k t114 1).bind fun bt129 => (if bt129.1 < 0 then (none) else ((wk.f k t121 t111).bind fun t131 => (if t131 = true then ((ww.f k t121 1).bind fun bt132 => ((wv.f k bt132.2 1).bind fun t134 => (if t134 < 0 then (none) else (if t134 = bt132.1 then ((xk.f k l0).bind fun t135 => ((xj.f a1_0 a1_1 a1_2 a1_3).bind fun bt138 => ((vq.f k t135 bt138.1 bt138.2.1 bt138.2.2.1 bt138.2.2.2 a2 a3).bind fun t142 => ((wk.f k t142 t111).bind fun t145 => (if t145 = true then ((wv.f k bt132.2 1).bind fun t146 => (if t146 < 0 then (none) else (if t146 = bt132.1 then (some true) else (none)))) else (none)))))) else (none))))) else (none))))) else (none)))) else (none)))))))))) = some r := H
  have A9 := qq.mk A90
  clear A90
  by_cases c10 : t103 < 0
  ·rw [if_pos c10] at H
   have c10b0 : decide (t103 < 0) = true := decide_eq_true c10
   clear c10
   obtain rfl := Option.some.inj H
   go_enter Try.func6,Try.ntmps6
   go_wp2_with (first | ((with_reducible refine gate_dst (N := 5) rfl ?_);refine box_event ?hg (N := 5) ?hd (cs := #[.string a1_0,.int .i64 a1_1,.int .i64 a1_2,.int .i64 a1_3]) (t := 50) ?hr ?_;(case hd => rfl);(case hg => rfl);(case hr => first | (go_simp;done) | (go_simp;rfl));intro gb101 hg w11 hbox hb;have n0_ := qq.mk (zv (by repeat (first | (with_reducible first | exact HB.out | apply qj | apply qz | apply qk) | exact HB.out)) hb);have n1_ := qq.mk (hbox);have n2_ := qq.mk ((by rw [hg];exact (zw (by repeat (first | (with_reducible first | exact HB.out | apply qj | apply qz | apply qk) | exact HB.out))) : w.heap.size ≤ gb101));have n3_ := qq.mk ((by rw [hg];exact (zw (by repeat (first | (with_reducible first | exact HB.out | apply qj | apply qz | apply qk) | exact HB.out))) : w.heap.size ≤ gb101));clear HB;have HB := n0_;have BK101 := n1_;have GW101 := n2_;have GE101 := n3_;clear n0_ n1_ n2_ n3_;clear hb hbox hg) | ((with_reducible refine jv (f := 13) rfl ?_);refine goesL_ (some 19) rfl rfl Try.func13 (by kernel_rfl) rfl #[.slice A0 l0.length c0,.int .i64 1048576] rfl (by (try simp only [List.map_toArray,List.map_cons,List.map_nil]);first | done | rfl | (simp only [List.length_drop,List.length_take];rfl)) ?_;(with_reducible refine (xz.calls k _ _ l0 1048576 t102 _ ?side1 ?side2 A5.out).mono ?_);(case side1 => repeat (first | exact (Kd.C_below HR0.out HB.out) | (with_reducible refine Kd.C_alloc ?_ _) | (with_reducible refine Kd.C_drewN ?_ _) | (with_reducible refine Kd.C_drew ?_)));(case side2 => exact HC0.out);rintro e w12 ⟨rfl,hb⟩;refine ⟨_,rfl,?_⟩;have n0_ := qq.mk (kj (g := gb101) (o := .cells #[.string a1_0,.int .i64 a1_1,.int .i64 a1_2,.int .i64 a1_3] 50 (0,0)) (by (with_reducible repeat (first | refine zz ?_ _ | refine zj ?_ | refine zq ?_ _));exact BK101.out) hb);have n1_ := qq.mk (zv (by repeat (first | (with_reducible first | exact HB.out | apply qj | apply qz | apply qk | refine qx ?_ GE101.out) | exact HB.out)) hb);clear BK101;clear HB;have BK101 := n0_;have HB := n1_;clear n0_ n1_;(try clear hb);(try clear hb2);(try clear hk);(try clear hi);have hcz13_0 : w12.cell? ⟨gb101,0,none⟩ = some (.string a1_0) := (qw BK101.out 0).trans rfl;have hcz13_1 : w12.cell? ⟨gb101,1,none⟩ = some (.int .i64 a1_1) := (qw BK101.out 1).trans rfl;have hcz13_2 : w12.cell? ⟨gb101,2,none⟩ = some (.int .i64 a1_2) := (qw BK101.out 2).trans rfl;have hcz13_3 : w12.cell? ⟨gb101,3,none⟩ = some (.int .i64 a1_3) := (qw BK101.out 3).trans rfl;have hfz13_0 := qv BK101.out 0;have hfz13_1 := qv BK101.out 1;have hfz13_2 := qv BK101.out 2;have hfz13_3 := qv BK101.out 3) | ((with_reducible refine jv (f := 23) rfl ?_);refine goesL_ (some 24) rfl rfl Try.func23 (by kernel_rfl) rfl #[.agg #[.string a1_0,.int .i64 a1_1,.int .i64 a1_2,.int .i64 a1_3],.int .i64 t102] rfl (by (try simp only [List.map_toArray,List.map_cons,List.map_nil]);first | done | rfl | (simp only [List.length_drop,List.length_take];rfl)) ?_;(with_reducible refine (xq.calls a1_0 a1_1 a1_2 a1_3 t102 t103 _ A9.out).mono ?_);rintro e w14 ⟨rfl,hb⟩;refine ⟨_,rfl,?_⟩;have n0_ := qq.mk (kj (g := gb101) (o := .cells #[.string a1_0,.int .i64 a1_1,.int .i64 a1_2,.int .i64 a1_3] 50 (0,0)) (by (with_reducible repeat (first | refine zz ?_ _ | refine zj ?_ | refine zq ?_ _));exact BK101.out) hb);have n1_ := qq.mk (zv (by repeat (first | (with_reducible first | exact HB.out | apply qj | apply qz | apply qk | refine qx ?_ GE101.out) | exact HB.out)) hb);clear BK101;clear HB;have BK101 := n0_;have HB := n1_;clear n0_ n1_;(try clear hb);(try clear hb2);(try clear hk);(try clear hi)))
   go_ret
   exact ⟨by first | rfl | (simp [*,jk,jj] <;> rfl),by repeat (first | (with_reducible first | exact HB.out | apply qj | apply qz | apply qk | refine qx ?_ GE101.out) | exact HB.out)⟩
  ·rw [if_neg c10] at H
   have c10b0 : decide (t103 < 0) = false := decide_eq_false c10
   clear c10
   replace H := Option.bind_eq_some_iff.mp H
   obtain ⟨t104,A150,H⟩ := H
   replace H : ((xj.f a1_0 a1_1 a1_2 a1_3).bind fun bt107 => ((xw.f k t104 bt107.1 bt107.2.1 bt107.2.2.1 bt107.2.2.2 a2 a3).bind fun t111 => ((xk.f k l0).bind fun t114 => ((xj.f a1_0 a1_1 a1_2 a1_3).bind fun bt117 => ((vq.f k t114 bt117.1 bt117.2.1 bt117.2.2.1 bt117.2.2.2 a2 a3).bind fun t121 => ((wk.f k t121 t111).bind fun t124 => (if t124 = true then ((xk.f k l0).bind fun t125 => ((wk.f k t114 t125).bind fun t128 => (if t128 = true then ((ww.f k t114 1).bind fun bt129 => (if bt129.1 < 0 then (none) else ((wk.f k t121 t111).bind fun t131 => (if t131 = true then ((ww.f k t121 1).bind fun bt132 => ((wv.f k bt132.2 1).bind fun t134 => (if t134 < 0 then (none) else (if t134 = bt132.1 then ((xk.f k l0).bind fun t135 => ((xj.f a1_0 a1_1 a1_2 a1_3).bind fun bt138 => ((vq.f k t135 bt138.1 bt138.2.1 bt138.2.2.1 bt138.2.2.2 a2 a3).bind fun t142 => ((wk.f k t142 t111).bind fun t145 => (if t145 = true then ((wv.f k bt132.2 1).bind fun t146 => (if t146 < 0 then (none) else (if t146 = bt132.1 then (some true) else (none)))) else (none)))))) else (none))))) else (none))))) else (none)))) else (none)))))))) = some r := H
   have A15 := qq.mk A150
   clear A150
   replace H := Option.bind_eq_some_iff.mp H
   obtain ⟨⟨t107,t108,t109,t110⟩,A160,H⟩ := H
   replace H : ((xw.f k t104 t107 t108 t109 t110 a2 a3).bind fun t111 => ((xk.f k l0).bind fun t114 => ((xj.f a1_0 a1_1 a1_2 a1_3).bind fun bt117 => ((vq.f k t114 bt117.1 bt117.2.1 bt117.2.2.1 bt117.2.2.2 a2 a3).bind fun t121 => ((wk.f k t121 t111).bind fun t124 => (if t124 = true then ((xk.f k l0).bind fun t125 => ((wk.f k t114 t125).bind fun t128 => (if t128 = true then ((ww.f k t114 1).bind fun bt129 => (if bt129.1 < 0 then (none) else ((wk.f k t121 t111).bind fun t131 => (if t131 = true then ((ww.f k t121 1).bind fun bt132 => ((wv.f k bt132.2 1).bind fun t134 => (if t134 < 0 then (none) else (if t134 = bt132.1 then ((xk.f k l0).bind fun t135 => ((xj.f a1_0 a1_1 a1_2 a1_3).bind fun bt138 => ((vq.f k t135 bt138.1 bt138.2.1 bt138.2.2.1 bt138.2.2.2 a2 a3).bind fun t142 => ((wk.f k t142 t111).bind fun t145 => (if t145 = true then ((wv.f k bt132.2 1).bind fun t146 => (if t146 < 0 then (none) else (if t146 = bt132.1 then (some true) else (none)))) else (none)))))) else (none))))) else (none))))) else (none)))) else (none))))))) = some r := H
   have A16 := qq.mk A160
   clear A160
   replace H := Option.bind_eq_some_iff.mp H
   obtain ⟨t111,A170,H⟩ := H
   replace H : ((xk.f k l0).bind fun t114 => ((xj.f a1_0 a1_1 a1_2 a1_3).bind fun bt117 => ((vq.f k t114 bt117.1 bt117.2.1 bt117.2.2.1 bt117.2.2.2 a2 a3).bind fun t121 => ((wk.f k t121 t111).bind fun t124 => (if t124 = true then ((xk.f k l0).bind fun t125 => ((wk.f k t114 t125).bind fun t128 => (if t128 = true then ((ww.f k t114 1).bind fun bt129 => (if bt129.1 < 0 then (none) else ((wk.f k t121 t111).bind fun t131 => (if t131 = true then ((ww.f k t121 1).bind fun bt132 => ((wv.f k bt132.2 1).bind fun t134 => (if t134 < 0 then (none) else (if t134 = bt132.1 then ((xk.f k l0).bind fun t135 => ((xj.f a1_0 a1_1 a1_2 a1_3).bind fun bt138 => ((vq.f k t135 bt138.1 bt138.2.1 bt138.2.2.1 bt138.2.2.2 a2 a3).bind fun t142 => ((wk.f k t142 t111).bind fun t145 => (if t145 = true then ((wv.f k bt132.2 1).bind fun t146 => (if t146 < 0 then (none) else (if t146 = bt132.1 then (some true) else (none)))) else (none)))))) else (none))))) else (none))))) else (none)))) else (none)))))) = some r := H
   have A17 := qq.mk A170
   clear A170
   replace H := Option.bind_eq_some_iff.mp H
   obtain ⟨t114,A180,H⟩ := H
   replace H : ((xj.f a1_0 a1_1 a1_2 a1_3).bind fun bt117 => ((vq.f k t114 bt117.1 bt117.2.1 bt117.2.2.1 bt117.2.2.2 a2 a3).bind fun t121 => ((wk.f k t121 t111).bind fun t124 => (if t124 = true then ((xk.f k l0).bind fun t125 => ((wk.f k t114 t125).bind fun t128 => (if t128 = true then ((ww.f k t114 1).bind fun bt129 => (if bt129.1 < 0 then (none) else ((wk.f k t121 t111).bind fun t131 => (if t131 = true then ((ww.f k t121 1).bind fun bt132 => ((wv.f k bt132.2 1).bind fun t134 => (if t134 < 0 then (none) else (if t134 = bt132.1 then ((xk.f k l0).bind fun t135 => ((xj.f a1_0 a1_1 a1_2 a1_3).bind fun bt138 => ((vq.f k t135 bt138.1 bt138.2.1 bt138.2.2.1 bt138.2.2.2 a2 a3).bind fun t142 => ((wk.f k t142 t111).bind fun t145 => (if t145 = true then ((wv.f k bt132.2 1).bind fun t146 => (if t146 < 0 then (none) else (if t146 = bt132.1 then (some true) else (none)))) else (none)))))) else (none))))) else (none))))) else (none)))) else (none))))) = some r := H
   have A18 := qq.mk A180
   clear A180
   replace H := Option.bind_eq_some_iff.mp H
   obtain ⟨⟨t117,t118,t119,t120⟩,A190,H⟩ := H
   replace H : ((vq.f k t114 t117 t118 t119 t120 a2 a3).bind fun t121 => ((wk.f k t121 t111).bind fun t124 => (if t124 = true then ((xk.f k l0).bind fun t125 => ((wk.f k t114 t125).bind fun t128 => (if t128 = true then ((ww.f k t114 1).bind fun bt129 => (if bt129.1 < 0 then (none) else ((wk.f k t121 t111).bind fun t131 => (if t131 = true then ((ww.f k t121 1).bind fun bt132 => ((wv.f k bt132.2 1).bind fun t134 => (if t134 < 0 then (none) else (if t134 = bt132.1 then ((xk.f k l0).bind fun t135 => ((xj.f a1_0 a1_1 a1_2 a1_3).bind fun bt138 => ((vq.f k t135 bt138.1 bt138.2.1 bt138.2.2.1 bt138.2.2.2 a2 a3).bind fun t142 => ((wk.f k t142 t111).bind fun t145 => (if t145 = true then ((wv.f k bt132.2 1).bind fun t146 => (if t146 < 0 then (none) else (if t146 = bt132.1 then (some true) else (none)))) else (none)))))) else (none))))) else (none))))) else (none)))) else (none)))) = some r := H
   have A19 := qq.mk A190
   clear A190
   replace H := Option.bind_eq_some_iff.mp H
   obtain ⟨t121,A200,H⟩ := H
   replace H : ((wk.f k t121 t111).bind fun t124 => (if t124 = true then ((xk.f k l0).bind fun t125 => ((wk.f k t114 t125).bind fun t128 => (if t128 = true then ((ww.f k t114 1).bind fun bt129 => (if bt129.1 < 0 then (none) else ((wk.f k t121 t111).bind fun t131 => (if t131 = true then ((ww.f k t121 1).bind fun bt132 => ((wv.f k bt132.2 1).bind fun t134 => (if t134 < 0 then (none) else (if t134 = bt132.1 then ((xk.f k l0).bind fun t135 => ((xj.f a1_0 a1_1 a1_2 a1_3).bind fun bt138 => ((vq.f k t135 bt138.1 bt138.2.1 bt138.2.2.1 bt138.2.2.2 a2 a3).bind fun t142 => ((wk.f k t142 t111).bind fun t145 => (if t145 = true then ((wv.f k bt132.2 1).bind fun t146 => (if t146 < 0 then (none) else (if t146 = bt132.1 then (some true) else (none)))) else (none)))))) else (none))))) else (none))))) else (none)))) else (none))) = some r := H
   have A20 := qq.mk A200
   clear A200
   replace H := Option.bind_eq_some_iff.mp H
   obtain ⟨t124,A210,H⟩ := H
   replace H : (if t124 = true then ((xk.f k l0).bind fun t125 => ((wk.f k t114 t125).bind fun t128 => (if t128 = true then ((ww.f k t114 1).bind fun bt129 => (if bt129.1 < 0 then (none) else ((wk.f k t121 t111).bind fun t131 => (if t131 = true then ((ww.f k t121 1).bind fun bt132 => ((wv.f k bt132.2 1).bind fun t134 => (if t134 < 0 then (none) else (if t134 = bt132.1 then ((xk.f k l0).bind fun t135 => ((xj.f a1_0 a1_1 a1_2 a1_3).bind fun bt138 => ((vq.f k t135 bt138.1 bt138.2.1 bt138.2.2.1 bt138.2.2.2 a2 a3).bind fun t142 => ((wk.f k t142 t111).bind fun t145 => (if t145 = true then ((wv.f k bt132.2 1).bind fun t146 => (if t146 < 0 then (none) else (if t146 = bt132.1 then (some true) else (none)))) else (none)))))) else (none))))) else (none))))) else (none)))) else (none)) = some r := H
   have A21 := qq.mk A210
   clear A210
   by_cases c22 : t124 = true
   ·subst c22
    have H1 : ((xk.f k l0).bind fun t125 => ((wk.f k t114 t125).bind fun t128 => (if t128 = true then ((ww.f k t114 1).bind fun bt129 => (if bt129.1 < 0 then (none) else ((wk.f k t121 t111).bind fun t131 => (if t131 = true then ((ww.f k t121 1).bind fun bt132 => ((wv.f k bt132.2 1).bind fun t134 => (if t134 < 0 then (none) else (if t134 = bt132.1 then ((xk.f k l0).bind fun t135 => ((xj.f a1_0 a1_1 a1_2 a1_3).bind fun bt138 => ((vq.f k t135 bt138.1 bt138.2.1 bt138.2.2.1 bt138.2.2.2 a2 a3).bind fun t142 => ((wk.f k t142 t111).bind fun t145 => (if t145 = true then ((wv.f k bt132.2 1).bind fun t146 => (if t146 < 0 then (none) else (if t146 = bt132.1 then (some true) else (none)))) else (none)))))) else (none))))) else (none))))) else (none)))) = some r := by rw [if_pos rfl] at H;exact H
    clear H
    have H := H1
    clear H1
    replace H := Option.bind_eq_some_iff.mp H
    obtain ⟨t125,A230,H⟩ := H
    replace H : ((wk.f k t114 t125).bind fun t128 => (if t128 = true then ((ww.f k t114 1).bind fun bt129 => (if bt129.1 < 0 then (none) else ((wk.f k t121 t111).bind fun t131 => (if t131 = true then ((ww.f k t121 1).bind fun bt132 => ((wv.f k bt132.2 1).bind fun t134 => (if t134 < 0 then (none) else (if t134 = bt132.1 then ((xk.f k l0).bind fun t135 => ((xj.f a1_0 a1_1 a1_2 a1_3).bind fun bt138 => ((vq.f k t135 bt138.1 bt138.2.1 bt138.2.2.1 bt138.2.2.2 a2 a3).bind fun t142 => ((wk.f k t142 t111).bind fun t145 => (if t145 = true then ((wv.f k bt132.2 1).bind fun t146 => (if t146 < 0 then (none) else (if t146 = bt132.1 then (some true) else (none)))) else (none)))))) else (none))))) else (none))))) else (none))) = some r := H
    have A23 := qq.mk A230
    clear A230
    replace H := Option.bind_eq_some_iff.mp H
    obtain ⟨t128,A240,H⟩ := H
    replace H : (if t128 = true then ((ww.f k t114 1).bind fun bt129 => (if bt129.1 < 0 then (none) else ((wk.f k t121 t111).bind fun t131 => (if t131 = true then ((ww.f k t121 1).bind fun bt132 => ((wv.f k bt132.2 1).bind fun t134 => (if t134 < 0 then (none) else (if t134 = bt132.1 then ((xk.f k l0).bind fun t135 => ((xj.f a1_0 a1_1 a1_2 a1_3).bind fun bt138 => ((vq.f k t135 bt138.1 bt138.2.1 bt138.2.2.1 bt138.2.2.2 a2 a3).bind fun t142 => ((wk.f k t142 t111).bind fun t145 => (if t145 = true then ((wv.f k bt132.2 1).bind fun t146 => (if t146 < 0 then (none) else (if t146 = bt132.1 then (some true) else (none)))) else (none)))))) else (none))))) else (none))))) else (none)) = some r := H
    have A24 := qq.mk A240
    clear A240
    by_cases c25 : t128 = true
    ·subst c25
     have H1 : ((ww.f k t114 1).bind fun bt129 => (if bt129.1 < 0 then (none) else ((wk.f k t121 t111).bind fun t131 => (if t131 = true then ((ww.f k t121 1).bind fun bt132 => ((wv.f k bt132.2 1).bind fun t134 => (if t134 < 0 then (none) else (if t134 = bt132.1 then ((xk.f k l0).bind fun t135 => ((xj.f a1_0 a1_1 a1_2 a1_3).bind fun bt138 => ((vq.f k t135 bt138.1 bt138.2.1 bt138.2.2.1 bt138.2.2.2 a2 a3).bind fun t142 => ((wk.f k t142 t111).bind fun t145 => (if t145 = true then ((wv.f k bt132.2 1).bind fun t146 => (if t146 < 0 then (none) else (if t146 = bt132.1 then (some true) else (none)))) else (none)))))) else (none))))) else (none))))) = some r := by rw [if_pos rfl] at H;exact H
     clear H
     have H := H1
     clear H1
     replace H := Option.bind_eq_some_iff.mp H
     obtain ⟨⟨t129,t130⟩,A260,H⟩ := H
     replace H : (if t129 < 0 then (none) else ((wk.f k t121 t111).bind fun t131 => (if t131 = true then ((ww.f k t121 1).bind fun bt132 => ((wv.f k bt132.2 1).bind fun t134 => (if t134 < 0 then (none) else (if t134 = bt132.1 then ((xk.f k l0).bind fun t135 => ((xj.f a1_0 a1_1 a1_2 a1_3).bind fun bt138 => ((vq.f k t135 bt138.1 bt138.2.1 bt138.2.2.1 bt138.2.2.2 a2 a3).bind fun t142 => ((wk.f k t142 t111).bind fun t145 => (if t145 = true then ((wv.f k bt132.2 1).bind fun t146 => (if t146 < 0 then (none) else (if t146 = bt132.1 then (some true) else (none)))) else (none)))))) else (none))))) else (none)))) = some r := H
     have A26 := qq.mk A260
     clear A260
     by_cases c27 : t129 < 0
     ·rw [if_pos c27] at H
      exact absurd H (by simp)
     ·rw [if_neg c27] at H
      have c27b0 : decide (t129 < 0) = false := decide_eq_false c27
      clear c27
      replace H := Option.bind_eq_some_iff.mp H
      obtain ⟨t131,A280,H⟩ := H
      replace H : (if t131 = true then ((ww.f k t121 1).bind fun bt132 => ((wv.f k bt132.2 1).bind fun t134 => (if t134 < 0 then (none) else (if t134 = bt132.1 then ((xk.f k l0).bind fun t135 => ((xj.f a1_0 a1_1 a1_2 a1_3).bind fun bt138 => ((vq.f k t135 bt138.1 bt138.2.1 bt138.2.2.1 bt138.2.2.2 a2 a3).bind fun t142 => ((wk.f k t142 t111).bind fun t145 => (if t145 = true then ((wv.f k bt132.2 1).bind fun t146 => (if t146 < 0 then (none) else (if t146 = bt132.1 then (some true) else (none)))) else (none)))))) else (none))))) else (none)) = some r := H
      have A28 := qq.mk A280
      clear A280
      by_cases c29 : t131 = true
      ·subst c29
       have H1 : ((ww.f k t121 1).bind fun bt132 => ((wv.f k bt132.2 1).bind fun t134 => (if t134 < 0 then (none) else (if t134 = bt132.1 then ((xk.f k l0).bind fun t135 => ((xj.f a1_0 a1_1 a1_2 a1_3).bind fun bt138 => ((vq.f k t135 bt138.1 bt138.2.1 bt138.2.2.1 bt138.2.2.2 a2 a3).bind fun t142 => ((wk.f k t142 t111).bind fun t145 => (if t145 = true then ((wv.f k bt132.2 1).bind fun t146 => (if t146 < 0 then (none) else (if t146 = bt132.1 then (some true) else (none)))) else (none)))))) else (none))))) = some r := by rw [if_pos rfl] at H;exact H
       clear H
       have H := H1
       clear H1
       replace H := Option.bind_eq_some_iff.mp H
       obtain ⟨⟨t132,t133⟩,A300,H⟩ := H
       replace H : ((wv.f k t133 1).bind fun t134 => (if t134 < 0 then (none) else (if t134 = t132 then ((xk.f k l0).bind fun t135 => ((xj.f a1_0 a1_1 a1_2 a1_3).bind fun bt138 => ((vq.f k t135 bt138.1 bt138.2.1 bt138.2.2.1 bt138.2.2.2 a2 a3).bind fun t142 => ((wk.f k t142 t111).bind fun t145 => (if t145 = true then ((wv.f k t133 1).bind fun t146 => (if t146 < 0 then (none) else (if t146 = t132 then (some true) else (none)))) else (none)))))) else (none)))) = some r := H
       have A30 := qq.mk A300
       clear A300
       replace H := Option.bind_eq_some_iff.mp H
       obtain ⟨t134,A310,H⟩ := H
       replace H : (if t134 < 0 then (none) else (if t134 = t132 then ((xk.f k l0).bind fun t135 => ((xj.f a1_0 a1_1 a1_2 a1_3).bind fun bt138 => ((vq.f k t135 bt138.1 bt138.2.1 bt138.2.2.1 bt138.2.2.2 a2 a3).bind fun t142 => ((wk.f k t142 t111).bind fun t145 => (if t145 = true then ((wv.f k t133 1).bind fun t146 => (if t146 < 0 then (none) else (if t146 = t132 then (some true) else (none)))) else (none)))))) else (none))) = some r := H
       have A31 := qq.mk A310
       clear A310
       by_cases c32 : t134 < 0
       ·rw [if_pos c32] at H
        exact absurd H (by simp)
       ·rw [if_neg c32] at H
        have c32b0 : decide (t134 < 0) = false := decide_eq_false c32
        clear c32
        by_cases c33 : t134 = t132
        ·rw [if_pos c33] at H
         have c33b0 : (t134 == t132) = true := beq_iff_eq.mpr c33
         have c33b1 : (t134 != t132) = false := bne_eq_false_iff_eq.mpr c33
         clear c33
         replace H := Option.bind_eq_some_iff.mp H
         obtain ⟨t135,A340,H⟩ := H
         replace H : ((xj.f a1_0 a1_1 a1_2 a1_3).bind fun bt138 => ((vq.f k t135 bt138.1 bt138.2.1 bt138.2.2.1 bt138.2.2.2 a2 a3).bind fun t142 => ((wk.f k t142 t111).bind fun t145 => (if t145 = true then ((wv.f k t133 1).bind fun t146 => (if t146 < 0 then (none) else (if t146 = t132 then (some true) else (none)))) else (none))))) = some r := H
         have A34 := qq.mk A340
         clear A340
         replace H := Option.bind_eq_some_iff.mp H
         obtain ⟨⟨t138,t139,t140,t141⟩,A350,H⟩ := H
         replace H : ((vq.f k t135 t138 t139 t140 t141 a2 a3).bind fun t142 => ((wk.f k t142 t111).bind fun t145 => (if t145 = true then ((wv.f k t133 1).bind fun t146 => (if t146 < 0 then (none) else (if t146 = t132 then (some true) else (none)))) else (none)))) = some r := H
         have A35 := qq.mk A350
         clear A350
         replace H := Option.bind_eq_some_iff.mp H
         obtain ⟨t142,A360,H⟩ := H
         replace H : ((wk.f k t142 t111).bind fun t145 => (if t145 = true then ((wv.f k t133 1).bind fun t146 => (if t146 < 0 then (none) else (if t146 = t132 then (some true) else (none)))) else (none))) = some r := H
         have A36 := qq.mk A360
         clear A360
         replace H := Option.bind_eq_some_iff.mp H
         obtain ⟨t145,A370,H⟩ := H
         replace H : (if t145 = true then ((wv.f k t133 1).bind fun t146 => (if t146 < 0 then (none) else (if t146 = t132 then (some true) else (none)))) else (none)) = some r := H
         have A37 := qq.mk A370
         clear A370
         by_cases c38 : t145 = true
         ·subst c38
          have H1 : ((wv.f k t133 1).bind fun t146 => (if t146 < 0 then (none) else (if t146 = t132 then (some true) else (none)))) = some r := by rw [if_pos rfl] at H;exact H
          clear H
          have H := H1
          clear H1
          replace H := Option.bind_eq_some_iff.mp H
          obtain ⟨t146,A390,H⟩ := H
          replace H : (if t146 < 0 then (none) else (if t146 = t132 then (some true) else (none))) = some r := H
          have A39 := qq.mk A390
          clear A390
          by_cases c40 : t146 < 0
          ·rw [if_pos c40] at H
           exact absurd H (by simp)
          ·rw [if_neg c40] at H
           have c40b0 : decide (t146 < 0) = false := decide_eq_false c40
           clear c40
           by_cases c41 : t146 = t132
           ·rw [if_pos c41] at H
            have c41b0 : (t146 == t132) = true := beq_iff_eq.mpr c41
            have c41b1 : (t146 != t132) = false := bne_eq_false_iff_eq.mpr c41
            clear c41
            obtain rfl := Option.some.inj H
            go_enter Try.func6,Try.ntmps6
            try go_wp2_with (first | ((with_reducible refine gate_dst (N := 5) rfl ?_);refine box_event ?hg (N := 5) ?hd (cs := #[.string a1_0,.int .i64 a1_1,.int .i64 a1_2,.int .i64 a1_3]) (t := 50) ?hr ?_;(case hd => rfl);(case hg => rfl);(case hr => first | (go_simp;done) | (go_simp;rfl));intro gb101 hg w42 hbox hb;have n0_ := qq.mk (zv (by repeat (first | (with_reducible first | exact HB.out | apply qj | apply qz | apply qk) | exact HB.out)) hb);have n1_ := qq.mk (hbox);have n2_ := qq.mk ((by rw [hg];exact (zw (by repeat (first | (with_reducible first | exact HB.out | apply qj | apply qz | apply qk) | exact HB.out))) : w.heap.size ≤ gb101));have n3_ := qq.mk ((by rw [hg];exact (zw (by repeat (first | (with_reducible first | exact HB.out | apply qj | apply qz | apply qk) | exact HB.out))) : w.heap.size ≤ gb101));clear HB;have HB := n0_;have BK101 := n1_;have GW101 := n2_;have GE101 := n3_;clear n0_ n1_ n2_ n3_;clear hb hbox hg) | ((with_reducible refine jv (f := 13) rfl ?_);refine goesL_ (some 19) rfl rfl Try.func13 (by kernel_rfl) rfl #[.slice A0 l0.length c0,.int .i64 1048576] rfl (by (try simp only [List.map_toArray,List.map_cons,List.map_nil]);first | done | rfl | (simp only [List.length_drop,List.length_take];rfl)) ?_;(with_reducible refine (xz.calls k _ _ l0 1048576 t102 _ ?side1 ?side2 A5.out).mono ?_);(case side1 => repeat (first | exact (Kd.C_below HR0.out HB.out) | (with_reducible refine Kd.C_alloc ?_ _) | (with_reducible refine Kd.C_drewN ?_ _) | (with_reducible refine Kd.C_drew ?_)));(case side2 => exact HC0.out);rintro e w43 ⟨rfl,hb⟩;refine ⟨_,rfl,?_⟩;have n0_ := qq.mk (kj (g := gb101) (o := .cells #[.string a1_0,.int .i64 a1_1,.int .i64 a1_2,.int .i64 a1_3] 50 (0,0)) (by (with_reducible repeat (first | refine zz ?_ _ | refine zj ?_ | refine zq ?_ _));exact BK101.out) hb);have n1_ := qq.mk (zv (by repeat (first | (with_reducible first | exact HB.out | apply qj | apply qz | apply qk | refine qx ?_ GE101.out) | exact HB.out)) hb);clear BK101;clear HB;have BK101 := n0_;have HB := n1_;clear n0_ n1_;(try clear hb);(try clear hb2);(try clear hk);(try clear hi);have hcz44_0 : w43.cell? ⟨gb101,0,none⟩ = some (.string a1_0) := (qw BK101.out 0).trans rfl;have hcz44_1 : w43.cell? ⟨gb101,1,none⟩ = some (.int .i64 a1_1) := (qw BK101.out 1).trans rfl;have hcz44_2 : w43.cell? ⟨gb101,2,none⟩ = some (.int .i64 a1_2) := (qw BK101.out 2).trans rfl;have hcz44_3 : w43.cell? ⟨gb101,3,none⟩ = some (.int .i64 a1_3) := (qw BK101.out 3).trans rfl;have hfz44_0 := qv BK101.out 0;have hfz44_1 := qv BK101.out 1;have hfz44_2 := qv BK101.out 2;have hfz44_3 := qv BK101.out 3) | ((with_reducible refine jv (f := 23) rfl ?_);refine goesL_ (some 24) rfl rfl Try.func23 (by kernel_rfl) rfl #[.agg #[.string a1_0,.int .i64 a1_1,.int .i64 a1_2,.int .i64 a1_3],.int .i64 t102] rfl (by (try simp only [List.map_toArray,List.map_cons,List.map_nil]);first | done | rfl | (simp only [List.length_drop,List.length_take];rfl)) ?_;(with_reducible refine (xq.calls a1_0 a1_1 a1_2 a1_3 t102 t103 _ A9.out).mono ?_);rintro e w45 ⟨rfl,hb⟩;refine ⟨_,rfl,?_⟩;have n0_ := qq.mk (kj (g := gb101) (o := .cells #[.string a1_0,.int .i64 a1_1,.int .i64 a1_2,.int .i64 a1_3] 50 (0,0)) (by (with_reducible repeat (first | refine zz ?_ _ | refine zj ?_ | refine zq ?_ _));exact BK101.out) hb);have n1_ := qq.mk (zv (by repeat (first | (with_reducible first | exact HB.out | apply qj | apply qz | apply qk | refine qx ?_ GE101.out) | exact HB.out)) hb);clear BK101;clear HB;have BK101 := n0_;have HB := n1_;clear n0_ n1_;(try clear hb);(try clear hb2);(try clear hk);(try clear hi)))
            have n0_ := qq.mk (zj BK101.out)
            have n1_ := qq.mk (qk HB.out)
            clear BK101
            clear HB
            have BK101 := n0_
            have HB := n1_
            clear n0_ n1_
            refine start_ (n := 8) (S := fun w' => w'.cell? ⟨gb101,0,none⟩ = some (.string a1_0) ∧ w'.cell? ⟨gb101,1,none⟩ = some (.int .i64 a1_1) ∧ w'.cell? ⟨gb101,2,none⟩ = some (.int .i64 a1_2) ∧ w'.cell? ⟨gb101,3,none⟩ = some (.int .i64 a1_3)) (ds := []) #[false,false,false,false,false,false,false,false] (by kernel_rfl) rfl rfl ⟨(qw BK101.out 0).trans rfl,(qw BK101.out 1).trans rfl,(qw BK101.out 2).trans rfl,(qw BK101.out 3).trans rfl⟩ (fun hHeld => ?_);refine with_tabW wz.tab8 wz.bits8 (fun HT_ HW_ => ?_)
            generalize w45.drew = w46 at BK101 HB hHeld ⊢
            refine pure_ (i := 0) (N := some 27) (v := ?_) (a' := ?_) #[true,false,false,false,false,false,false,false] rfl rfl (any_of HT_.out (by kernel_rfl)) (fun _ _ _ h => h) (Or.inl ⟨by rfl,?_⟩) ?_ ?_
            rotate_left
            ·intro w'
             go_simp
             with_reducible rfl
            rotate_left
            ·simp only [Act.put,List.setIfInBounds_toArray,List.set_cons_zero,List.set_cons_succ,i64_w,i32_w]
             rfl
            refine pure_ (i := 4) (N := some 31) (v := ?_) (a' := ?_) #[true,false,false,false,true,false,false,false] rfl rfl (any_of HT_.out (by kernel_rfl)) (fun _ _ _ h => h) (Or.inl ⟨by rfl,?_⟩) ?_ ?_
            rotate_left
            ·intro w'
             go_simp
             with_reducible rfl
            rotate_left
            ·simp only [Act.put,List.setIfInBounds_toArray,List.set_cons_zero,List.set_cons_succ,i64_w,i32_w]
             rfl
            refine pure_ (i := 5) (N := some 32) (v := ?_) (a' := ?_) #[true,false,false,false,true,true,false,false] rfl rfl (any_of HT_.out (by kernel_rfl)) (fun _ _ _ h => h) (Or.inl ⟨by rfl,?_⟩) ?_ ?_
            rotate_left
            ·intro w'
             go_simp
             with_reducible rfl
            rotate_left
            ·simp only [Act.put,List.setIfInBounds_toArray,List.set_cons_zero,List.set_cons_succ,i64_w,i32_w]
             rfl
            refine take_ (i := 2) (N := some 29) (v := ?_) (a' := ?_) #[true,false,true,false,true,true,false,false] rfl rfl (take_ofW HT_.out HW_.out (by kernel_rfl)) (fun _ _ _ h => h) (Or.inl ⟨by rfl,?_⟩) hHeld ?_ ?_
            rotate_left
            ·rintro w' ⟨s0,s1,s2,s3⟩
             go_simp
             with_reducible rfl
            rotate_left
            ·simp only [Act.put,List.setIfInBounds_toArray,List.set_cons_zero,List.set_cons_succ,i64_w,i32_w]
             rfl
            refine one_ (i := 1) (N := some 28) #[true,true,true,false,true,true,false,false] rfl rfl (one_of HT_.out (by kernel_rfl)) (by decide) (fun K hK => ?_)
            refine goes_ Try.func15 (by kernel_rfl) rfl #[.slice A0 l0.length c0] (by rfl) rfl rfl (by (try simp only [List.map_toArray,List.map_cons,List.map_nil]);first | done | rfl | (simp only [List.length_drop,List.length_take];rfl)) ?_
            with_reducible refine (xk.calls k _ _ l0 t104 _ ?side1 ?side2 A15.out).mono ?_
            (case side1 => repeat (first | exact (Kd.C_below HR0.out HB.out) | (with_reducible refine Kd.C_alloc ?_ _) | (with_reducible refine Kd.C_drewN ?_ _) | (with_reducible refine Kd.C_drew ?_)))
            (case side2 => exact HC0.out)
            rintro e w47 ⟨v105,rfl,ho0,hb⟩
            refine ⟨_,rfl,?_⟩
            have n0_ := qq.mk (Kd.R_lower ho0 (zw (by repeat (first | (with_reducible first | exact HB.out | apply qj | apply qz | apply qk | refine qx ?_ GE101.out) | exact HB.out))))
            have n1_ := qq.mk (kj (g := gb101) (o := .cells #[.string a1_0,.int .i64 a1_1,.int .i64 a1_2,.int .i64 a1_3] 50 (0,0)) (by (with_reducible repeat (first | refine zz ?_ _ | refine zj ?_ | refine zq ?_ _));exact BK101.out) hb)
            have n2_ := qq.mk (zv (by repeat (first | (with_reducible first | exact HB.out | apply qj | apply qz | apply qk | refine qx ?_ GE101.out) | exact HB.out)) hb)
            clear BK101
            clear HB
            have HO106 := n0_
            have BK101 := n1_
            have HB := n2_
            clear n0_ n1_ n2_
            (try clear hb)
            (try clear hb2)
            (try clear hk)
            (try clear hi)
            (try clear ho0)
            refine hK.out _ _ ⟨(qw BK101.out 0).trans rfl,(qw BK101.out 1).trans rfl,(qw BK101.out 2).trans rfl,(qw BK101.out 3).trans rfl⟩ (fun hHeld => ?_)
            clear hK K
            refine norm_ (a' := ?_) ?_ ?_
            rotate_left
            ·show Act.put _ (some 28) _ = _
             simp only [Act.put,List.setIfInBounds_toArray,List.set_cons_zero,List.set_cons_succ,i64_w,i32_w]
             rfl
            refine one_ (i := 3) (N := some 30) #[true,true,true,true,true,true,false,false] rfl rfl (one_of HT_.out (by kernel_rfl)) (by decide) (fun K hK => ?_)
            refine goes_ Try.func25 (by kernel_rfl) rfl #[.agg #[.string a1_0,.int .i64 a1_1,.int .i64 a1_2,.int .i64 a1_3]] (by rfl) rfl rfl (by (try simp only [List.map_toArray,List.map_cons,List.map_nil]);first | done | rfl | (simp only [List.length_drop,List.length_take];rfl)) ?_
            with_reducible refine (xj.calls a1_0 a1_1 a1_2 a1_3 t107 t108 t109 t110 _ A16.out).mono ?_
            rintro e w48 ⟨rfl,hb⟩
            refine ⟨_,rfl,?_⟩
            have n0_ := qq.mk (Kd.R_below (by (with_reducible repeat (first | apply Kd.jq | apply Kd.zx | apply Kd.jz));exact HO106.out) hb)
            have n1_ := qq.mk (kj (g := gb101) (o := .cells #[.string a1_0,.int .i64 a1_1,.int .i64 a1_2,.int .i64 a1_3] 50 (0,0)) (by (with_reducible repeat (first | refine zz ?_ _ | refine zj ?_ | refine zq ?_ _));exact BK101.out) hb)
            have n2_ := qq.mk (zv (by repeat (first | (with_reducible first | exact HB.out | apply qj | apply qz | apply qk | refine qx ?_ GE101.out) | exact HB.out)) hb)
            clear HO106
            clear BK101
            clear HB
            have HO106 := n0_
            have BK101 := n1_
            have HB := n2_
            clear n0_ n1_ n2_
            (try clear hb)
            (try clear hb2)
            (try clear hk)
            (try clear hi)
            obtain ⟨Ao49,co49,eo49⟩ := Kd.R_slice HO106.out
            (first | subst eo49 | (injection eo49 with f1_ f2_ f3_;have f4_ := f1_.symm;have f5_ := f3_.symm;clear f1_ f2_ f3_;subst f4_;subst f5_))
            refine hK.out _ _ ⟨(qw BK101.out 0).trans rfl,(qw BK101.out 1).trans rfl,(qw BK101.out 2).trans rfl,(qw BK101.out 3).trans rfl⟩ (fun hHeld => ?_)
            clear hK K
            refine norm_ (a' := ?_) ?_ ?_
            rotate_left
            ·show Act.put _ (some 30) _ = _
             simp only [Act.put,List.setIfInBounds_toArray,List.set_cons_zero,List.set_cons_succ,i64_w,i32_w]
             rfl
            refine one_ (i := 6) (N := some 33) #[true,true,true,true,true,true,true,false] rfl rfl (one_of HT_.out (by kernel_rfl)) (by decide) (fun K hK => ?_)
            refine goes_ Try.func24 (by kernel_rfl) rfl #[.slice Ao49 t104.length co49,.agg #[.string t107,.int .i64 t108,.int .i64 t109,.int .i64 t110],.int .i64 a2,.int .i64 a3] (by rfl) rfl rfl (by (try simp only [List.map_toArray,List.map_cons,List.map_nil]);first | done | rfl | (simp only [List.length_drop,List.length_take];rfl)) ?_
            with_reducible refine (xw.calls k _ _ t104 t107 t108 t109 t110 a2 a3 t111 _ ?side1 ?side2 A17.out).mono ?_
            (case side1 => repeat (first | exact (Kd.R_reads' HO106.out).2.2 | (with_reducible refine Kd.C_alloc ?_ _) | (with_reducible refine Kd.C_drewN ?_ _) | (with_reducible refine Kd.C_drew ?_)))
            (case side2 => exact (Kd.R_reads' HO106.out).2.1)
            rintro e w50 ⟨v112,rfl,ho0,hb⟩
            refine ⟨_,rfl,?_⟩
            have n0_ := qq.mk (Kd.R_elder' (by (with_reducible repeat (first | apply Kd.jq | apply Kd.zx | apply Kd.jz));exact HO106.out) (Kd.R_base ho0) hb)
            have n1_ := qq.mk (Kd.R_lower (Kd.R_new' ho0 (Kd.R_lt (by (with_reducible repeat (first | apply Kd.jq | apply Kd.zx | apply Kd.jz));exact HO106.out))) (zw (by repeat (first | (with_reducible first | exact HB.out | apply qj | apply qz | apply qk | refine qx ?_ GE101.out) | exact HB.out))))
            have n2_ := qq.mk (kj (g := gb101) (o := .cells #[.string a1_0,.int .i64 a1_1,.int .i64 a1_2,.int .i64 a1_3] 50 (0,0)) (by (with_reducible repeat (first | refine zz ?_ _ | refine zj ?_ | refine zq ?_ _));exact BK101.out) hb)
            have n3_ := qq.mk (zv (by repeat (first | (with_reducible first | exact HB.out | apply qj | apply qz | apply qk | refine qx ?_ GE101.out) | exact HB.out)) hb)
            clear HO106
            clear BK101
            clear HB
            have HO106 := n0_
            have HO113 := n1_
            have BK101 := n2_
            have HB := n3_
            clear n0_ n1_ n2_ n3_
            (try clear hb)
            (try clear hb2)
            (try clear hk)
            (try clear hi)
            (try clear ho0)
            refine hK.out _ _ ⟨(qw BK101.out 0).trans rfl,(qw BK101.out 1).trans rfl,(qw BK101.out 2).trans rfl,(qw BK101.out 3).trans rfl⟩ (fun hHeld => ?_)
            clear hK K
            refine norm_ (a' := ?_) ?_ ?_
            rotate_left
            ·show Act.put _ (some 33) _ = _
             simp only [Act.put,List.setIfInBounds_toArray,List.set_cons_zero,List.set_cons_succ,i64_w,i32_w]
             rfl
            refine pure_ (i := 7) (N := some 10) (v := ?_) (a' := ?_) #[true,true,true,true,true,true,true,true] rfl rfl (any_of HT_.out (by kernel_rfl)) (fun _ _ _ h => h) (Or.inl ⟨by rfl,?_⟩) ?_ ?_
            rotate_left
            ·intro w'
             go_simp
             with_reducible rfl
            rotate_left
            ·simp only [Act.put,List.setIfInBounds_toArray,List.set_cons_zero,List.set_cons_succ,i64_w,i32_w]
             rfl
            refine done_ (done_of HT_.out (by kernel_rfl)) ?_
            try go_wp2_with (first | ((with_reducible refine jv (f := 15) rfl ?_);refine goesL_ (some 35) rfl rfl Try.func15 (by kernel_rfl) rfl #[.slice A0 l0.length c0] rfl (by (try simp only [List.map_toArray,List.map_cons,List.map_nil]);first | done | rfl | (simp only [List.length_drop,List.length_take];rfl)) ?_;(with_reducible refine (xk.calls k _ _ l0 t114 _ ?side1 ?side2 A18.out).mono ?_);(case side1 => repeat (first | exact (Kd.C_below HR0.out HB.out) | (with_reducible refine Kd.C_alloc ?_ _) | (with_reducible refine Kd.C_drewN ?_ _) | (with_reducible refine Kd.C_drew ?_)));(case side2 => exact HC0.out);rintro e w51 ⟨v115,rfl,ho0,hb⟩;refine ⟨_,rfl,?_⟩;have n0_ := qq.mk (Kd.R_elder' (by (with_reducible repeat (first | apply Kd.jq | apply Kd.zx | apply Kd.jz));exact HO106.out) (Kd.R_base ho0) hb);have n1_ := qq.mk (Kd.R_elder' (by (with_reducible repeat (first | apply Kd.jq | apply Kd.zx | apply Kd.jz));exact HO113.out) (Kd.R_base ho0) hb);have n2_ := qq.mk (Kd.R_lower (Kd.R_new' (Kd.R_new' ho0 (Kd.R_lt (by (with_reducible repeat (first | apply Kd.jq | apply Kd.zx | apply Kd.jz));exact HO106.out))) (Kd.R_lt (by (with_reducible repeat (first | apply Kd.jq | apply Kd.zx | apply Kd.jz));exact HO113.out))) (zw (by repeat (first | (with_reducible first | exact HB.out | apply qj | apply qz | apply qk | refine qx ?_ GE101.out) | exact HB.out))));have n3_ := qq.mk (kj (g := gb101) (o := .cells #[.string a1_0,.int .i64 a1_1,.int .i64 a1_2,.int .i64 a1_3] 50 (0,0)) (by (with_reducible repeat (first | refine zz ?_ _ | refine zj ?_ | refine zq ?_ _));exact BK101.out) hb);have n4_ := qq.mk (zv (by repeat (first | (with_reducible first | exact HB.out | apply qj | apply qz | apply qk | refine qx ?_ GE101.out) | exact HB.out)) hb);clear HO106;clear HO113;clear BK101;clear HB;have HO106 := n0_;have HO113 := n1_;have HO116 := n2_;have BK101 := n3_;have HB := n4_;clear n0_ n1_ n2_ n3_ n4_;(try clear hb);(try clear hb2);(try clear hk);(try clear hi);(try clear ho0);have hcz52_0 : w51.cell? ⟨gb101,0,none⟩ = some (.string a1_0) := (qw BK101.out 0).trans rfl;have hcz52_1 : w51.cell? ⟨gb101,1,none⟩ = some (.int .i64 a1_1) := (qw BK101.out 1).trans rfl;have hcz52_2 : w51.cell? ⟨gb101,2,none⟩ = some (.int .i64 a1_2) := (qw BK101.out 2).trans rfl;have hcz52_3 : w51.cell? ⟨gb101,3,none⟩ = some (.int .i64 a1_3) := (qw BK101.out 3).trans rfl;have hfz52_0 := qv BK101.out 0;have hfz52_1 := qv BK101.out 1;have hfz52_2 := qv BK101.out 2;have hfz52_3 := qv BK101.out 3) | ((with_reducible refine jv (f := 25) rfl ?_);refine goesL_ (some 38) rfl rfl Try.func25 (by kernel_rfl) rfl #[.agg #[.string a1_0,.int .i64 a1_1,.int .i64 a1_2,.int .i64 a1_3]] rfl (by (try simp only [List.map_toArray,List.map_cons,List.map_nil]);first | done | rfl | (simp only [List.length_drop,List.length_take];rfl)) ?_;(with_reducible refine (xj.calls a1_0 a1_1 a1_2 a1_3 t117 t118 t119 t120 _ A19.out).mono ?_);rintro e w53 ⟨rfl,hb⟩;refine ⟨_,rfl,?_⟩;have n0_ := qq.mk (Kd.R_below (by (with_reducible repeat (first | apply Kd.jq | apply Kd.zx | apply Kd.jz));exact HO106.out) hb);have n1_ := qq.mk (Kd.R_below (by (with_reducible repeat (first | apply Kd.jq | apply Kd.zx | apply Kd.jz));exact HO113.out) hb);have n2_ := qq.mk (Kd.R_below (by (with_reducible repeat (first | apply Kd.jq | apply Kd.zx | apply Kd.jz));exact HO116.out) hb);have n3_ := qq.mk (kj (g := gb101) (o := .cells #[.string a1_0,.int .i64 a1_1,.int .i64 a1_2,.int .i64 a1_3] 50 (0,0)) (by (with_reducible repeat (first | refine zz ?_ _ | refine zj ?_ | refine zq ?_ _));exact BK101.out) hb);have n4_ := qq.mk (zv (by repeat (first | (with_reducible first | exact HB.out | apply qj | apply qz | apply qk | refine qx ?_ GE101.out) | exact HB.out)) hb);clear HO106;clear HO113;clear HO116;clear BK101;clear HB;have HO106 := n0_;have HO113 := n1_;have HO116 := n2_;have BK101 := n3_;have HB := n4_;clear n0_ n1_ n2_ n3_ n4_;(try clear hb);(try clear hb2);(try clear hk);(try clear hi);obtain ⟨Ao54,co54,eo54⟩ := Kd.R_slice HO116.out;subst eo54) | ((with_reducible refine jv (f := 26) rfl ?_);refine goesL_ (some 41) rfl rfl Try.func26 (by kernel_rfl) rfl #[.slice Ao54 t114.length co54,.agg #[.string t117,.int .i64 t118,.int .i64 t119,.int .i64 t120],.int .i64 a2,.int .i64 a3] rfl (by (try simp only [List.map_toArray,List.map_cons,List.map_nil]);first | done | rfl | (simp only [List.length_drop,List.length_take];rfl)) ?_;(with_reducible refine (vq.calls k _ _ t114 t117 t118 t119 t120 a2 a3 t121 _ ?side1 ?side2 A20.out).mono ?_);(case side1 => repeat (first | exact (Kd.R_reads' HO116.out).2.2 | (with_reducible refine Kd.C_alloc ?_ _) | (with_reducible refine Kd.C_drewN ?_ _) | (with_reducible refine Kd.C_drew ?_)));(case side2 => exact (Kd.R_reads' HO116.out).2.1);rintro e w55 ⟨v122,rfl,ho0,hb⟩;refine ⟨_,rfl,?_⟩;have n0_ := qq.mk (Kd.R_elder' (by (with_reducible repeat (first | apply Kd.jq | apply Kd.zx | apply Kd.jz));exact HO106.out) (Kd.R_base ho0) hb);have n1_ := qq.mk (Kd.R_elder' (by (with_reducible repeat (first | apply Kd.jq | apply Kd.zx | apply Kd.jz));exact HO113.out) (Kd.R_base ho0) hb);have n2_ := qq.mk (Kd.R_elder' (by (with_reducible repeat (first | apply Kd.jq | apply Kd.zx | apply Kd.jz));exact HO116.out) (Kd.R_base ho0) hb);have n3_ := qq.mk (Kd.R_lower (Kd.R_new' (Kd.R_new' (Kd.R_new' ho0 (Kd.R_lt (by (with_reducible repeat (first | apply Kd.jq | apply Kd.zx | apply Kd.jz));exact HO106.out))) (Kd.R_lt (by (with_reducible repeat (first | apply Kd.jq | apply Kd.zx | apply Kd.jz));exact HO113.out))) (Kd.R_lt (by (with_reducible repeat (first | apply Kd.jq | apply Kd.zx | apply Kd.jz));exact HO116.out))) (zw (by repeat (first | (with_reducible first | exact HB.out | apply qj | apply qz | apply qk | refine qx ?_ GE101.out) | exact HB.out))));have n4_ := qq.mk (kj (g := gb101) (o := .cells #[.string a1_0,.int .i64 a1_1,.int .i64 a1_2,.int .i64 a1_3] 50 (0,0)) (by (with_reducible repeat (first | refine zz ?_ _ | refine zj ?_ | refine zq ?_ _));exact BK101.out) hb);have n5_ := qq.mk (zv (by repeat (first | (with_reducible first | exact HB.out | apply qj | apply qz | apply qk | refine qx ?_ GE101.out) | exact HB.out)) hb);clear HO106;clear HO113;clear HO116;clear BK101;clear HB;have HO106 := n0_;have HO113 := n1_;have HO116 := n2_;have HO123 := n3_;have BK101 := n4_;have HB := n5_;clear n0_ n1_ n2_ n3_ n4_ n5_;(try clear hb);(try clear hb2);(try clear hk);(try clear hi);(try clear ho0);obtain ⟨Ao56,co56,eo56⟩ := Kd.R_slice HO123.out;subst eo56;obtain ⟨Ao57,co57,eo57⟩ := Kd.R_slice HO113.out;subst eo57) | ((with_reducible refine jv (f := 17) rfl ?_);refine goesL_ (some 44) rfl rfl Try.func17 (by kernel_rfl) rfl #[.slice Ao56 t121.length co56,.slice Ao57 t111.length co57] rfl (by (try simp only [List.map_toArray,List.map_cons,List.map_nil]);first | done | rfl | (simp only [List.length_drop,List.length_take];rfl)) ?_;(with_reducible refine (wk.calls k _ _ t121 _ _ t111 true _ ?side1 ?side2 ?side3 ?side4 A21.out).mono ?_);(case side1 => repeat (first | exact (Kd.R_reads' HO123.out).2.2 | (with_reducible refine Kd.C_alloc ?_ _) | (with_reducible refine Kd.C_drewN ?_ _) | (with_reducible refine Kd.C_drew ?_)));(case side2 => exact (Kd.R_reads' HO123.out).2.1);(case side3 => repeat (first | exact (Kd.R_reads' HO113.out).2.2 | (with_reducible refine Kd.C_alloc ?_ _) | (with_reducible refine Kd.C_drewN ?_ _) | (with_reducible refine Kd.C_drew ?_)));(case side4 => exact (Kd.R_reads' HO113.out).2.1);rintro e w58 ⟨rfl,hb⟩;refine ⟨_,rfl,?_⟩;have n0_ := qq.mk (Kd.R_below (by (with_reducible repeat (first | apply Kd.jq | apply Kd.zx | apply Kd.jz));exact HO106.out) hb);have n1_ := qq.mk (Kd.R_below (by (with_reducible repeat (first | apply Kd.jq | apply Kd.zx | apply Kd.jz));exact HO113.out) hb);have n2_ := qq.mk (Kd.R_below (by (with_reducible repeat (first | apply Kd.jq | apply Kd.zx | apply Kd.jz));exact HO116.out) hb);have n3_ := qq.mk (Kd.R_below (by (with_reducible repeat (first | apply Kd.jq | apply Kd.zx | apply Kd.jz));exact HO123.out) hb);have n4_ := qq.mk (kj (g := gb101) (o := .cells #[.string a1_0,.int .i64 a1_1,.int .i64 a1_2,.int .i64 a1_3] 50 (0,0)) (by (with_reducible repeat (first | refine zz ?_ _ | refine zj ?_ | refine zq ?_ _));exact BK101.out) hb);have n5_ := qq.mk (zv (by repeat (first | (with_reducible first | exact HB.out | apply qj | apply qz | apply qk | refine qx ?_ GE101.out) | exact HB.out)) hb);clear HO106;clear HO113;clear HO116;clear HO123;clear BK101;clear HB;have HO106 := n0_;have HO113 := n1_;have HO116 := n2_;have HO123 := n3_;have BK101 := n4_;have HB := n5_;clear n0_ n1_ n2_ n3_ n4_ n5_;(try clear hb);(try clear hb2);(try clear hk);(try clear hi)) | ((with_reducible refine jv (f := 15) rfl ?_);refine goesL_ (some 48) rfl rfl Try.func15 (by kernel_rfl) rfl #[.slice A0 l0.length c0] rfl (by (try simp only [List.map_toArray,List.map_cons,List.map_nil]);first | done | rfl | (simp only [List.length_drop,List.length_take];rfl)) ?_;(with_reducible refine (xk.calls k _ _ l0 t125 _ ?side1 ?side2 A23.out).mono ?_);(case side1 => repeat (first | exact (Kd.C_below HR0.out HB.out) | (with_reducible refine Kd.C_alloc ?_ _) | (with_reducible refine Kd.C_drewN ?_ _) | (with_reducible refine Kd.C_drew ?_)));(case side2 => exact HC0.out);rintro e w59 ⟨v126,rfl,ho0,hb⟩;refine ⟨_,rfl,?_⟩;have n0_ := qq.mk (Kd.R_elder' (by (with_reducible repeat (first | apply Kd.jq | apply Kd.zx | apply Kd.jz));exact HO106.out) (Kd.R_base ho0) hb);have n1_ := qq.mk (Kd.R_elder' (by (with_reducible repeat (first | apply Kd.jq | apply Kd.zx | apply Kd.jz));exact HO113.out) (Kd.R_base ho0) hb);have n2_ := qq.mk (Kd.R_elder' (by (with_reducible repeat (first | apply Kd.jq | apply Kd.zx | apply Kd.jz));exact HO116.out) (Kd.R_base ho0) hb);have n3_ := qq.mk (Kd.R_elder' (by (with_reducible repeat (first | apply Kd.jq | apply Kd.zx | apply Kd.jz));exact HO123.out) (Kd.R_base ho0) hb);have n4_ := qq.mk (Kd.R_lower (Kd.R_new' (Kd.R_new' (Kd.R_new' (Kd.R_new' ho0 (Kd.R_lt (by (with_reducible repeat (first | apply Kd.jq | apply Kd.zx | apply Kd.jz));exact HO106.out))) (Kd.R_lt (by (with_reducible repeat (first | apply Kd.jq | apply Kd.zx | apply Kd.jz));exact HO113.out))) (Kd.R_lt (by (with_reducible repeat (first | apply Kd.jq | apply Kd.zx | apply Kd.jz));exact HO116.out))) (Kd.R_lt (by (with_reducible repeat (first | apply Kd.jq | apply Kd.zx | apply Kd.jz));exact HO123.out))) (zw (by repeat (first | (with_reducible first | exact HB.out | apply qj | apply qz | apply qk | refine qx ?_ GE101.out) | exact HB.out))));have n5_ := qq.mk (kj (g := gb101) (o := .cells #[.string a1_0,.int .i64 a1_1,.int .i64 a1_2,.int .i64 a1_3] 50 (0,0)) (by (with_reducible repeat (first | refine zz ?_ _ | refine zj ?_ | refine zq ?_ _));exact BK101.out) hb);have n6_ := qq.mk (zv (by repeat (first | (with_reducible first | exact HB.out | apply qj | apply qz | apply qk | refine qx ?_ GE101.out) | exact HB.out)) hb);clear HO106;clear HO113;clear HO116;clear HO123;clear BK101;clear HB;have HO106 := n0_;have HO113 := n1_;have HO116 := n2_;have HO123 := n3_;have HO127 := n4_;have BK101 := n5_;have HB := n6_;clear n0_ n1_ n2_ n3_ n4_ n5_ n6_;(try clear hb);(try clear hb2);(try clear hk);(try clear hi);(try clear ho0);obtain ⟨Ao60,co60,eo60⟩ := Kd.R_slice HO127.out;subst eo60) | ((with_reducible refine jv (f := 17) rfl ?_);refine goesL_ (some 49) rfl rfl Try.func17 (by kernel_rfl) rfl #[.slice Ao54 t114.length co54,.slice Ao60 t125.length co60] rfl (by (try simp only [List.map_toArray,List.map_cons,List.map_nil]);first | done | rfl | (simp only [List.length_drop,List.length_take];rfl)) ?_;(with_reducible refine (wk.calls k _ _ t114 _ _ t125 true _ ?side1 ?side2 ?side3 ?side4 A24.out).mono ?_);(case side1 => repeat (first | exact (Kd.R_reads' HO116.out).2.2 | (with_reducible refine Kd.C_alloc ?_ _) | (with_reducible refine Kd.C_drewN ?_ _) | (with_reducible refine Kd.C_drew ?_)));(case side2 => exact (Kd.R_reads' HO116.out).2.1);(case side3 => repeat (first | exact (Kd.R_reads' HO127.out).2.2 | (with_reducible refine Kd.C_alloc ?_ _) | (with_reducible refine Kd.C_drewN ?_ _) | (with_reducible refine Kd.C_drew ?_)));(case side4 => exact (Kd.R_reads' HO127.out).2.1);rintro e w61 ⟨rfl,hb⟩;refine ⟨_,rfl,?_⟩;have n0_ := qq.mk (Kd.R_below (by (with_reducible repeat (first | apply Kd.jq | apply Kd.zx | apply Kd.jz));exact HO106.out) hb);have n1_ := qq.mk (Kd.R_below (by (with_reducible repeat (first | apply Kd.jq | apply Kd.zx | apply Kd.jz));exact HO113.out) hb);have n2_ := qq.mk (Kd.R_below (by (with_reducible repeat (first | apply Kd.jq | apply Kd.zx | apply Kd.jz));exact HO116.out) hb);have n3_ := qq.mk (Kd.R_below (by (with_reducible repeat (first | apply Kd.jq | apply Kd.zx | apply Kd.jz));exact HO123.out) hb);have n4_ := qq.mk (Kd.R_below (by (with_reducible repeat (first | apply Kd.jq | apply Kd.zx | apply Kd.jz));exact HO127.out) hb);have n5_ := qq.mk (kj (g := gb101) (o := .cells #[.string a1_0,.int .i64 a1_1,.int .i64 a1_2,.int .i64 a1_3] 50 (0,0)) (by (with_reducible repeat (first | refine zz ?_ _ | refine zj ?_ | refine zq ?_ _));exact BK101.out) hb);have n6_ := qq.mk (zv (by repeat (first | (with_reducible first | exact HB.out | apply qj | apply qz | apply qk | refine qx ?_ GE101.out) | exact HB.out)) hb);clear HO106;clear HO113;clear HO116;clear HO123;clear HO127;clear BK101;clear HB;have HO106 := n0_;have HO113 := n1_;have HO116 := n2_;have HO123 := n3_;have HO127 := n4_;have BK101 := n5_;have HB := n6_;clear n0_ n1_ n2_ n3_ n4_ n5_ n6_;(try clear hb);(try clear hb2);(try clear hk);(try clear hi)) | ((with_reducible refine jv (f := 27) rfl ?_);refine goesL_ (some 53) rfl rfl Try.func27 (by kernel_rfl) rfl #[.slice Ao54 t114.length co54,.int .i64 1] rfl (by (try simp only [List.map_toArray,List.map_cons,List.map_nil]);first | done | rfl | (simp only [List.length_drop,List.length_take];rfl)) ?_;(with_reducible refine (ww.calls k (fun k_ => some k_ = (.slice Ao54 t114.length co54 : Value).ownBlock) (.slice Ao54 t114.length co54) t114 1 t129 t130 w _ ?side1 ?side2 A26.out).mono ?_);(case side1 => repeat (first | (with_reducible first | exact HB.out | apply qj | apply qz | apply qk | refine qx ?_ GE101.out) | exact HB.out));(case side2 => exact Kd.R_tight rfl HO116.out);rintro e w62 ⟨rfl,hy0,hb,hkp⟩;refine ⟨_,rfl,?_⟩;have n0_ := qq.mk (blk_kept (by (with_reducible repeat (first | refine zz ?_ _ | refine zj ?_ | refine zq ?_ _));exact BK101.out) hkp (fun hs_ => (fun e_ => (Kd.R_ne HO116.out BK101.out (by decide)) e_) hs_));have n1_ := qq.mk (Kd.R_mono (ok' := fun k_ => some k_ ≠ (.slice Ao57 t111.length co57 : Value).ownBlock ∧ some k_ ≠ (.slice Ao54 t114.length co54 : Value).ownBlock ∧ some k_ ≠ (.slice Ao56 t121.length co56 : Value).ownBlock ∧ some k_ ≠ (.slice Ao60 t125.length co60 : Value).ownBlock) (Kd.R_keptB (HO106.out) hkp (fun k_ hk_ hs_ => absurd hs_ (by first | exact hk_.1.1.2 | ((try simp only [and_assoc] at hk_);first | exact hk_.1 | exact hk_.2.1 | exact hk_.2.2.1 | exact hk_.2.2.2.1 | exact hk_.2.2.2.2.1 | exact hk_.2.2.2.2.2.1 | exact hk_.2.2.2.2.2.2.1 | exact hk_.2.2.2.2.2.2.2.1 | exact hk_.2.2.2.2.2.2.2.2.1 | exact hk_.2.2.2.2.2.2.2.2.2.1 | exact hk_.2.2.2.2.2.2.2.2.2.2.1 | exact hk_.2.2.2.2.2.2.2.2.2.2.2.1 | exact hk_.2.2.2.2.2.2.2.2.2.2.2.2.1 | exact hk_.2.2.2.2.2.2.2.2.2.2.2.2.2.1 | exact hk_.2.2.2.2.2.2.2.2.2.2.2.2.2.2.1 | exact hk_.2.2.2.2.2.2.2.2.2.2.2.2.2.2.2.1 | exact hk_.2 | exact hk_.2.2 | exact hk_.2.2.2 | exact hk_.2.2.2.2 | exact hk_.2.2.2.2.2 | exact hk_.2.2.2.2.2.2 | exact hk_.2.2.2.2.2.2.2 | exact hk_.2.2.2.2.2.2.2.2 | exact hk_.2.2.2.2.2.2.2.2.2 | exact hk_.2.2.2.2.2.2.2.2.2.2 | exact hk_.2.2.2.2.2.2.2.2.2.2.2 | exact hk_.2.2.2.2.2.2.2.2.2.2.2.2 | exact hk_.2.2.2.2.2.2.2.2.2.2.2.2.2 | exact hk_.2.2.2.2.2.2.2.2.2.2.2.2.2.2 | exact hk_.2.2.2.2.2.2.2.2.2.2.2.2.2.2.2)))) (fun k_ hk_ => by first | exact ⟨hk_.1.1.1.1.2,hk_.1.1.1.2,hk_.1.1.2,hk_.1.2⟩ | ((try simp only [and_assoc] at hk_);(try simp only [and_assoc]);(repeat' refine And.intro ?_ ?_) <;> (first | exact hk_.1 | exact hk_.2.1 | exact hk_.2.2.1 | exact hk_.2.2.2.1 | exact hk_.2.2.2.2.1 | exact hk_.2.2.2.2.2.1 | exact hk_.2.2.2.2.2.2.1 | exact hk_.2.2.2.2.2.2.2.1 | exact hk_.2.2.2.2.2.2.2.2.1 | exact hk_.2.2.2.2.2.2.2.2.2.1 | exact hk_.2.2.2.2.2.2.2.2.2.2.1 | exact hk_.2.2.2.2.2.2.2.2.2.2.2.1 | exact hk_.2.2.2.2.2.2.2.2.2.2.2.2.1 | exact hk_.2.2.2.2.2.2.2.2.2.2.2.2.2.1 | exact hk_.2.2.2.2.2.2.2.2.2.2.2.2.2.2.1 | exact hk_.2.2.2.2.2.2.2.2.2.2.2.2.2.2.2.1 | exact hk_.2 | exact hk_.2.2 | exact hk_.2.2.2 | exact hk_.2.2.2.2 | exact hk_.2.2.2.2.2 | exact hk_.2.2.2.2.2.2 | exact hk_.2.2.2.2.2.2.2 | exact hk_.2.2.2.2.2.2.2.2 | exact hk_.2.2.2.2.2.2.2.2.2 | exact hk_.2.2.2.2.2.2.2.2.2.2 | exact hk_.2.2.2.2.2.2.2.2.2.2.2 | exact hk_.2.2.2.2.2.2.2.2.2.2.2.2 | exact hk_.2.2.2.2.2.2.2.2.2.2.2.2.2 | exact hk_.2.2.2.2.2.2.2.2.2.2.2.2.2.2 | exact hk_.2.2.2.2.2.2.2.2.2.2.2.2.2.2.2))));have n2_ := qq.mk (Kd.R_mono (ok' := fun k_ => some k_ ≠ (.slice Ao49 t104.length co49 : Value).ownBlock ∧ some k_ ≠ (.slice Ao54 t114.length co54 : Value).ownBlock ∧ some k_ ≠ (.slice Ao56 t121.length co56 : Value).ownBlock ∧ some k_ ≠ (.slice Ao60 t125.length co60 : Value).ownBlock) (Kd.R_keptB (HO113.out) hkp (fun k_ hk_ hs_ => absurd hs_ (by first | exact hk_.1.1.2 | ((try simp only [and_assoc] at hk_);first | exact hk_.1 | exact hk_.2.1 | exact hk_.2.2.1 | exact hk_.2.2.2.1 | exact hk_.2.2.2.2.1 | exact hk_.2.2.2.2.2.1 | exact hk_.2.2.2.2.2.2.1 | exact hk_.2.2.2.2.2.2.2.1 | exact hk_.2.2.2.2.2.2.2.2.1 | exact hk_.2.2.2.2.2.2.2.2.2.1 | exact hk_.2.2.2.2.2.2.2.2.2.2.1 | exact hk_.2.2.2.2.2.2.2.2.2.2.2.1 | exact hk_.2.2.2.2.2.2.2.2.2.2.2.2.1 | exact hk_.2.2.2.2.2.2.2.2.2.2.2.2.2.1 | exact hk_.2.2.2.2.2.2.2.2.2.2.2.2.2.2.1 | exact hk_.2.2.2.2.2.2.2.2.2.2.2.2.2.2.2.1 | exact hk_.2 | exact hk_.2.2 | exact hk_.2.2.2 | exact hk_.2.2.2.2 | exact hk_.2.2.2.2.2 | exact hk_.2.2.2.2.2.2 | exact hk_.2.2.2.2.2.2.2 | exact hk_.2.2.2.2.2.2.2.2 | exact hk_.2.2.2.2.2.2.2.2.2 | exact hk_.2.2.2.2.2.2.2.2.2.2 | exact hk_.2.2.2.2.2.2.2.2.2.2.2 | exact hk_.2.2.2.2.2.2.2.2.2.2.2.2 | exact hk_.2.2.2.2.2.2.2.2.2.2.2.2.2 | exact hk_.2.2.2.2.2.2.2.2.2.2.2.2.2.2 | exact hk_.2.2.2.2.2.2.2.2.2.2.2.2.2.2.2)))) (fun k_ hk_ => by first | exact ⟨hk_.1.1.1.1.2,hk_.1.1.1.2,hk_.1.1.2,hk_.1.2⟩ | ((try simp only [and_assoc] at hk_);(try simp only [and_assoc]);(repeat' refine And.intro ?_ ?_) <;> (first | exact hk_.1 | exact hk_.2.1 | exact hk_.2.2.1 | exact hk_.2.2.2.1 | exact hk_.2.2.2.2.1 | exact hk_.2.2.2.2.2.1 | exact hk_.2.2.2.2.2.2.1 | exact hk_.2.2.2.2.2.2.2.1 | exact hk_.2.2.2.2.2.2.2.2.1 | exact hk_.2.2.2.2.2.2.2.2.2.1 | exact hk_.2.2.2.2.2.2.2.2.2.2.1 | exact hk_.2.2.2.2.2.2.2.2.2.2.2.1 | exact hk_.2.2.2.2.2.2.2.2.2.2.2.2.1 | exact hk_.2.2.2.2.2.2.2.2.2.2.2.2.2.1 | exact hk_.2.2.2.2.2.2.2.2.2.2.2.2.2.2.1 | exact hk_.2.2.2.2.2.2.2.2.2.2.2.2.2.2.2.1 | exact hk_.2 | exact hk_.2.2 | exact hk_.2.2.2 | exact hk_.2.2.2.2 | exact hk_.2.2.2.2.2 | exact hk_.2.2.2.2.2.2 | exact hk_.2.2.2.2.2.2.2 | exact hk_.2.2.2.2.2.2.2.2 | exact hk_.2.2.2.2.2.2.2.2.2 | exact hk_.2.2.2.2.2.2.2.2.2.2 | exact hk_.2.2.2.2.2.2.2.2.2.2.2 | exact hk_.2.2.2.2.2.2.2.2.2.2.2.2 | exact hk_.2.2.2.2.2.2.2.2.2.2.2.2.2 | exact hk_.2.2.2.2.2.2.2.2.2.2.2.2.2.2 | exact hk_.2.2.2.2.2.2.2.2.2.2.2.2.2.2.2))));have n3_ := qq.mk (Kd.R_reok rfl hy0 (fun k_ e_ => HO116.out.1 k_ e_));have n4_ := qq.mk (Kd.R_mono (ok' := fun k_ => some k_ ≠ (.slice Ao49 t104.length co49 : Value).ownBlock ∧ some k_ ≠ (.slice Ao57 t111.length co57 : Value).ownBlock ∧ some k_ ≠ (.slice Ao54 t114.length co54 : Value).ownBlock ∧ some k_ ≠ (.slice Ao60 t125.length co60 : Value).ownBlock) (Kd.R_keptB (HO123.out) hkp (fun k_ hk_ hs_ => absurd hs_ (by first | exact hk_.1.2 | ((try simp only [and_assoc] at hk_);first | exact hk_.1 | exact hk_.2.1 | exact hk_.2.2.1 | exact hk_.2.2.2.1 | exact hk_.2.2.2.2.1 | exact hk_.2.2.2.2.2.1 | exact hk_.2.2.2.2.2.2.1 | exact hk_.2.2.2.2.2.2.2.1 | exact hk_.2.2.2.2.2.2.2.2.1 | exact hk_.2.2.2.2.2.2.2.2.2.1 | exact hk_.2.2.2.2.2.2.2.2.2.2.1 | exact hk_.2.2.2.2.2.2.2.2.2.2.2.1 | exact hk_.2.2.2.2.2.2.2.2.2.2.2.2.1 | exact hk_.2.2.2.2.2.2.2.2.2.2.2.2.2.1 | exact hk_.2.2.2.2.2.2.2.2.2.2.2.2.2.2.1 | exact hk_.2.2.2.2.2.2.2.2.2.2.2.2.2.2.2.1 | exact hk_.2 | exact hk_.2.2 | exact hk_.2.2.2 | exact hk_.2.2.2.2 | exact hk_.2.2.2.2.2 | exact hk_.2.2.2.2.2.2 | exact hk_.2.2.2.2.2.2.2 | exact hk_.2.2.2.2.2.2.2.2 | exact hk_.2.2.2.2.2.2.2.2.2 | exact hk_.2.2.2.2.2.2.2.2.2.2 | exact hk_.2.2.2.2.2.2.2.2.2.2.2 | exact hk_.2.2.2.2.2.2.2.2.2.2.2.2 | exact hk_.2.2.2.2.2.2.2.2.2.2.2.2.2 | exact hk_.2.2.2.2.2.2.2.2.2.2.2.2.2.2 | exact hk_.2.2.2.2.2.2.2.2.2.2.2.2.2.2.2)))) (fun k_ hk_ => by first | exact ⟨hk_.1.1.1.1.2,hk_.1.1.1.2,hk_.1.1.2,hk_.1.2⟩ | ((try simp only [and_assoc] at hk_);(try simp only [and_assoc]);(repeat' refine And.intro ?_ ?_) <;> (first | exact hk_.1 | exact hk_.2.1 | exact hk_.2.2.1 | exact hk_.2.2.2.1 | exact hk_.2.2.2.2.1 | exact hk_.2.2.2.2.2.1 | exact hk_.2.2.2.2.2.2.1 | exact hk_.2.2.2.2.2.2.2.1 | exact hk_.2.2.2.2.2.2.2.2.1 | exact hk_.2.2.2.2.2.2.2.2.2.1 | exact hk_.2.2.2.2.2.2.2.2.2.2.1 | exact hk_.2.2.2.2.2.2.2.2.2.2.2.1 | exact hk_.2.2.2.2.2.2.2.2.2.2.2.2.1 | exact hk_.2.2.2.2.2.2.2.2.2.2.2.2.2.1 | exact hk_.2.2.2.2.2.2.2.2.2.2.2.2.2.2.1 | exact hk_.2.2.2.2.2.2.2.2.2.2.2.2.2.2.2.1 | exact hk_.2 | exact hk_.2.2 | exact hk_.2.2.2 | exact hk_.2.2.2.2 | exact hk_.2.2.2.2.2 | exact hk_.2.2.2.2.2.2 | exact hk_.2.2.2.2.2.2.2 | exact hk_.2.2.2.2.2.2.2.2 | exact hk_.2.2.2.2.2.2.2.2.2 | exact hk_.2.2.2.2.2.2.2.2.2.2 | exact hk_.2.2.2.2.2.2.2.2.2.2.2 | exact hk_.2.2.2.2.2.2.2.2.2.2.2.2 | exact hk_.2.2.2.2.2.2.2.2.2.2.2.2.2 | exact hk_.2.2.2.2.2.2.2.2.2.2.2.2.2.2 | exact hk_.2.2.2.2.2.2.2.2.2.2.2.2.2.2.2))));have n5_ := qq.mk (Kd.R_mono (ok' := fun k_ => some k_ ≠ (.slice Ao49 t104.length co49 : Value).ownBlock ∧ some k_ ≠ (.slice Ao57 t111.length co57 : Value).ownBlock ∧ some k_ ≠ (.slice Ao54 t114.length co54 : Value).ownBlock ∧ some k_ ≠ (.slice Ao56 t121.length co56 : Value).ownBlock) (Kd.R_keptB (HO127.out) hkp (fun k_ hk_ hs_ => absurd hs_ (by first | exact hk_.1.2 | ((try simp only [and_assoc] at hk_);first | exact hk_.1 | exact hk_.2.1 | exact hk_.2.2.1 | exact hk_.2.2.2.1 | exact hk_.2.2.2.2.1 | exact hk_.2.2.2.2.2.1 | exact hk_.2.2.2.2.2.2.1 | exact hk_.2.2.2.2.2.2.2.1 | exact hk_.2.2.2.2.2.2.2.2.1 | exact hk_.2.2.2.2.2.2.2.2.2.1 | exact hk_.2.2.2.2.2.2.2.2.2.2.1 | exact hk_.2.2.2.2.2.2.2.2.2.2.2.1 | exact hk_.2.2.2.2.2.2.2.2.2.2.2.2.1 | exact hk_.2.2.2.2.2.2.2.2.2.2.2.2.2.1 | exact hk_.2.2.2.2.2.2.2.2.2.2.2.2.2.2.1 | exact hk_.2.2.2.2.2.2.2.2.2.2.2.2.2.2.2.1 | exact hk_.2 | exact hk_.2.2 | exact hk_.2.2.2 | exact hk_.2.2.2.2 | exact hk_.2.2.2.2.2 | exact hk_.2.2.2.2.2.2 | exact hk_.2.2.2.2.2.2.2 | exact hk_.2.2.2.2.2.2.2.2 | exact hk_.2.2.2.2.2.2.2.2.2 | exact hk_.2.2.2.2.2.2.2.2.2.2 | exact hk_.2.2.2.2.2.2.2.2.2.2.2 | exact hk_.2.2.2.2.2.2.2.2.2.2.2.2 | exact hk_.2.2.2.2.2.2.2.2.2.2.2.2.2 | exact hk_.2.2.2.2.2.2.2.2.2.2.2.2.2.2 | exact hk_.2.2.2.2.2.2.2.2.2.2.2.2.2.2.2)))) (fun k_ hk_ => by first | exact ⟨hk_.1.1.1.1.2,hk_.1.1.1.2,hk_.1.1.2,hk_.1.2⟩ | ((try simp only [and_assoc] at hk_);(try simp only [and_assoc]);(repeat' refine And.intro ?_ ?_) <;> (first | exact hk_.1 | exact hk_.2.1 | exact hk_.2.2.1 | exact hk_.2.2.2.1 | exact hk_.2.2.2.2.1 | exact hk_.2.2.2.2.2.1 | exact hk_.2.2.2.2.2.2.1 | exact hk_.2.2.2.2.2.2.2.1 | exact hk_.2.2.2.2.2.2.2.2.1 | exact hk_.2.2.2.2.2.2.2.2.2.1 | exact hk_.2.2.2.2.2.2.2.2.2.2.1 | exact hk_.2.2.2.2.2.2.2.2.2.2.2.1 | exact hk_.2.2.2.2.2.2.2.2.2.2.2.2.1 | exact hk_.2.2.2.2.2.2.2.2.2.2.2.2.2.1 | exact hk_.2.2.2.2.2.2.2.2.2.2.2.2.2.2.1 | exact hk_.2.2.2.2.2.2.2.2.2.2.2.2.2.2.2.1 | exact hk_.2 | exact hk_.2.2 | exact hk_.2.2.2 | exact hk_.2.2.2.2 | exact hk_.2.2.2.2.2 | exact hk_.2.2.2.2.2.2 | exact hk_.2.2.2.2.2.2.2 | exact hk_.2.2.2.2.2.2.2.2 | exact hk_.2.2.2.2.2.2.2.2.2 | exact hk_.2.2.2.2.2.2.2.2.2.2 | exact hk_.2.2.2.2.2.2.2.2.2.2.2 | exact hk_.2.2.2.2.2.2.2.2.2.2.2.2 | exact hk_.2.2.2.2.2.2.2.2.2.2.2.2.2 | exact hk_.2.2.2.2.2.2.2.2.2.2.2.2.2.2 | exact hk_.2.2.2.2.2.2.2.2.2.2.2.2.2.2.2))));have n6_ := qq.mk (hb);clear BK101;clear HO106;clear HO113;clear HO116;clear HO123;clear HO127;clear HB;have BK101 := n0_;have HO106 := n1_;have HO113 := n2_;have HO116 := n3_;have HO123 := n4_;have HO127 := n5_;have HB := n6_;clear n0_ n1_ n2_ n3_ n4_ n5_ n6_;(try clear hb);(try clear hkp);(try clear hy0)) | (go_at_call 17;(with_reducible refine (wk.calls k _ _ t121 _ _ t111 true _ ?side1 ?side2 ?side3 ?side4 A28.out).mono ?_);(case side1 => repeat (first | exact (Kd.R_reads' HO123.out).2.2 | (with_reducible refine Kd.C_alloc ?_ _) | (with_reducible refine Kd.C_drewN ?_ _) | (with_reducible refine Kd.C_drew ?_)));(case side2 => exact (Kd.R_reads' HO123.out).2.1);(case side3 => repeat (first | exact (Kd.R_reads' HO113.out).2.2 | (with_reducible refine Kd.C_alloc ?_ _) | (with_reducible refine Kd.C_drewN ?_ _) | (with_reducible refine Kd.C_drew ?_)));(case side4 => exact (Kd.R_reads' HO113.out).2.1);rintro e w63 ⟨rfl,hb⟩;have n0_ := qq.mk (Kd.R_below (by (with_reducible repeat (first | apply Kd.jq | apply Kd.zx | apply Kd.jz));exact HO106.out) hb);have n1_ := qq.mk (Kd.R_below (by (with_reducible repeat (first | apply Kd.jq | apply Kd.zx | apply Kd.jz));exact HO113.out) hb);have n2_ := qq.mk (Kd.R_below (by (with_reducible repeat (first | apply Kd.jq | apply Kd.zx | apply Kd.jz));exact HO116.out) hb);have n3_ := qq.mk (Kd.R_below (by (with_reducible repeat (first | apply Kd.jq | apply Kd.zx | apply Kd.jz));exact HO123.out) hb);have n4_ := qq.mk (Kd.R_below (by (with_reducible repeat (first | apply Kd.jq | apply Kd.zx | apply Kd.jz));exact HO127.out) hb);have n5_ := qq.mk (kj (g := gb101) (o := .cells #[.string a1_0,.int .i64 a1_1,.int .i64 a1_2,.int .i64 a1_3] 50 (0,0)) (by (with_reducible repeat (first | refine zz ?_ _ | refine zj ?_ | refine zq ?_ _));exact BK101.out) hb);have n6_ := qq.mk (zv (by repeat (first | (with_reducible first | exact HB.out | apply qj | apply qz | apply qk | refine qx ?_ GE101.out) | exact HB.out)) hb);clear HO106;clear HO113;clear HO116;clear HO123;clear HO127;clear BK101;clear HB;have HO106 := n0_;have HO113 := n1_;have HO116 := n2_;have HO123 := n3_;have HO127 := n4_;have BK101 := n5_;have HB := n6_;clear n0_ n1_ n2_ n3_ n4_ n5_ n6_;(try clear hb);(try clear hb2);(try clear hk);(try clear hi)) | ((with_reducible refine jv (f := 27) rfl ?_);refine goesL_ (some 64) rfl rfl Try.func27 (by kernel_rfl) rfl #[.slice Ao56 t121.length co56,.int .i64 1] rfl (by (try simp only [List.map_toArray,List.map_cons,List.map_nil]);first | done | rfl | (simp only [List.length_drop,List.length_take];rfl)) ?_;(with_reducible refine (ww.calls k (fun k_ => some k_ = (.slice Ao56 t121.length co56 : Value).ownBlock) (.slice Ao56 t121.length co56) t121 1 t132 t133 w _ ?side1 ?side2 A30.out).mono ?_);(case side1 => repeat (first | (with_reducible first | exact HB.out | apply qj | apply qz | apply qk | refine qx ?_ GE101.out) | exact HB.out));(case side2 => exact Kd.R_tight rfl HO123.out);rintro e w64 ⟨rfl,hy0,hb,hkp⟩;refine ⟨_,rfl,?_⟩;have n0_ := qq.mk (blk_kept (by (with_reducible repeat (first | refine zz ?_ _ | refine zj ?_ | refine zq ?_ _));exact BK101.out) hkp (fun hs_ => (fun e_ => (Kd.R_ne HO123.out BK101.out (by decide)) e_) hs_));have n1_ := qq.mk (Kd.R_mono (ok' := fun k_ => some k_ ≠ (.slice Ao57 t111.length co57 : Value).ownBlock ∧ some k_ ≠ (.slice Ao54 t114.length co54 : Value).ownBlock ∧ some k_ ≠ (.slice Ao56 t121.length co56 : Value).ownBlock ∧ some k_ ≠ (.slice Ao60 t125.length co60 : Value).ownBlock) (Kd.R_keptB (HO106.out) hkp (fun k_ hk_ hs_ => absurd hs_ (by first | exact hk_.2.2.1 | ((try simp only [and_assoc] at hk_);first | exact hk_.1 | exact hk_.2.1 | exact hk_.2.2.1 | exact hk_.2.2.2.1 | exact hk_.2.2.2.2.1 | exact hk_.2.2.2.2.2.1 | exact hk_.2.2.2.2.2.2.1 | exact hk_.2.2.2.2.2.2.2.1 | exact hk_.2.2.2.2.2.2.2.2.1 | exact hk_.2.2.2.2.2.2.2.2.2.1 | exact hk_.2.2.2.2.2.2.2.2.2.2.1 | exact hk_.2.2.2.2.2.2.2.2.2.2.2.1 | exact hk_.2.2.2.2.2.2.2.2.2.2.2.2.1 | exact hk_.2.2.2.2.2.2.2.2.2.2.2.2.2.1 | exact hk_.2.2.2.2.2.2.2.2.2.2.2.2.2.2.1 | exact hk_.2.2.2.2.2.2.2.2.2.2.2.2.2.2.2.1 | exact hk_.2 | exact hk_.2.2 | exact hk_.2.2.2 | exact hk_.2.2.2.2 | exact hk_.2.2.2.2.2 | exact hk_.2.2.2.2.2.2 | exact hk_.2.2.2.2.2.2.2 | exact hk_.2.2.2.2.2.2.2.2 | exact hk_.2.2.2.2.2.2.2.2.2 | exact hk_.2.2.2.2.2.2.2.2.2.2 | exact hk_.2.2.2.2.2.2.2.2.2.2.2 | exact hk_.2.2.2.2.2.2.2.2.2.2.2.2 | exact hk_.2.2.2.2.2.2.2.2.2.2.2.2.2 | exact hk_.2.2.2.2.2.2.2.2.2.2.2.2.2.2 | exact hk_.2.2.2.2.2.2.2.2.2.2.2.2.2.2.2)))) (fun k_ hk_ => by first | exact ⟨hk_.1.1,hk_.1.2.1,hk_.1.2.2.1,hk_.1.2.2.2⟩ | ((try simp only [and_assoc] at hk_);(try simp only [and_assoc]);(repeat' refine And.intro ?_ ?_) <;> (first | exact hk_.1 | exact hk_.2.1 | exact hk_.2.2.1 | exact hk_.2.2.2.1 | exact hk_.2.2.2.2.1 | exact hk_.2.2.2.2.2.1 | exact hk_.2.2.2.2.2.2.1 | exact hk_.2.2.2.2.2.2.2.1 | exact hk_.2.2.2.2.2.2.2.2.1 | exact hk_.2.2.2.2.2.2.2.2.2.1 | exact hk_.2.2.2.2.2.2.2.2.2.2.1 | exact hk_.2.2.2.2.2.2.2.2.2.2.2.1 | exact hk_.2.2.2.2.2.2.2.2.2.2.2.2.1 | exact hk_.2.2.2.2.2.2.2.2.2.2.2.2.2.1 | exact hk_.2.2.2.2.2.2.2.2.2.2.2.2.2.2.1 | exact hk_.2.2.2.2.2.2.2.2.2.2.2.2.2.2.2.1 | exact hk_.2 | exact hk_.2.2 | exact hk_.2.2.2 | exact hk_.2.2.2.2 | exact hk_.2.2.2.2.2 | exact hk_.2.2.2.2.2.2 | exact hk_.2.2.2.2.2.2.2 | exact hk_.2.2.2.2.2.2.2.2 | exact hk_.2.2.2.2.2.2.2.2.2 | exact hk_.2.2.2.2.2.2.2.2.2.2 | exact hk_.2.2.2.2.2.2.2.2.2.2.2 | exact hk_.2.2.2.2.2.2.2.2.2.2.2.2 | exact hk_.2.2.2.2.2.2.2.2.2.2.2.2.2 | exact hk_.2.2.2.2.2.2.2.2.2.2.2.2.2.2 | exact hk_.2.2.2.2.2.2.2.2.2.2.2.2.2.2.2))));have n2_ := qq.mk (Kd.R_mono (ok' := fun k_ => some k_ ≠ (.slice Ao49 t104.length co49 : Value).ownBlock ∧ some k_ ≠ (.slice Ao54 t114.length co54 : Value).ownBlock ∧ some k_ ≠ (.slice Ao56 t121.length co56 : Value).ownBlock ∧ some k_ ≠ (.slice Ao60 t125.length co60 : Value).ownBlock) (Kd.R_keptB (HO113.out) hkp (fun k_ hk_ hs_ => absurd hs_ (by first | exact hk_.2.2.1 | ((try simp only [and_assoc] at hk_);first | exact hk_.1 | exact hk_.2.1 | exact hk_.2.2.1 | exact hk_.2.2.2.1 | exact hk_.2.2.2.2.1 | exact hk_.2.2.2.2.2.1 | exact hk_.2.2.2.2.2.2.1 | exact hk_.2.2.2.2.2.2.2.1 | exact hk_.2.2.2.2.2.2.2.2.1 | exact hk_.2.2.2.2.2.2.2.2.2.1 | exact hk_.2.2.2.2.2.2.2.2.2.2.1 | exact hk_.2.2.2.2.2.2.2.2.2.2.2.1 | exact hk_.2.2.2.2.2.2.2.2.2.2.2.2.1 | exact hk_.2.2.2.2.2.2.2.2.2.2.2.2.2.1 | exact hk_.2.2.2.2.2.2.2.2.2.2.2.2.2.2.1 | exact hk_.2.2.2.2.2.2.2.2.2.2.2.2.2.2.2.1 | exact hk_.2 | exact hk_.2.2 | exact hk_.2.2.2 | exact hk_.2.2.2.2 | exact hk_.2.2.2.2.2 | exact hk_.2.2.2.2.2.2 | exact hk_.2.2.2.2.2.2.2 | exact hk_.2.2.2.2.2.2.2.2 | exact hk_.2.2.2.2.2.2.2.2.2 | exact hk_.2.2.2.2.2.2.2.2.2.2 | exact hk_.2.2.2.2.2.2.2.2.2.2.2 | exact hk_.2.2.2.2.2.2.2.2.2.2.2.2 | exact hk_.2.2.2.2.2.2.2.2.2.2.2.2.2 | exact hk_.2.2.2.2.2.2.2.2.2.2.2.2.2.2 | exact hk_.2.2.2.2.2.2.2.2.2.2.2.2.2.2.2)))) (fun k_ hk_ => by first | exact ⟨hk_.1.1,hk_.1.2.1,hk_.1.2.2.1,hk_.1.2.2.2⟩ | ((try simp only [and_assoc] at hk_);(try simp only [and_assoc]);(repeat' refine And.intro ?_ ?_) <;> (first | exact hk_.1 | exact hk_.2.1 | exact hk_.2.2.1 | exact hk_.2.2.2.1 | exact hk_.2.2.2.2.1 | exact hk_.2.2.2.2.2.1 | exact hk_.2.2.2.2.2.2.1 | exact hk_.2.2.2.2.2.2.2.1 | exact hk_.2.2.2.2.2.2.2.2.1 | exact hk_.2.2.2.2.2.2.2.2.2.1 | exact hk_.2.2.2.2.2.2.2.2.2.2.1 | exact hk_.2.2.2.2.2.2.2.2.2.2.2.1 | exact hk_.2.2.2.2.2.2.2.2.2.2.2.2.1 | exact hk_.2.2.2.2.2.2.2.2.2.2.2.2.2.1 | exact hk_.2.2.2.2.2.2.2.2.2.2.2.2.2.2.1 | exact hk_.2.2.2.2.2.2.2.2.2.2.2.2.2.2.2.1 | exact hk_.2 | exact hk_.2.2 | exact hk_.2.2.2 | exact hk_.2.2.2.2 | exact hk_.2.2.2.2.2 | exact hk_.2.2.2.2.2.2 | exact hk_.2.2.2.2.2.2.2 | exact hk_.2.2.2.2.2.2.2.2 | exact hk_.2.2.2.2.2.2.2.2.2 | exact hk_.2.2.2.2.2.2.2.2.2.2 | exact hk_.2.2.2.2.2.2.2.2.2.2.2 | exact hk_.2.2.2.2.2.2.2.2.2.2.2.2 | exact hk_.2.2.2.2.2.2.2.2.2.2.2.2.2 | exact hk_.2.2.2.2.2.2.2.2.2.2.2.2.2.2 | exact hk_.2.2.2.2.2.2.2.2.2.2.2.2.2.2.2))));have n3_ := qq.mk (Kd.R_mono (ok' := fun k_ => some k_ ≠ (.slice Ao49 t104.length co49 : Value).ownBlock ∧ some k_ ≠ (.slice Ao57 t111.length co57 : Value).ownBlock ∧ some k_ ≠ (.slice Ao56 t121.length co56 : Value).ownBlock ∧ some k_ ≠ (.slice Ao60 t125.length co60 : Value).ownBlock) (Kd.R_keptB (HO116.out) hkp (fun k_ hk_ hs_ => absurd hs_ (by first | exact hk_.1.2 | ((try simp only [and_assoc] at hk_);first | exact hk_.1 | exact hk_.2.1 | exact hk_.2.2.1 | exact hk_.2.2.2.1 | exact hk_.2.2.2.2.1 | exact hk_.2.2.2.2.2.1 | exact hk_.2.2.2.2.2.2.1 | exact hk_.2.2.2.2.2.2.2.1 | exact hk_.2.2.2.2.2.2.2.2.1 | exact hk_.2.2.2.2.2.2.2.2.2.1 | exact hk_.2.2.2.2.2.2.2.2.2.2.1 | exact hk_.2.2.2.2.2.2.2.2.2.2.2.1 | exact hk_.2.2.2.2.2.2.2.2.2.2.2.2.1 | exact hk_.2.2.2.2.2.2.2.2.2.2.2.2.2.1 | exact hk_.2.2.2.2.2.2.2.2.2.2.2.2.2.2.1 | exact hk_.2.2.2.2.2.2.2.2.2.2.2.2.2.2.2.1 | exact hk_.2 | exact hk_.2.2 | exact hk_.2.2.2 | exact hk_.2.2.2.2 | exact hk_.2.2.2.2.2 | exact hk_.2.2.2.2.2.2 | exact hk_.2.2.2.2.2.2.2 | exact hk_.2.2.2.2.2.2.2.2 | exact hk_.2.2.2.2.2.2.2.2.2 | exact hk_.2.2.2.2.2.2.2.2.2.2 | exact hk_.2.2.2.2.2.2.2.2.2.2.2 | exact hk_.2.2.2.2.2.2.2.2.2.2.2.2 | exact hk_.2.2.2.2.2.2.2.2.2.2.2.2.2 | exact hk_.2.2.2.2.2.2.2.2.2.2.2.2.2.2 | exact hk_.2.2.2.2.2.2.2.2.2.2.2.2.2.2.2)))) (fun k_ hk_ => by first | exact ⟨hk_.1.1.1.1.2,hk_.1.1.1.2,hk_.1.1.2,hk_.1.2⟩ | ((try simp only [and_assoc] at hk_);(try simp only [and_assoc]);(repeat' refine And.intro ?_ ?_) <;> (first | exact hk_.1 | exact hk_.2.1 | exact hk_.2.2.1 | exact hk_.2.2.2.1 | exact hk_.2.2.2.2.1 | exact hk_.2.2.2.2.2.1 | exact hk_.2.2.2.2.2.2.1 | exact hk_.2.2.2.2.2.2.2.1 | exact hk_.2.2.2.2.2.2.2.2.1 | exact hk_.2.2.2.2.2.2.2.2.2.1 | exact hk_.2.2.2.2.2.2.2.2.2.2.1 | exact hk_.2.2.2.2.2.2.2.2.2.2.2.1 | exact hk_.2.2.2.2.2.2.2.2.2.2.2.2.1 | exact hk_.2.2.2.2.2.2.2.2.2.2.2.2.2.1 | exact hk_.2.2.2.2.2.2.2.2.2.2.2.2.2.2.1 | exact hk_.2.2.2.2.2.2.2.2.2.2.2.2.2.2.2.1 | exact hk_.2 | exact hk_.2.2 | exact hk_.2.2.2 | exact hk_.2.2.2.2 | exact hk_.2.2.2.2.2 | exact hk_.2.2.2.2.2.2 | exact hk_.2.2.2.2.2.2.2 | exact hk_.2.2.2.2.2.2.2.2 | exact hk_.2.2.2.2.2.2.2.2.2 | exact hk_.2.2.2.2.2.2.2.2.2.2 | exact hk_.2.2.2.2.2.2.2.2.2.2.2 | exact hk_.2.2.2.2.2.2.2.2.2.2.2.2 | exact hk_.2.2.2.2.2.2.2.2.2.2.2.2.2 | exact hk_.2.2.2.2.2.2.2.2.2.2.2.2.2.2 | exact hk_.2.2.2.2.2.2.2.2.2.2.2.2.2.2.2))));have n4_ := qq.mk (Kd.R_reok rfl hy0 (fun k_ e_ => HO123.out.1 k_ e_));have n5_ := qq.mk (Kd.R_mono (ok' := fun k_ => some k_ ≠ (.slice Ao49 t104.length co49 : Value).ownBlock ∧ some k_ ≠ (.slice Ao57 t111.length co57 : Value).ownBlock ∧ some k_ ≠ (.slice Ao54 t114.length co54 : Value).ownBlock ∧ some k_ ≠ (.slice Ao56 t121.length co56 : Value).ownBlock) (Kd.R_keptB (HO127.out) hkp (fun k_ hk_ hs_ => absurd hs_ (by first | exact hk_.2.2.2 | ((try simp only [and_assoc] at hk_);first | exact hk_.1 | exact hk_.2.1 | exact hk_.2.2.1 | exact hk_.2.2.2.1 | exact hk_.2.2.2.2.1 | exact hk_.2.2.2.2.2.1 | exact hk_.2.2.2.2.2.2.1 | exact hk_.2.2.2.2.2.2.2.1 | exact hk_.2.2.2.2.2.2.2.2.1 | exact hk_.2.2.2.2.2.2.2.2.2.1 | exact hk_.2.2.2.2.2.2.2.2.2.2.1 | exact hk_.2.2.2.2.2.2.2.2.2.2.2.1 | exact hk_.2.2.2.2.2.2.2.2.2.2.2.2.1 | exact hk_.2.2.2.2.2.2.2.2.2.2.2.2.2.1 | exact hk_.2.2.2.2.2.2.2.2.2.2.2.2.2.2.1 | exact hk_.2.2.2.2.2.2.2.2.2.2.2.2.2.2.2.1 | exact hk_.2 | exact hk_.2.2 | exact hk_.2.2.2 | exact hk_.2.2.2.2 | exact hk_.2.2.2.2.2 | exact hk_.2.2.2.2.2.2 | exact hk_.2.2.2.2.2.2.2 | exact hk_.2.2.2.2.2.2.2.2 | exact hk_.2.2.2.2.2.2.2.2.2 | exact hk_.2.2.2.2.2.2.2.2.2.2 | exact hk_.2.2.2.2.2.2.2.2.2.2.2 | exact hk_.2.2.2.2.2.2.2.2.2.2.2.2 | exact hk_.2.2.2.2.2.2.2.2.2.2.2.2.2 | exact hk_.2.2.2.2.2.2.2.2.2.2.2.2.2.2 | exact hk_.2.2.2.2.2.2.2.2.2.2.2.2.2.2.2)))) (fun k_ hk_ => by first | exact ⟨hk_.1.1,hk_.1.2.1,hk_.1.2.2.1,hk_.1.2.2.2⟩ | ((try simp only [and_assoc] at hk_);(try simp only [and_assoc]);(repeat' refine And.intro ?_ ?_) <;> (first | exact hk_.1 | exact hk_.2.1 | exact hk_.2.2.1 | exact hk_.2.2.2.1 | exact hk_.2.2.2.2.1 | exact hk_.2.2.2.2.2.1 | exact hk_.2.2.2.2.2.2.1 | exact hk_.2.2.2.2.2.2.2.1 | exact hk_.2.2.2.2.2.2.2.2.1 | exact hk_.2.2.2.2.2.2.2.2.2.1 | exact hk_.2.2.2.2.2.2.2.2.2.2.1 | exact hk_.2.2.2.2.2.2.2.2.2.2.2.1 | exact hk_.2.2.2.2.2.2.2.2.2.2.2.2.1 | exact hk_.2.2.2.2.2.2.2.2.2.2.2.2.2.1 | exact hk_.2.2.2.2.2.2.2.2.2.2.2.2.2.2.1 | exact hk_.2.2.2.2.2.2.2.2.2.2.2.2.2.2.2.1 | exact hk_.2 | exact hk_.2.2 | exact hk_.2.2.2 | exact hk_.2.2.2.2 | exact hk_.2.2.2.2.2 | exact hk_.2.2.2.2.2.2 | exact hk_.2.2.2.2.2.2.2 | exact hk_.2.2.2.2.2.2.2.2 | exact hk_.2.2.2.2.2.2.2.2.2 | exact hk_.2.2.2.2.2.2.2.2.2.2 | exact hk_.2.2.2.2.2.2.2.2.2.2.2 | exact hk_.2.2.2.2.2.2.2.2.2.2.2.2 | exact hk_.2.2.2.2.2.2.2.2.2.2.2.2.2 | exact hk_.2.2.2.2.2.2.2.2.2.2.2.2.2.2 | exact hk_.2.2.2.2.2.2.2.2.2.2.2.2.2.2.2))));have n6_ := qq.mk (hb);clear BK101;clear HO106;clear HO113;clear HO116;clear HO123;clear HO127;clear HB;have BK101 := n0_;have HO106 := n1_;have HO113 := n2_;have HO116 := n3_;have HO123 := n4_;have HO127 := n5_;have HB := n6_;clear n0_ n1_ n2_ n3_ n4_ n5_ n6_;(try clear hb);(try clear hkp);(try clear hy0)) | ((with_reducible refine jv (f := 28) rfl ?_);refine goesL_ (some 67) rfl rfl Try.func28 (by kernel_rfl) rfl #[.slice Ao56 t133.length co56,.int .i64 1] rfl (by (try simp only [List.map_toArray,List.map_cons,List.map_nil]);first | done | (rw [show t133.length = t121.length from (Kd.R_reads' HO123.out).1.symm] <;> rfl) | rfl | (simp only [List.length_drop,List.length_take];rfl)) ?_;(with_reducible refine (wv.calls k _ _ t133 1 t134 _ ?side1 ?side2 A31.out).mono ?_);(case side1 => repeat (first | exact (Kd.R_reads' HO123.out).2.2 | (with_reducible refine Kd.C_alloc ?_ _) | (with_reducible refine Kd.C_drewN ?_ _) | (with_reducible refine Kd.C_drew ?_)));(case side2 => rw [show t133.length = t121.length from (Kd.R_reads' HO123.out).1.symm];exact (Kd.R_reads' HO123.out).2.1);rintro e w65 ⟨rfl,hb⟩;refine ⟨_,rfl,?_⟩;have n0_ := qq.mk (Kd.R_below (by (with_reducible repeat (first | apply Kd.jq | apply Kd.zx | apply Kd.jz));exact HO106.out) hb);have n1_ := qq.mk (Kd.R_below (by (with_reducible repeat (first | apply Kd.jq | apply Kd.zx | apply Kd.jz));exact HO113.out) hb);have n2_ := qq.mk (Kd.R_below (by (with_reducible repeat (first | apply Kd.jq | apply Kd.zx | apply Kd.jz));exact HO116.out) hb);have n3_ := qq.mk (Kd.R_below (by (with_reducible repeat (first | apply Kd.jq | apply Kd.zx | apply Kd.jz));exact HO123.out) hb);have n4_ := qq.mk (Kd.R_below (by (with_reducible repeat (first | apply Kd.jq | apply Kd.zx | apply Kd.jz));exact HO127.out) hb);have n5_ := qq.mk (kj (g := gb101) (o := .cells #[.string a1_0,.int .i64 a1_1,.int .i64 a1_2,.int .i64 a1_3] 50 (0,0)) (by (with_reducible repeat (first | refine zz ?_ _ | refine zj ?_ | refine zq ?_ _));exact BK101.out) hb);have n6_ := qq.mk (zv (by repeat (first | (with_reducible first | exact HB.out | apply qj | apply qz | apply qk | refine qx ?_ GE101.out) | exact HB.out)) hb);clear HO106;clear HO113;clear HO116;clear HO123;clear HO127;clear BK101;clear HB;have HO106 := n0_;have HO113 := n1_;have HO116 := n2_;have HO123 := n3_;have HO127 := n4_;have BK101 := n5_;have HB := n6_;clear n0_ n1_ n2_ n3_ n4_ n5_ n6_;(try clear hb);(try clear hb2);(try clear hk);(try clear hi)))
            have n0_ := qq.mk (Kd.jz HO106.out)
            have n1_ := qq.mk (Kd.jz HO113.out)
            have n2_ := qq.mk (Kd.jz HO116.out)
            have n3_ := qq.mk (Kd.jz HO123.out)
            have n4_ := qq.mk (Kd.jz HO127.out)
            have n5_ := qq.mk (zj BK101.out)
            have n6_ := qq.mk (qk HB.out)
            clear HO106
            clear HO113
            clear HO116
            clear HO123
            clear HO127
            clear BK101
            clear HB
            have HO106 := n0_
            have HO113 := n1_
            have HO116 := n2_
            have HO123 := n3_
            have HO127 := n4_
            have BK101 := n5_
            have HB := n6_
            clear n0_ n1_ n2_ n3_ n4_ n5_ n6_
            refine start_ (n := 8) (S := fun w' => w'.cell? ⟨gb101,0,none⟩ = some (.string a1_0) ∧ w'.cell? ⟨gb101,1,none⟩ = some (.int .i64 a1_1) ∧ w'.cell? ⟨gb101,2,none⟩ = some (.int .i64 a1_2) ∧ w'.cell? ⟨gb101,3,none⟩ = some (.int .i64 a1_3)) (ds := []) #[false,false,false,false,false,false,false,false] (by kernel_rfl) rfl rfl ⟨(qw BK101.out 0).trans rfl,(qw BK101.out 1).trans rfl,(qw BK101.out 2).trans rfl,(qw BK101.out 3).trans rfl⟩ (fun hHeld => ?_);refine with_tabW wz.tab27 wz.bits27 (fun HT_ HW_ => ?_)
            generalize w65.drew = w66 at HO106 HO113 HO116 HO123 HO127 BK101 HB hHeld ⊢
            refine pure_ (i := 0) (N := some 73) (v := ?_) (a' := ?_) #[true,false,false,false,false,false,false,false] rfl rfl (any_of HT_.out (by kernel_rfl)) (fun _ _ _ h => h) (Or.inl ⟨by rfl,?_⟩) ?_ ?_
            rotate_left
            ·intro w'
             go_simp
             with_reducible rfl
            rotate_left
            ·simp only [Act.put,List.setIfInBounds_toArray,List.set_cons_zero,List.set_cons_succ,i64_w,i32_w]
             rfl
            refine pure_ (i := 4) (N := some 77) (v := ?_) (a' := ?_) #[true,false,false,false,true,false,false,false] rfl rfl (any_of HT_.out (by kernel_rfl)) (fun _ _ _ h => h) (Or.inl ⟨by rfl,?_⟩) ?_ ?_
            rotate_left
            ·intro w'
             go_simp
             with_reducible rfl
            rotate_left
            ·simp only [Act.put,List.setIfInBounds_toArray,List.set_cons_zero,List.set_cons_succ,i64_w,i32_w]
             rfl
            refine pure_ (i := 5) (N := some 78) (v := ?_) (a' := ?_) #[true,false,false,false,true,true,false,false] rfl rfl (any_of HT_.out (by kernel_rfl)) (fun _ _ _ h => h) (Or.inl ⟨by rfl,?_⟩) ?_ ?_
            rotate_left
            ·intro w'
             go_simp
             with_reducible rfl
            rotate_left
            ·simp only [Act.put,List.setIfInBounds_toArray,List.set_cons_zero,List.set_cons_succ,i64_w,i32_w]
             rfl
            refine take_ (i := 2) (N := some 75) (v := ?_) (a' := ?_) #[true,false,true,false,true,true,false,false] rfl rfl (take_ofW HT_.out HW_.out (by kernel_rfl)) (fun _ _ _ h => h) (Or.inl ⟨by rfl,?_⟩) hHeld ?_ ?_
            rotate_left
            ·rintro w' ⟨s0,s1,s2,s3⟩
             go_simp
             with_reducible rfl
            rotate_left
            ·simp only [Act.put,List.setIfInBounds_toArray,List.set_cons_zero,List.set_cons_succ,i64_w,i32_w]
             rfl
            refine one_ (i := 1) (N := some 74) #[true,true,true,false,true,true,false,false] rfl rfl (one_of HT_.out (by kernel_rfl)) (by decide) (fun K hK => ?_)
            refine goes_ Try.func15 (by kernel_rfl) rfl #[.slice A0 l0.length c0] (by rfl) rfl rfl (by (try simp only [List.map_toArray,List.map_cons,List.map_nil]);first | done | rfl | (simp only [List.length_drop,List.length_take];rfl)) ?_
            with_reducible refine (xk.calls k _ _ l0 t135 _ ?side1 ?side2 A34.out).mono ?_
            (case side1 => repeat (first | exact (Kd.C_below HR0.out HB.out) | (with_reducible refine Kd.C_alloc ?_ _) | (with_reducible refine Kd.C_drewN ?_ _) | (with_reducible refine Kd.C_drew ?_)))
            (case side2 => exact HC0.out)
            rintro e w67 ⟨v136,rfl,ho0,hb⟩
            refine ⟨_,rfl,?_⟩
            have n0_ := qq.mk (Kd.R_elder' (by (with_reducible repeat (first | apply Kd.jq | apply Kd.zx | apply Kd.jz));exact HO106.out) (Kd.R_base ho0) hb)
            have n1_ := qq.mk (Kd.R_elder' (by (with_reducible repeat (first | apply Kd.jq | apply Kd.zx | apply Kd.jz));exact HO113.out) (Kd.R_base ho0) hb)
            have n2_ := qq.mk (Kd.R_elder' (by (with_reducible repeat (first | apply Kd.jq | apply Kd.zx | apply Kd.jz));exact HO116.out) (Kd.R_base ho0) hb)
            have n3_ := qq.mk (Kd.R_elder' (by (with_reducible repeat (first | apply Kd.jq | apply Kd.zx | apply Kd.jz));exact HO123.out) (Kd.R_base ho0) hb)
            have n4_ := qq.mk (Kd.R_elder' (by (with_reducible repeat (first | apply Kd.jq | apply Kd.zx | apply Kd.jz));exact HO127.out) (Kd.R_base ho0) hb)
            have n5_ := qq.mk (Kd.R_lower (Kd.R_new' (Kd.R_new' (Kd.R_new' (Kd.R_new' (Kd.R_new' ho0 (Kd.R_lt (by (with_reducible repeat (first | apply Kd.jq | apply Kd.zx | apply Kd.jz));exact HO106.out))) (Kd.R_lt (by (with_reducible repeat (first | apply Kd.jq | apply Kd.zx | apply Kd.jz));exact HO113.out))) (Kd.R_lt (by (with_reducible repeat (first | apply Kd.jq | apply Kd.zx | apply Kd.jz));exact HO116.out))) (Kd.R_lt (by (with_reducible repeat (first | apply Kd.jq | apply Kd.zx | apply Kd.jz));exact HO123.out))) (Kd.R_lt (by (with_reducible repeat (first | apply Kd.jq | apply Kd.zx | apply Kd.jz));exact HO127.out))) (zw (by repeat (first | (with_reducible first | exact HB.out | apply qj | apply qz | apply qk | refine qx ?_ GE101.out) | exact HB.out))))
            have n6_ := qq.mk (kj (g := gb101) (o := .cells #[.string a1_0,.int .i64 a1_1,.int .i64 a1_2,.int .i64 a1_3] 50 (0,0)) (by (with_reducible repeat (first | refine zz ?_ _ | refine zj ?_ | refine zq ?_ _));exact BK101.out) hb)
            have n7_ := qq.mk (zv (by repeat (first | (with_reducible first | exact HB.out | apply qj | apply qz | apply qk | refine qx ?_ GE101.out) | exact HB.out)) hb)
            clear HO106
            clear HO113
            clear HO116
            clear HO123
            clear HO127
            clear BK101
            clear HB
            have HO106 := n0_
            have HO113 := n1_
            have HO116 := n2_
            have HO123 := n3_
            have HO127 := n4_
            have HO137 := n5_
            have BK101 := n6_
            have HB := n7_
            clear n0_ n1_ n2_ n3_ n4_ n5_ n6_ n7_
            (try clear hb)
            (try clear hb2)
            (try clear hk)
            (try clear hi)
            (try clear ho0)
            refine hK.out _ _ ⟨(qw BK101.out 0).trans rfl,(qw BK101.out 1).trans rfl,(qw BK101.out 2).trans rfl,(qw BK101.out 3).trans rfl⟩ (fun hHeld => ?_)
            clear hK K
            refine norm_ (a' := ?_) ?_ ?_
            rotate_left
            ·show Act.put _ (some 74) _ = _
             simp only [Act.put,List.setIfInBounds_toArray,List.set_cons_zero,List.set_cons_succ,i64_w,i32_w]
             rfl
            refine one_ (i := 3) (N := some 76) #[true,true,true,true,true,true,false,false] rfl rfl (one_of HT_.out (by kernel_rfl)) (by decide) (fun K hK => ?_)
            refine goes_ Try.func25 (by kernel_rfl) rfl #[.agg #[.string a1_0,.int .i64 a1_1,.int .i64 a1_2,.int .i64 a1_3]] (by rfl) rfl rfl (by (try simp only [List.map_toArray,List.map_cons,List.map_nil]);first | done | rfl | (simp only [List.length_drop,List.length_take];rfl)) ?_
            with_reducible refine (xj.calls a1_0 a1_1 a1_2 a1_3 t138 t139 t140 t141 _ A35.out).mono ?_
            rintro e w68 ⟨rfl,hb⟩
            refine ⟨_,rfl,?_⟩
            have n0_ := qq.mk (Kd.R_below (by (with_reducible repeat (first | apply Kd.jq | apply Kd.zx | apply Kd.jz));exact HO106.out) hb)
            have n1_ := qq.mk (Kd.R_below (by (with_reducible repeat (first | apply Kd.jq | apply Kd.zx | apply Kd.jz));exact HO113.out) hb)
            have n2_ := qq.mk (Kd.R_below (by (with_reducible repeat (first | apply Kd.jq | apply Kd.zx | apply Kd.jz));exact HO116.out) hb)
            have n3_ := qq.mk (Kd.R_below (by (with_reducible repeat (first | apply Kd.jq | apply Kd.zx | apply Kd.jz));exact HO123.out) hb)
            have n4_ := qq.mk (Kd.R_below (by (with_reducible repeat (first | apply Kd.jq | apply Kd.zx | apply Kd.jz));exact HO127.out) hb)
            have n5_ := qq.mk (Kd.R_below (by (with_reducible repeat (first | apply Kd.jq | apply Kd.zx | apply Kd.jz));exact HO137.out) hb)
            have n6_ := qq.mk (kj (g := gb101) (o := .cells #[.string a1_0,.int .i64 a1_1,.int .i64 a1_2,.int .i64 a1_3] 50 (0,0)) (by (with_reducible repeat (first | refine zz ?_ _ | refine zj ?_ | refine zq ?_ _));exact BK101.out) hb)
            have n7_ := qq.mk (zv (by repeat (first | (with_reducible first | exact HB.out | apply qj | apply qz | apply qk | refine qx ?_ GE101.out) | exact HB.out)) hb)
            clear HO106
            clear HO113
            clear HO116
            clear HO123
            clear HO127
            clear HO137
            clear BK101
            clear HB
            have HO106 := n0_
            have HO113 := n1_
            have HO116 := n2_
            have HO123 := n3_
            have HO127 := n4_
            have HO137 := n5_
            have BK101 := n6_
            have HB := n7_
            clear n0_ n1_ n2_ n3_ n4_ n5_ n6_ n7_
            (try clear hb)
            (try clear hb2)
            (try clear hk)
            (try clear hi)
            obtain ⟨Ao69,co69,eo69⟩ := Kd.R_slice HO137.out
            (first | subst eo69 | (injection eo69 with f1_ f2_ f3_;have f4_ := f1_.symm;have f5_ := f3_.symm;clear f1_ f2_ f3_;subst f4_;subst f5_))
            refine hK.out _ _ ⟨(qw BK101.out 0).trans rfl,(qw BK101.out 1).trans rfl,(qw BK101.out 2).trans rfl,(qw BK101.out 3).trans rfl⟩ (fun hHeld => ?_)
            clear hK K
            refine norm_ (a' := ?_) ?_ ?_
            rotate_left
            ·show Act.put _ (some 76) _ = _
             simp only [Act.put,List.setIfInBounds_toArray,List.set_cons_zero,List.set_cons_succ,i64_w,i32_w]
             rfl
            refine one_ (i := 6) (N := some 79) #[true,true,true,true,true,true,true,false] rfl rfl (one_of HT_.out (by kernel_rfl)) (by decide) (fun K hK => ?_)
            refine goes_ Try.func26 (by kernel_rfl) rfl #[.slice Ao69 t135.length co69,.agg #[.string t138,.int .i64 t139,.int .i64 t140,.int .i64 t141],.int .i64 a2,.int .i64 a3] (by rfl) rfl rfl (by (try simp only [List.map_toArray,List.map_cons,List.map_nil]);first | done | rfl | (simp only [List.length_drop,List.length_take];rfl)) ?_
            with_reducible refine (vq.calls k _ _ t135 t138 t139 t140 t141 a2 a3 t142 _ ?side1 ?side2 A36.out).mono ?_
            (case side1 => repeat (first | exact (Kd.R_reads' HO137.out).2.2 | (with_reducible refine Kd.C_alloc ?_ _) | (with_reducible refine Kd.C_drewN ?_ _) | (with_reducible refine Kd.C_drew ?_)))
            (case side2 => exact (Kd.R_reads' HO137.out).2.1)
            rintro e w70 ⟨v143,rfl,ho0,hb⟩
            refine ⟨_,rfl,?_⟩
            have n0_ := qq.mk (Kd.R_elder' (by (with_reducible repeat (first | apply Kd.jq | apply Kd.zx | apply Kd.jz));exact HO106.out) (Kd.R_base ho0) hb)
            have n1_ := qq.mk (Kd.R_elder' (by (with_reducible repeat (first | apply Kd.jq | apply Kd.zx | apply Kd.jz));exact HO113.out) (Kd.R_base ho0) hb)
            have n2_ := qq.mk (Kd.R_elder' (by (with_reducible repeat (first | apply Kd.jq | apply Kd.zx | apply Kd.jz));exact HO116.out) (Kd.R_base ho0) hb)
            have n3_ := qq.mk (Kd.R_elder' (by (with_reducible repeat (first | apply Kd.jq | apply Kd.zx | apply Kd.jz));exact HO123.out) (Kd.R_base ho0) hb)
            have n4_ := qq.mk (Kd.R_elder' (by (with_reducible repeat (first | apply Kd.jq | apply Kd.zx | apply Kd.jz));exact HO127.out) (Kd.R_base ho0) hb)
            have n5_ := qq.mk (Kd.R_elder' (by (with_reducible repeat (first | apply Kd.jq | apply Kd.zx | apply Kd.jz));exact HO137.out) (Kd.R_base ho0) hb)
            have n6_ := qq.mk (Kd.R_lower (Kd.R_new' (Kd.R_new' (Kd.R_new' (Kd.R_new' (Kd.R_new' (Kd.R_new' ho0 (Kd.R_lt (by (with_reducible repeat (first | apply Kd.jq | apply Kd.zx | apply Kd.jz));exact HO106.out))) (Kd.R_lt (by (with_reducible repeat (first | apply Kd.jq | apply Kd.zx | apply Kd.jz));exact HO113.out))) (Kd.R_lt (by (with_reducible repeat (first | apply Kd.jq | apply Kd.zx | apply Kd.jz));exact HO116.out))) (Kd.R_lt (by (with_reducible repeat (first | apply Kd.jq | apply Kd.zx | apply Kd.jz));exact HO123.out))) (Kd.R_lt (by (with_reducible repeat (first | apply Kd.jq | apply Kd.zx | apply Kd.jz));exact HO127.out))) (Kd.R_lt (by (with_reducible repeat (first | apply Kd.jq | apply Kd.zx | apply Kd.jz));exact HO137.out))) (zw (by repeat (first | (with_reducible first | exact HB.out | apply qj | apply qz | apply qk | refine qx ?_ GE101.out) | exact HB.out))))
            have n7_ := qq.mk (kj (g := gb101) (o := .cells #[.string a1_0,.int .i64 a1_1,.int .i64 a1_2,.int .i64 a1_3] 50 (0,0)) (by (with_reducible repeat (first | refine zz ?_ _ | refine zj ?_ | refine zq ?_ _));exact BK101.out) hb)
            have n8_ := qq.mk (zv (by repeat (first | (with_reducible first | exact HB.out | apply qj | apply qz | apply qk | refine qx ?_ GE101.out) | exact HB.out)) hb)
            clear HO106
            clear HO113
            clear HO116
            clear HO123
            clear HO127
            clear HO137
            clear BK101
            clear HB
            have HO106 := n0_
            have HO113 := n1_
            have HO116 := n2_
            have HO123 := n3_
            have HO127 := n4_
            have HO137 := n5_
            have HO144 := n6_
            have BK101 := n7_
            have HB := n8_
            clear n0_ n1_ n2_ n3_ n4_ n5_ n6_ n7_ n8_
            (try clear hb)
            (try clear hb2)
            (try clear hk)
            (try clear hi)
            (try clear ho0)
            refine hK.out _ _ ⟨(qw BK101.out 0).trans rfl,(qw BK101.out 1).trans rfl,(qw BK101.out 2).trans rfl,(qw BK101.out 3).trans rfl⟩ (fun hHeld => ?_)
            clear hK K
            refine norm_ (a' := ?_) ?_ ?_
            rotate_left
            ·show Act.put _ (some 79) _ = _
             simp only [Act.put,List.setIfInBounds_toArray,List.set_cons_zero,List.set_cons_succ,i64_w,i32_w]
             rfl
            refine pure_ (i := 7) (N := some 16) (v := ?_) (a' := ?_) #[true,true,true,true,true,true,true,true] rfl rfl (any_of HT_.out (by kernel_rfl)) (fun _ _ _ h => h) (Or.inl ⟨by rfl,?_⟩) ?_ ?_
            rotate_left
            ·intro w'
             go_simp
             with_reducible rfl
            rotate_left
            ·simp only [Act.put,List.setIfInBounds_toArray,List.set_cons_zero,List.set_cons_succ,i64_w,i32_w]
             rfl
            refine done_ (done_of HT_.out (by kernel_rfl)) ?_
            obtain ⟨Ao71,co71,eo71⟩ := Kd.R_slice HO144.out
            subst eo71
            try go_wp2_with (first | ((with_reducible refine jv (f := 17) rfl ?_);refine goesL_ (some 82) rfl rfl Try.func17 (by kernel_rfl) rfl #[.slice Ao71 t142.length co71,.slice Ao57 t111.length co57] rfl (by (try simp only [List.map_toArray,List.map_cons,List.map_nil]);first | done | rfl | (simp only [List.length_drop,List.length_take];rfl)) ?_;(with_reducible refine (wk.calls k _ _ t142 _ _ t111 true _ ?side1 ?side2 ?side3 ?side4 A37.out).mono ?_);(case side1 => repeat (first | exact (Kd.R_reads' HO144.out).2.2 | (with_reducible refine Kd.C_alloc ?_ _) | (with_reducible refine Kd.C_drewN ?_ _) | (with_reducible refine Kd.C_drew ?_)));(case side2 => exact (Kd.R_reads' HO144.out).2.1);(case side3 => repeat (first | exact (Kd.R_reads' HO113.out).2.2 | (with_reducible refine Kd.C_alloc ?_ _) | (with_reducible refine Kd.C_drewN ?_ _) | (with_reducible refine Kd.C_drew ?_)));(case side4 => exact (Kd.R_reads' HO113.out).2.1);rintro e w72 ⟨rfl,hb⟩;refine ⟨_,rfl,?_⟩;have n0_ := qq.mk (Kd.R_below (by (with_reducible repeat (first | apply Kd.jq | apply Kd.zx | apply Kd.jz));exact HO106.out) hb);have n1_ := qq.mk (Kd.R_below (by (with_reducible repeat (first | apply Kd.jq | apply Kd.zx | apply Kd.jz));exact HO113.out) hb);have n2_ := qq.mk (Kd.R_below (by (with_reducible repeat (first | apply Kd.jq | apply Kd.zx | apply Kd.jz));exact HO116.out) hb);have n3_ := qq.mk (Kd.R_below (by (with_reducible repeat (first | apply Kd.jq | apply Kd.zx | apply Kd.jz));exact HO123.out) hb);have n4_ := qq.mk (Kd.R_below (by (with_reducible repeat (first | apply Kd.jq | apply Kd.zx | apply Kd.jz));exact HO127.out) hb);have n5_ := qq.mk (Kd.R_below (by (with_reducible repeat (first | apply Kd.jq | apply Kd.zx | apply Kd.jz));exact HO137.out) hb);have n6_ := qq.mk (Kd.R_below (by (with_reducible repeat (first | apply Kd.jq | apply Kd.zx | apply Kd.jz));exact HO144.out) hb);have n7_ := qq.mk (kj (g := gb101) (o := .cells #[.string a1_0,.int .i64 a1_1,.int .i64 a1_2,.int .i64 a1_3] 50 (0,0)) (by (with_reducible repeat (first | refine zz ?_ _ | refine zj ?_ | refine zq ?_ _));exact BK101.out) hb);have n8_ := qq.mk (zv (by repeat (first | (with_reducible first | exact HB.out | apply qj | apply qz | apply qk | refine qx ?_ GE101.out) | exact HB.out)) hb);clear HO106;clear HO113;clear HO116;clear HO123;clear HO127;clear HO137;clear HO144;clear BK101;clear HB;have HO106 := n0_;have HO113 := n1_;have HO116 := n2_;have HO123 := n3_;have HO127 := n4_;have HO137 := n5_;have HO144 := n6_;have BK101 := n7_;have HB := n8_;clear n0_ n1_ n2_ n3_ n4_ n5_ n6_ n7_ n8_;(try clear hb);(try clear hb2);(try clear hk);(try clear hi)) | ((with_reducible refine jv (f := 28) rfl ?_);refine goesL_ (some 86) rfl rfl Try.func28 (by kernel_rfl) rfl #[.slice Ao56 t133.length co56,.int .i64 1] rfl (by (try simp only [List.map_toArray,List.map_cons,List.map_nil]);first | done | (rw [show t133.length = t121.length from (Kd.R_reads' HO123.out).1.symm] <;> rfl) | rfl | (simp only [List.length_drop,List.length_take];rfl)) ?_;(with_reducible refine (wv.calls k _ _ t133 1 t146 _ ?side1 ?side2 A39.out).mono ?_);(case side1 => repeat (first | exact (Kd.R_reads' HO123.out).2.2 | (with_reducible refine Kd.C_alloc ?_ _) | (with_reducible refine Kd.C_drewN ?_ _) | (with_reducible refine Kd.C_drew ?_)));(case side2 => rw [show t133.length = t121.length from (Kd.R_reads' HO123.out).1.symm];exact (Kd.R_reads' HO123.out).2.1);rintro e w73 ⟨rfl,hb⟩;refine ⟨_,rfl,?_⟩;have n0_ := qq.mk (Kd.R_below (by (with_reducible repeat (first | apply Kd.jq | apply Kd.zx | apply Kd.jz));exact HO106.out) hb);have n1_ := qq.mk (Kd.R_below (by (with_reducible repeat (first | apply Kd.jq | apply Kd.zx | apply Kd.jz));exact HO113.out) hb);have n2_ := qq.mk (Kd.R_below (by (with_reducible repeat (first | apply Kd.jq | apply Kd.zx | apply Kd.jz));exact HO116.out) hb);have n3_ := qq.mk (Kd.R_below (by (with_reducible repeat (first | apply Kd.jq | apply Kd.zx | apply Kd.jz));exact HO123.out) hb);have n4_ := qq.mk (Kd.R_below (by (with_reducible repeat (first | apply Kd.jq | apply Kd.zx | apply Kd.jz));exact HO127.out) hb);have n5_ := qq.mk (Kd.R_below (by (with_reducible repeat (first | apply Kd.jq | apply Kd.zx | apply Kd.jz));exact HO137.out) hb);have n6_ := qq.mk (Kd.R_below (by (with_reducible repeat (first | apply Kd.jq | apply Kd.zx | apply Kd.jz));exact HO144.out) hb);have n7_ := qq.mk (kj (g := gb101) (o := .cells #[.string a1_0,.int .i64 a1_1,.int .i64 a1_2,.int .i64 a1_3] 50 (0,0)) (by (with_reducible repeat (first | refine zz ?_ _ | refine zj ?_ | refine zq ?_ _));exact BK101.out) hb);have n8_ := qq.mk (zv (by repeat (first | (with_reducible first | exact HB.out | apply qj | apply qz | apply qk | refine qx ?_ GE101.out) | exact HB.out)) hb);clear HO106;clear HO113;clear HO116;clear HO123;clear HO127;clear HO137;clear HO144;clear BK101;clear HB;have HO106 := n0_;have HO113 := n1_;have HO116 := n2_;have HO123 := n3_;have HO127 := n4_;have HO137 := n5_;have HO144 := n6_;have BK101 := n7_;have HB := n8_;clear n0_ n1_ n2_ n3_ n4_ n5_ n6_ n7_ n8_;(try clear hb);(try clear hb2);(try clear hk);(try clear hi)))
            go_ret
            exact ⟨by first | rfl | (simp [*,jk,jj] <;> rfl),by repeat (first | (with_reducible first | exact HB.out | apply qj | apply qz | apply qk | refine qx ?_ GE101.out) | exact HB.out)⟩
           ·rw [if_neg c41] at H
            exact absurd H (by simp)
         ·replace c38 := Bool.eq_false_iff.mpr c38
          subst c38
          have H1 : (none) = some r := by rw [if_neg (show ¬ (false = true) by decide)] at H;exact H
          clear H
          have H := H1
          clear H1
          exact absurd H (by simp)
        ·rw [if_neg c33] at H
         exact absurd H (by simp)
      ·replace c29 := Bool.eq_false_iff.mpr c29
       subst c29
       have H1 : (none) = some r := by rw [if_neg (show ¬ (false = true) by decide)] at H;exact H
       clear H
       have H := H1
       clear H1
       exact absurd H (by simp)
    ·replace c25 := Bool.eq_false_iff.mpr c25
     subst c25
     have H1 : (none) = some r := by rw [if_neg (show ¬ (false = true) by decide)] at H;exact H
     clear H
     have H := H1
     clear H1
     exact absurd H (by simp)
   ·replace c22 := Bool.eq_false_iff.mpr c22
    subst c22
    have H1 : (none) = some r := by rw [if_neg (show ¬ (false = true) by decide)] at H;exact H
    clear H
    have H := H1
    clear H1
    exact absurd H (by simp)
open Go.RowKit Go.Proofs.Ytakocdkcfjkmdaa.Read Go.Proofs.YtakocdkcfjkmdaaW.PrintWords
def ok50 (x : S50) : Prop := okS x.f0 ∧ okI x.f1 ∧ okI x.f2 ∧ okI x.f3
theorem tells50 : Tells Try.prog 50 k50 ok50 :=
 tells_iso (fun x : S50 => (x.f0,x.f1,x.f2,x.f3)) (fun a => ⟨a.1,a.2.1,a.2.2.1,a.2.2.2⟩) (fun _ => rfl) (tells_struct Try.underlying50 (by kernel_rfl) (fs_cons rfl (tellsS Try.underlying9 (by kernel_rfl)) (fs_cons rfl (tellsI Try.underlying3 (by kernel_rfl)) (fs_cons rfl (tellsI Try.underlying3 (by kernel_rfl)) (fs_one rfl (tellsI Try.underlying3 (by kernel_rfl)))))))
def wz.Pure : Prop := ∀ (l0 : (List S50)) (a1_0 : ByteArray) (a1_1 : Int) (a1_2 : Int) (a1_3 : Int) (a2 : Int) (a3 : Int),(okL ok50) l0 → okS a1_0 → okI a1_1 → okI a1_2 → okI a1_3 → okI a2 → okI a3 → ∃ k,wz.f k l0 a1_0 a1_1 a1_2 a1_3 a2 a3 = some true
theorem w64 {n : Int} (h0 : -9223372036854775808 ≤ n) (h1 : n ≤ 9223372036854775807) : wrap64 n = n := by unfold wrap64;omega
def cmpB : List UInt8 → List UInt8 → Int
 | [],[] => 0
 | [],_ :: _ => -1
 | _ :: _,[] => 1
 | a :: x,b :: y => if a.toNat = b.toNat then cmpB x y else if a.toNat < b.toNat then -1 else 1
theorem cmpB_less : ∀ x y : List UInt8,Op.bytesLess x y = decide (cmpB x y < 0)
 | [],[] => by unfold Op.bytesLess cmpB;rfl
 | [],_ :: _ => by unfold Op.bytesLess cmpB;rfl
 | _ :: _,[] => by unfold Op.bytesLess cmpB;rfl
 | a :: x,b :: y => by
  unfold Op.bytesLess cmpB
  by_cases h : a.toNat = b.toNat
  ·obtain rfl : a = b := UInt8.toNat_inj.1 h
   rw [if_pos rfl,cmpB_less x y]
   have h2 : decide (a < a) = false := decide_eq_false (by rw [UInt8.lt_iff_toNat_lt];omega)
   rw [h2]
   simp
  ·have hne : (a == b) = false := by rw [beq_eq_false_iff_ne];intro e;exact h (by rw [e])
   rw [if_neg h,hne,Bool.false_and,Bool.or_false]
   by_cases h3 : a.toNat < b.toNat
   ·rw [if_pos h3,decide_eq_true (UInt8.lt_iff_toNat_lt.2 h3)];rfl
   ·rw [if_neg h3,decide_eq_false (fun e => h3 (UInt8.lt_iff_toNat_lt.1 e))];rfl
theorem bt_list (s : ByteArray) (i : Nat) (h : i < s.size) : ∃ hl : i < s.toList.length,bt s (i : Int) = (s.toList[i].toNat : Int) := by
 have hl : i < s.toList.length := by rw [ByteArray.toList_eq,data_length];exact h
 refine ⟨hl,?_⟩
 unfold bt
 simp only [Int.toNat_natCast,dif_pos h]
 simp only [ByteArray.toList_eq]
 rfl
theorem toList_len (s : ByteArray) : s.toList.length = s.size := by rw [ByteArray.toList_eq,data_length]
theorem cmpT_l0 (a b : ByteArray) (ha : a.size ≤ 4611686018427387904) (hb : b.size ≤ 4611686018427387904) (d : Nat) : ∀ (k i : Nat),i + d = a.size → i ≤ b.size → 2 * d + 2 ≤ k → qqz.l0 k a b (i : Int) = some (cmpB (a.toList.drop i) (b.toList.drop i)) := by
 induction d with
 | zero =>
  intro k i hi hib hk
  obtain ⟨k,rfl⟩ : ∃ m,k = m + 2 := ⟨k - 2,by omega⟩
  have e1 : a.toList.drop i = [] := List.drop_of_length_le (by rw [toList_len];omega)
  simp only [qqz.l0]
  rw [if_neg (by omega)]
  simp only [qqz.j1,qqq.f,if_neg (show ¬ (false = true) by decide)]
  rw [e1]
  by_cases hlt : i < b.size
  ·rw [if_pos (by omega),List.drop_eq_getElem_cons (by rw [toList_len];exact hlt)]
   rfl
  ·rw [if_neg (by omega),if_neg (by omega),show b.toList.drop i = [] from List.drop_of_length_le (by rw [toList_len];omega)]
   rfl
 | succ d ih =>
  intro k i hi hib hk
  obtain ⟨k,rfl⟩ : ∃ m,k = m + 2 := ⟨k - 2,by omega⟩
  obtain ⟨hl,eb⟩ := bt_list a i (by omega)
  simp only [qqz.l0]
  rw [if_pos (by omega),List.drop_eq_getElem_cons hl]
  by_cases hlt : i < b.size
  ·obtain ⟨hl2,eb2⟩ := bt_list b i hlt
   rw [List.drop_eq_getElem_cons hl2]
   simp only [qqz.j1,decide_eq_true (show (i : Int) < (b.size : Int) by omega),if_true]
   rw [if_pos (by omega),if_pos (by omega),if_pos (by omega),eb,eb2]
   unfold cmpB
   have h1 : a.toList[i].toNat < 256 := UInt8.toNat_lt _
   have h2 : b.toList[i].toNat < 256 := UInt8.toNat_lt _
   by_cases he : a.toList[i].toNat = b.toList[i].toNat
   ·rw [if_pos (by omega),if_pos he,show wrap64 ((i : Int) + 1) = ((i + 1 : Nat) : Int) from by rw [w64 (by omega) (by omega)];rfl]
    exact ih k (i + 1) (by omega) (by omega) (by omega)
   ·rw [if_neg (by omega),if_neg he,w64 (by omega) (by omega),w64 (by omega) (by omega)]
    unfold qqq.f
    by_cases h3 : a.toList[i].toNat < b.toList[i].toNat
    ·rw [if_pos (by omega),if_pos h3];rfl
    ·rw [if_neg (by omega),if_neg h3,if_pos (by omega)];rfl
  ·have e2 : b.toList.drop i = [] := List.drop_of_length_le (by rw [toList_len];omega)
   rw [e2]
   simp only [qqz.j1,decide_eq_false (show ¬ (i : Int) < (b.size : Int) by omega),if_neg (show ¬ (false = true) by decide)]
   unfold qqq.f cmpB
   rw [if_neg (by omega),if_pos (by omega)]
   rfl
def cmpT (a b : ByteArray) : Int := cmpB a.toList b.toList
theorem cmpT_ev (a b : ByteArray) (ha : a.size ≤ 4611686018427387904) (hb : b.size ≤ 4611686018427387904) : Ev (fun k => qqz.f k a b) (cmpT a b) := by
 refine ⟨2 * a.size + 2,fun k hk => ?_⟩
 have := cmpT_l0 a b ha hb a.size k 0 (by omega) (by omega) hk
 simpa [qqz.f,cmpT] using this
theorem cmpT_less (a b : ByteArray) : Op.bytesLess a.toList b.toList = decide (cmpT a b < 0) := cmpB_less _ _
theorem cmpB_eq : ∀ x y : List UInt8,cmpB x y = 0 ↔ x = y
 | [],[] => by simp [cmpB]
 | [],_ :: _ => by simp [cmpB]
 | _ :: _,[] => by simp [cmpB]
 | a :: x,b :: y => by
  unfold cmpB
  by_cases h : a.toNat = b.toNat
  ·obtain rfl : a = b := UInt8.toNat_inj.1 h
   rw [if_pos rfl,cmpB_eq x y]
   simp
  ·rw [if_neg h]
   have : a ≠ b := fun e => h (by rw [e])
   split <;> simp [this]
theorem cmpB_swap : ∀ x y : List UInt8,cmpB y x = - cmpB x y
 | [],[] => rfl
 | [],_ :: _ => rfl
 | _ :: _,[] => rfl
 | a :: x,b :: y => by
  unfold cmpB
  by_cases h : a.toNat = b.toNat
  ·rw [if_pos h,if_pos h.symm,cmpB_swap x y]
  ·rw [if_neg h,if_neg (fun e => h e.symm)]
   by_cases h2 : a.toNat < b.toNat
   ·rw [if_pos h2,if_neg (by omega)];rfl
   ·rw [if_neg h2,if_pos (by omega)]
theorem cmpB_trans : ∀ x y z : List UInt8,cmpB x y < 0 → cmpB y z < 0 → cmpB x z < 0
 | [],[],_,h,_ => by simp [cmpB] at h
 | _ :: _,[],_,h,_ => by simp [cmpB] at h
 | _,_ :: _,[],_,h => by simp [cmpB] at h
 | [],_ :: _,_ :: _,_,_ => by simp [cmpB]
 | a :: x,b :: y,c :: z,h1,h2 => by
  unfold cmpB at h1 h2 ⊢
  by_cases e1 : a.toNat = b.toNat
  ·rw [if_pos e1] at h1
   by_cases e2 : b.toNat = c.toNat
   ·rw [if_pos e2] at h2
    rw [if_pos (by omega)]
    exact cmpB_trans x y z h1 h2
   ·rw [if_neg e2] at h2
    rw [if_neg (by omega)]
    split at h2
    ·rw [if_pos (by omega)];omega
    ·omega
  ·rw [if_neg e1] at h1
   split at h1
   ·by_cases e2 : b.toNat = c.toNat
    ·rw [if_neg (by omega),if_pos (by omega)];omega
    ·rw [if_neg e2] at h2
     split at h2
     ·rw [if_neg (by omega),if_pos (by omega)];omega
     ·omega
   ·omega
def letC (c : Int) : Bool := decide (97 ≤ c ∧ c ≤ 122 ∨ 65 ≤ c ∧ c ≤ 90)
def digC (c : Int) : Bool := decide (48 ≤ c ∧ c ≤ 57)
theorem sletter_eq (c : Int) : qqk.f c = some (letC c) := by
 unfold qqk.f letC
 split
 ·split
  ·congr 1;symm;rw [decide_eq_true_eq];omega
  ·split
   ·congr 1;rw [decide_eq_decide];omega
   ·congr 1;symm;rw [decide_eq_false_iff_not];omega
 ·split
  ·congr 1;rw [decide_eq_decide];omega
  ·congr 1;symm;rw [decide_eq_false_iff_not];omega
theorem sdigit_eq (c : Int) : qqj.f c = some (digC c) := by
 unfold qqj.f digC
 split
 ·congr 1;rw [decide_eq_decide];omega
 ·congr 1;symm;rw [decide_eq_false_iff_not];omega
theorem iletter_eq (c : Int) : vw.f c = some (letC c) := by
 unfold vw.f letC
 split
 ·split
  ·congr 1;symm;rw [decide_eq_true_eq];omega
  ·split
   ·congr 1;rw [decide_eq_decide];omega
   ·congr 1;symm;rw [decide_eq_false_iff_not];omega
 ·split
  ·congr 1;rw [decide_eq_decide];omega
  ·congr 1;symm;rw [decide_eq_false_iff_not];omega
theorem idigit_eq (c : Int) : vz.f c = some (digC c) := by
 unfold vz.f digC
 split
 ·congr 1;rw [decide_eq_decide];omega
 ·congr 1;symm;rw [decide_eq_false_iff_not];omega
def idC (c : Int) : Bool := if letC c = true then true else if digC c = true then true else if c = 95 then true else if c = 45 then true else if c = 46 then true else false
def idN (s : ByteArray) : Nat → Bool
 | 0 => true
 | d + 1 => if idC (bt s ((s.size - (d + 1) : Nat) : Int)) = true then idN s d else false
theorem l7Id_l0 (s : ByteArray) (hs : s.size ≤ 9223372036854775807) (d : Nat) : ∀ (k i : Nat),s.size - i = d → i ≤ s.size → d < k → qqx.l0 k s i = some (if idN s d = true then (if (s.size : Int) ≥ 1 then decide ((s.size : Int) ≤ 40) else false) else false) := by
 induction d with
 | zero =>
  intro k i hd hi hk
  obtain ⟨k,rfl⟩ : ∃ m,k = m + 1 := ⟨k - 1,by omega⟩
  simp only [qqx.l0,idN,if_true]
  rw [if_neg (by omega)]
  split <;> rfl
 | succ d ih =>
  intro k i hd hi hk
  obtain ⟨k,rfl⟩ : ∃ m,k = m + 1 := ⟨k - 1,by omega⟩
  have e0 : s.size - (d + 1) = i := by omega
  simp only [qqx.l0,idN,e0,sletter_eq,sdigit_eq,Option.bind_some]
  rw [if_pos (by omega),if_pos (by omega),w64 (by omega) (by omega),show ((i : Int) + 1) = ((i + 1 : Nat) : Int) from rfl,ih k (i + 1) (by omega) (by omega) (by omega)]
  unfold idC
  split
  ·simp only [if_true]
  ·split
   ·simp only [if_true]
   ·split
    ·simp only [if_true]
    ·split
     ·simp only [if_true]
     ·split <;> simp only [if_true,Bool.false_eq_true,if_false]
theorem ygoodId_l0 (s : ByteArray) (hs : s.size ≤ 9223372036854775807) (d : Nat) : ∀ (k i : Nat),s.size - i = d → i ≤ s.size → d < k → vk.l0 k s (s.size : Int) i = some (idN s d) := by
 induction d with
 | zero =>
  intro k i hd hi hk
  obtain ⟨k,rfl⟩ : ∃ m,k = m + 1 := ⟨k - 1,by omega⟩
  simp only [vk.l0]
  rw [if_neg (by omega)]
  rfl
 | succ d ih =>
  intro k i hd hi hk
  obtain ⟨k,rfl⟩ : ∃ m,k = m + 1 := ⟨k - 1,by omega⟩
  have e0 : s.size - (d + 1) = i := by omega
  simp only [vk.l0,idN,e0,wq.f,iletter_eq,idigit_eq,Option.bind_some]
  rw [if_pos (by omega),if_pos (by omega),if_pos (by omega),w64 (by omega) (by omega),show ((i : Int) + 1) = ((i + 1 : Nat) : Int) from rfl,ih k (i + 1) (by omega) (by omega) (by omega)]
  unfold idC
  by_cases h1 : letC (bt s (i : Int)) = true
  ·simp only [h1,if_true,Option.bind_some]
  ·simp only [h1,Bool.false_eq_true,if_false]
   by_cases h2 : digC (bt s (i : Int)) = true
   ·simp only [h2,if_true,Option.bind_some]
   ·simp only [h2,Bool.false_eq_true,if_false,Option.bind_some,beq_iff_eq]
    by_cases h3 : bt s (i : Int) = 95
    ·simp only [h3,if_true]
    ·simp only [h3,if_false]
     by_cases h4 : bt s (i : Int) = 45
     ·simp only [h4,if_true]
     ·simp only [h4,if_false]
      by_cases h5 : bt s (i : Int) = 46
      ·simp only [h5,if_true]
      ·simp only [h5,if_false,Bool.false_eq_true]
def goodId (s : ByteArray) : Bool := idN s s.size && (decide (1 ≤ s.size) && decide (s.size ≤ 40))
theorem specId_ev (s : ByteArray) (hs : s.size ≤ 9223372036854775807) : Ev (fun k => qqx.f k s) (goodId s) := by
 refine ⟨s.size + 1,fun k hk => ?_⟩
 show qqx.f k s = _
 unfold qqx.f
 have e := l7Id_l0 s hs s.size k 0 (by omega) (by omega) (by omega)
 rw [show (0 : Int) = ((0 : Nat) : Int) from rfl,e]
 congr 1
 unfold goodId
 cases idN s s.size with
 | false => rfl
 | true =>
  simp only [if_true,Bool.true_and]
  by_cases h : 1 ≤ s.size
  ·rw [if_pos (by omega),decide_eq_true h,Bool.true_and,decide_eq_decide];omega
  ·rw [if_neg (by omega),decide_eq_false h,Bool.false_and]
theorem implId_ev (s : ByteArray) (hs : s.size ≤ 9223372036854775807) : Ev (fun k => vk.f k s) (goodId s) := by
 refine ⟨s.size + 2,fun k hk => ?_⟩
 show vk.f k s = _
 obtain ⟨k,rfl⟩ : ∃ m,k = m + 1 := ⟨k - 1,by omega⟩
 unfold vk.f goodId
 by_cases h1 : 1 ≤ s.size
 ·by_cases h2 : s.size ≤ 40
  ·rw [if_neg (by omega),decide_eq_false (by omega),decide_eq_true h1,decide_eq_true h2]
   simp only [vk.j0,Bool.false_eq_true,if_false,Bool.and_true]
   exact ygoodId_l0 s hs s.size k 0 (by omega) (by omega) (by omega)
  ·rw [if_neg (by omega),decide_eq_true (by omega),decide_eq_false h2]
   simp only [vk.j0,if_true,Bool.and_false]
 ·rw [if_pos (by omega),decide_eq_false h1]
  simp only [vk.j0,if_true,Bool.false_and,Bool.and_false]
def pwm (b : Int) (e : Nat) : Int := b ^ e % 2147483579
theorem pow_emod' (a m : Int) (n : Nat) : (a % m) ^ n % m = a ^ n % m := by
 induction n with
 | zero => simp
 | succ n ih => rw [Int.pow_succ,Int.pow_succ,Int.mul_emod,ih,Int.emod_emod,← Int.mul_emod]
theorem pow_double (x : Int) (h : Nat) : x ^ (2 * h) = (x * x) ^ h := by
 induction h with
 | zero => simp
 | succ h ih => rw [show 2 * (h + 1) = 2 * h + 1 + 1 by omega,Int.pow_succ,Int.pow_succ,ih,Int.pow_succ,Int.mul_assoc]
theorem mulP {a b : Int} (ha : 0 ≤ a) (ha2 : a < 2147483579) (hb : 0 ≤ b) (hb2 : b < 2147483579) : 0 ≤ a * b ∧ a * b ≤ 4611685717779682084 := by
 refine ⟨Int.mul_nonneg ha hb,?_⟩
 have := Int.mul_le_mul (show a ≤ 2147483578 by omega) (show b ≤ 2147483578 by omega) hb (by omega)
 omega
theorem mulM {a b : Int} (ha : 0 ≤ a) (ha2 : a < 2147483579) (hb : 0 ≤ b) (hb2 : b < 2147483579) : Int.tmod (wrap64 (a * b)) 2147483579 = a * b % 2147483579 := by
 have := mulP ha ha2 hb hb2
 rw [w64 (by omega) (by omega),Int.tmod_eq_emod_of_nonneg this.1]
theorem and1 (e : Nat) (he : e < 9223372036854775808) : Go.bits .and .i64 (e : Int) 1 = ((e % 2 : Nat) : Int) := by
 have h1 : (BitVec.ofInt 64 (e : Int)).toNat = e := by
  rw [BitVec.ofInt_natCast,BitVec.toNat_ofNat];exact Nat.mod_eq_of_lt (by omega)
 have h : ((BitVec.ofInt 64 (e : Int)) &&& (BitVec.ofInt 64 1)).toNat = e % 2 := by
  rw [BitVec.toNat_and,h1]
  exact Nat.and_one_is_mod e
 have e0 : Go.bits .and .i64 (e : Int) 1 = IntKind.i64.wrap ((((BitVec.ofInt 64 (e : Int)) &&& (BitVec.ofInt 64 1)).toNat : Nat) : Int) := rfl
 rw [e0,h]
 exact IntWalk.i64_in _ (by omega)
theorem ypow_l0 : ∀ (f k e : Nat) (x0 x7 : Int),0 ≤ x0 → x0 < 2147483579 → 0 ≤ x7 → x7 < 2147483579 → e < 2 ^ f → f ≤ 60 → f < k → vx.l0 k x0 e 2147483579 x7 = some (x7 * x0 ^ e % 2147483579) := by
 intro f
 induction f with
 | zero =>
  intro k e x0 x7 h0 h1 h2 h3 he hf hk
  obtain ⟨k,rfl⟩ : ∃ m,k = m + 1 := ⟨k - 1,by omega⟩
  obtain rfl : e = 0 := by simpa using he
  simp only [vx.l0,if_neg (show ¬ (((0 : Nat) : Int) > 0) by omega)]
  rw [Int.pow_zero,Int.mul_one,Int.emod_eq_of_lt h2 h3]
 | succ f ih =>
  intro k e x0 x7 h0 h1 h2 h3 he hf hk
  obtain ⟨k,rfl⟩ : ∃ m,k = m + 1 := ⟨k - 1,by omega⟩
  by_cases hz : e = 0
  ·subst hz
   simp only [vx.l0,if_neg (show ¬ (((0 : Nat) : Int) > 0) by omega)]
   rw [Int.pow_zero,Int.mul_one,Int.emod_eq_of_lt h2 h3]
  ·have hlim : e < 9223372036854775808 := Nat.lt_of_lt_of_le he (Nat.le_trans (Nat.pow_le_pow_right (by omega) (show f + 1 ≤ 61 by omega)) (by decide))
   have hdiv : ((e : Int) / 2) = ((e / 2 : Nat) : Int) := by omega
   have hhalf : e / 2 < 2 ^ f := by rw [Nat.pow_succ] at he;omega
   have s0 : 0 ≤ x0 * x0 % 2147483579 := Int.emod_nonneg _ (by omega)
   have s1 : x0 * x0 % 2147483579 < 2147483579 := Int.emod_lt_of_pos _ (by omega)
   have t0 : 0 ≤ x7 * x0 % 2147483579 := Int.emod_nonneg _ (by omega)
   have t1 : x7 * x0 % 2147483579 < 2147483579 := Int.emod_lt_of_pos _ (by omega)
   simp only [vx.l0,if_pos (show ((e : Int) > 0) by omega),and1 e hlim,if_neg (show ¬ ((2147483579 : Int) = 0) by omega),mulM h0 h1 h0 h1,mulM h2 h3 h0 h1,hdiv]
   by_cases ho : e % 2 = 1
   ·rw [if_pos (by omega),ih k (e / 2) _ _ s0 s1 t0 t1 hhalf (by omega) (by omega)]
    congr 1
    rw [Int.mul_emod,pow_emod',Int.emod_emod,← Int.mul_emod,← pow_double]
    conv => rhs;rw [show e = 2 * (e / 2) + 1 by omega,Int.pow_succ]
    congr 1
    ac_rfl
   ·rw [if_neg (by omega),ih k (e / 2) _ _ s0 s1 h2 h3 hhalf (by omega) (by omega)]
    congr 1
    rw [Int.mul_emod,pow_emod',← Int.mul_emod,← pow_double]
    conv => rhs;rw [show e = 2 * (e / 2) by omega]
theorem ypow_eq (b : Int) (e : Nat) (h0 : 0 ≤ b) (h1 : b < 2147483579) (he : e < 2199023255552) (k : Nat) (hk : 50 ≤ k) : vx.f k b e 2147483579 = some (pwm b e) := by
 unfold vx.f
 rw [if_neg (by omega),Int.tmod_eq_emod_of_nonneg h0,Int.emod_eq_of_lt h0 h1,ypow_l0 41 k e b 1 h0 h1 (by omega) (by omega) (by simpa using he) (by omega) (by omega),Int.one_mul]
 rfl
theorem shr_nat (e n : Nat) (hn : n ≤ 64) : shr .i64 (e : Int) (n : Int) = ((e / 2 ^ n : Nat) : Int) := by
 unfold shr
 rw [Int.toNat_natCast,Nat.min_eq_left (show n ≤ IntKind.i64.bits from hn)]
 simp
theorem l2Power_l0 (e : Nat) (he : e < 2199023255552) (x0 : Int) (h0 : 0 ≤ x0) (h1 : x0 < 2147483579) : ∀ (n k : Nat) (x7 : Int),n ≤ 41 → x7 = x0 ^ (e / 2 ^ n) % 2147483579 → n < k → qqv.l0 k x0 e 2147483579 x7 ((n : Int) - 1) = some (x0 ^ e % 2147483579) := by
 intro n
 induction n with
 | zero =>
  intro k x7 hn hx hk
  obtain ⟨k,rfl⟩ : ∃ m,k = m + 1 := ⟨k - 1,by omega⟩
  simp only [qqv.l0,if_neg (show ¬ (((0 : Nat) : Int) - 1 ≥ 0) by omega)]
  rw [hx,Nat.pow_zero,Nat.div_one]
 | succ n ih =>
  intro k x7 hn hx hk
  obtain ⟨k,rfl⟩ : ∃ m,k = m + 1 := ⟨k - 1,by omega⟩
  have en : (((n + 1 : Nat) : Int) - 1) = (n : Int) := by omega
  have ew : IntKind.u64.wrap (n : Int) = (n : Int) := by rw [IntKind.wrap_u64];omega
  have em : wrap64 ((n : Int) - 1) = (n : Int) - 1 := w64 (by omega) (by omega)
  have hq : e / 2 ^ n < 9223372036854775808 := Nat.lt_of_le_of_lt (Nat.div_le_self _ _) (by omega)
  have hh : e / 2 ^ (n + 1) = (e / 2 ^ n) / 2 := by rw [Nat.pow_succ,Nat.div_div_eq_div_mul]
  have x0' : 0 ≤ x7 := by rw [hx];exact Int.emod_nonneg _ (by omega)
  have x1' : x7 < 2147483579 := by rw [hx];exact Int.emod_lt_of_pos _ (by omega)
  have s0 : 0 ≤ x7 * x7 % 2147483579 := Int.emod_nonneg _ (by omega)
  have s1 : x7 * x7 % 2147483579 < 2147483579 := Int.emod_lt_of_pos _ (by omega)
  have hsq : x7 * x7 % 2147483579 = x0 ^ (2 * ((e / 2 ^ n) / 2)) % 2147483579 := by
   rw [hx,hh,← Int.mul_emod,Nat.two_mul,Int.pow_add]
  simp only [qqv.l0,en,if_pos (show ((n : Int) ≥ 0) by omega),if_neg (show ¬ ((2147483579 : Int) = 0) by omega),ew,shr_nat e n (by omega),and1 _ hq,mulM x0' x1' x0' x1',mulM s0 s1 h0 h1,em]
  by_cases ho : (e / 2 ^ n) % 2 = 1
  ·rw [if_pos (by omega)]
   refine ih k _ (by omega) ?_ (by omega)
   rw [hsq,Int.mul_emod,Int.emod_emod,← Int.mul_emod,← Int.pow_succ,Nat.succ_eq_add_one,show 2 * (e / 2 ^ n / 2) + 1 = e / 2 ^ n by omega]
  ·rw [if_neg (by omega)]
   refine ih k _ (by omega) ?_ (by omega)
   rw [hsq,show 2 * (e / 2 ^ n / 2) = e / 2 ^ n by omega]
theorem l2Power_eq (b : Int) (e : Nat) (h0 : 0 ≤ b) (h1 : b < 2147483579) (he : e < 2199023255552) (k : Nat) (hk : 50 ≤ k) : qqv.f k b e 2147483579 = some (pwm b e) := by
 unfold qqv.f
 exact l2Power_l0 e he b h0 h1 41 k 1 (by omega) (by rw [Nat.div_eq_of_lt (by simpa using he),Int.pow_zero];rfl) (by omega)
attribute [irreducible] pwm
theorem Ev.upK {α : Type} {g : Nat → Option α} {r : α} (h : Ev (fun k => g (k + 1)) r) : Ev g r := by
 obtain ⟨n,h⟩ := h
 refine ⟨n + 1,fun k hk => ?_⟩
 obtain ⟨k,rfl⟩ : ∃ m,k = m + 1 := ⟨k - 1,by omega⟩
 exact h k (by omega)
def goodPub (p : Int) : Bool := decide (p ≥ 2) && (decide (p < 2147483579) && (pwm p 1073741789 == 1))
theorem implPub_ev (p : Int) : Ev (fun k => vv.f k p) (goodPub p) := by
 refine ⟨50,fun k hk => ?_⟩
 show vv.f k p = some (goodPub p)
 unfold vv.f goodPub
 by_cases h1 : p ≥ 2
 ·by_cases h2 : p < 2147483579
  ·rw [if_pos h1,if_pos h2,decide_eq_true h1,decide_eq_true h2,show (1073741789 : Int) = ((1073741789 : Nat) : Int) from rfl,ypow_eq p 1073741789 (by omega) h2 (by omega) k hk]
   rfl
  ·rw [if_pos h1,if_neg h2,decide_eq_true h1,decide_eq_false h2];rfl
 ·rw [if_neg h1,decide_eq_false h1];rfl
theorem specPub_ev (p : Int) : Ev (fun k => qqw.f k p) (goodPub p) := by
 refine ⟨50,fun k hk => ?_⟩
 show qqw.f k p = some (goodPub p)
 unfold qqw.f goodPub
 by_cases h1 : p ≥ 2
 ·by_cases h2 : p < 2147483579
  ·rw [if_pos h1,if_pos h2,decide_eq_true h1,decide_eq_true h2,show (1073741789 : Int) = ((1073741789 : Nat) : Int) from rfl,l2Power_eq p 1073741789 (by omega) h2 (by omega) k hk]
   rfl
  ·rw [if_pos h1,if_neg h2,decide_eq_true h1,decide_eq_false h2];rfl
 ·rw [if_neg h1,decide_eq_false h1];rfl
abbrev KeyS := S53
def tailK (e : KeyS) (b : Bool) : Bool := if goodPub e.f1 = true then (if e.f2 < 0 then false else if e.f2 > e.f3 then false else if e.f3 > 100000000000 then false else b) else false
def aheadK (l : List KeyS) (i : Nat) : Prop := 0 < i ∧ ¬ cmpT (kw l ((i - 1 : Nat) : Int)).f0 (kw l (i : Int)).f0 < 0
instance (l : List KeyS) (i : Nat) : Decidable (aheadK l i) := by unfold aheadK;exact inferInstance
def ringN (l : List KeyS) : Nat → Bool
 | 0 => true
 | d + 1 => if goodId (kw l ((l.length - (d + 1) : Nat) : Int)).f0 = true then (if aheadK l (l.length - (d + 1)) then false else tailK (kw l ((l.length - (d + 1) : Nat) : Int)) (ringN l d)) else false
def goodRing (l : List KeyS) : Bool := if l.length ≤ 10 then ringN l l.length else false
def okKeys (l : List KeyS) : Prop := ∀ e ∈ l,e.f0.size ≤ 4611686018427387904
theorem rdK_nat {l : List KeyS} {i : Nat} (h : i < l.length) : kw l (i : Int) = l[i] := by simp [kw,List.getD_eq_getElem?_getD,List.getElem?_eq_getElem h]
theorem implRing_l0 (l : List KeyS) (hl : l.length ≤ 140737488351232) (ho : okKeys l) (d : Nat) : ∀ i : Nat,i + d = l.length → Ev (fun k => kx.l0 k l l (l.length : Int) (i : Int)) (ringN l d) := by
 induction d with
 | zero =>
  intro i hi
  refine Ev.upK ?_
  simp only [kx.l0,if_neg (show ¬ (i : Int) < (l.length : Int) by omega)]
  exact Ev.now _
 | succ d ih =>
  intro i hi
  have hlt : i < l.length := by omega
  have hs := ho _ (List.getElem_mem hlt)
  rw [← rdK_nat hlt] at hs
  have e2 : wrap64 ((i : Int) + 1) = ((i + 1 : Nat) : Int) := by rw [w64 (by omega) (by omega)];rfl
  have hrest := ih (i + 1) (by omega)
  rw [← e2] at hrest
  have htail : Ev (fun k => (vv.f k (kw l (i : Int)).f1).bind fun t => (if t = true then (if (kw l (i : Int)).f2 < 0 then (some false) else (if (kw l (i : Int)).f2 > (kw l (i : Int)).f3 then (some false) else (if (kw l (i : Int)).f3 > 100000000000 then (some false) else kx.l0 k l l (l.length : Int) (wrap64 ((i : Int) + 1))))) else (some false))) (tailK (kw l (i : Int)) (ringN l d)) := by
   refine Ev.bind (implPub_ev _) ?_
   unfold tailK
   by_cases h1 : goodPub (kw l (i : Int)).f1 = true
   ·simp only [if_pos h1]
    by_cases h2 : (kw l (i : Int)).f2 < 0
    ·simp only [if_pos h2];exact Ev.now _
    by_cases h3 : (kw l (i : Int)).f2 > (kw l (i : Int)).f3
    ·simp only [if_neg h2,if_pos h3];exact Ev.now _
    by_cases h4 : (kw l (i : Int)).f3 > 100000000000
    ·simp only [if_neg h2,if_neg h3,if_pos h4];exact Ev.now _
    simp only [if_neg h2,if_neg h3,if_neg h4]
    exact hrest
   ·simp only [if_neg h1];exact Ev.now _
  refine Ev.upK ?_
  simp only [kx.l0,ringN,show l.length - (d + 1) = i by omega,if_pos (show (i : Int) < (l.length : Int) by omega),if_pos (Int.natCast_nonneg i)]
  refine Ev.bind (implId_ev _ (by omega)) ?_
  by_cases hid : goodId (kw l (i : Int)).f0 = true
  ·simp only [if_pos hid]
   by_cases h0 : 0 < i
   ·have e3 : wrap64 ((i : Int) - 1) = ((i - 1 : Nat) : Int) := by rw [w64 (by omega) (by omega)];omega
    have hs1 := ho _ (List.getElem_mem (show i - 1 < l.length by omega))
    rw [← rdK_nat (show i - 1 < l.length by omega)] at hs1
    simp only [if_pos (show (i : Int) > 0 by omega),e3,if_pos (Int.natCast_nonneg (i - 1)),if_pos (show ((i - 1 : Nat) : Int) < (l.length : Int) by omega),cmpT_less]
    by_cases hc : cmpT (kw l ((i - 1 : Nat) : Int)).f0 (kw l (i : Int)).f0 < 0
    ·simp only [decide_eq_true hc,if_true,if_neg (show ¬ aheadK l i from fun h => h.2 hc)]
     exact htail
    ·simp only [decide_eq_false hc,if_neg (show ¬ (false = true) by decide),if_pos (show aheadK l i from ⟨h0,hc⟩)]
     exact Ev.now _
   ·simp only [if_neg (show ¬ (i : Int) > 0 by omega),if_neg (show ¬ aheadK l i from fun h => h0 h.1)]
    exact htail
  ·simp only [if_neg hid]
   exact Ev.now _
theorem specRing_l0 (l : List KeyS) (hl : l.length ≤ 140737488351232) (ho : okKeys l) (d : Nat) : ∀ i : Nat,i + d = l.length → Ev (fun k => xv.l0 k l l (l.length : Int) (i : Int)) (ringN l d && decide ((l.length : Int) ≤ 10)) := by
 induction d with
 | zero =>
  intro i hi
  refine Ev.upK ?_
  simp only [xv.l0,if_neg (show ¬ (i : Int) < (l.length : Int) by omega)]
  exact Ev.now _
 | succ d ih =>
  intro i hi
  have hlt : i < l.length := by omega
  have hs := ho _ (List.getElem_mem hlt)
  rw [← rdK_nat hlt] at hs
  have e2 : wrap64 ((i : Int) + 1) = ((i + 1 : Nat) : Int) := by rw [w64 (by omega) (by omega)];rfl
  have hrest := ih (i + 1) (by omega)
  rw [← e2] at hrest
  have htail : Ev (fun k => (qqw.f k (kw l (i : Int)).f1).bind fun t => (if t = true then (if (kw l (i : Int)).f2 < 0 then (some false) else (if (kw l (i : Int)).f3 > 100000000000 then (some false) else (if (kw l (i : Int)).f2 > (kw l (i : Int)).f3 then (some false) else xv.l0 k l l (l.length : Int) (wrap64 ((i : Int) + 1))))) else (some false))) (tailK (kw l (i : Int)) (ringN l d) && decide ((l.length : Int) ≤ 10)) := by
   refine Ev.bind (specPub_ev _) ?_
   unfold tailK
   by_cases h1 : goodPub (kw l (i : Int)).f1 = true
   ·simp only [if_pos h1]
    by_cases h2 : (kw l (i : Int)).f2 < 0
    ·simp only [if_pos h2];exact Ev.now _
    by_cases h3 : (kw l (i : Int)).f2 > (kw l (i : Int)).f3
    ·simp only [if_neg h2,if_pos h3,Bool.false_and];split <;> exact Ev.now _
    by_cases h4 : (kw l (i : Int)).f3 > 100000000000
    ·simp only [if_neg h2,if_neg h3,if_pos h4];exact Ev.now _
    simp only [if_neg h2,if_neg h3,if_neg h4]
    exact hrest
   ·simp only [if_neg h1];exact Ev.now _
  refine Ev.upK ?_
  simp only [xv.l0,ringN,show l.length - (d + 1) = i by omega,if_pos (show (i : Int) < (l.length : Int) by omega),if_pos (Int.natCast_nonneg i)]
  refine Ev.bind (specId_ev _ (by omega)) ?_
  by_cases hid : goodId (kw l (i : Int)).f0 = true
  ·simp only [if_pos hid]
   by_cases h0 : 0 < i
   ·have e3 : wrap64 ((i : Int) - 1) = ((i - 1 : Nat) : Int) := by rw [w64 (by omega) (by omega)];omega
    have hs1 := ho _ (List.getElem_mem (show i - 1 < l.length by omega))
    rw [← rdK_nat (show i - 1 < l.length by omega)] at hs1
    simp only [if_pos (show (i : Int) > 0 by omega),e3,if_pos (Int.natCast_nonneg (i - 1)),if_pos (show ((i - 1 : Nat) : Int) < (l.length : Int) by omega)]
    refine Ev.bind (cmpT_ev _ _ hs1 hs) ?_
    by_cases hc : cmpT (kw l ((i - 1 : Nat) : Int)).f0 (kw l (i : Int)).f0 < 0
    ·simp only [if_neg (show ¬ cmpT (kw l ((i - 1 : Nat) : Int)).f0 (kw l (i : Int)).f0 ≥ 0 by omega),if_neg (show ¬ aheadK l i from fun h => h.2 hc)]
     exact htail
    ·simp only [if_pos (show cmpT (kw l ((i - 1 : Nat) : Int)).f0 (kw l (i : Int)).f0 ≥ 0 by omega),if_pos (show aheadK l i from ⟨h0,hc⟩)]
     exact Ev.now _
   ·simp only [if_neg (show ¬ (i : Int) > 0 by omega),if_neg (show ¬ aheadK l i from fun h => h0 h.1)]
    exact htail
  ·simp only [if_neg hid]
   exact Ev.now _
theorem implRing_ev (l : List KeyS) (hl : l.length ≤ 140737488351232) (ho : okKeys l) : Ev (fun k => kx.f k l) (goodRing l) := by
 unfold goodRing
 simp only [kx.f]
 by_cases h : l.length ≤ 10
 ·simp only [if_neg (show ¬ (l.length : Int) > 10 by omega),if_pos h]
  exact implRing_l0 l hl ho l.length 0 (by omega)
 ·simp only [if_pos (show (l.length : Int) > 10 by omega),if_neg h]
  exact Ev.now _
theorem specRing_ev (l : List KeyS) (hl : l.length ≤ 140737488351232) (ho : okKeys l) : Ev (fun k => xv.f k l) (goodRing l) := by
 have h2 := specRing_l0 l hl ho l.length 0 (by omega)
 unfold goodRing
 simp only [xv.f]
 by_cases h : l.length ≤ 10
 ·rw [if_pos h]
  rw [decide_eq_true (show (l.length : Int) ≤ 10 by omega),Bool.and_true] at h2
  exact h2
 ·rw [if_neg h]
  rw [decide_eq_false (show ¬ (l.length : Int) ≤ 10 by omega),Bool.and_false] at h2
  exact h2
theorem sort_facts {α : Type} [Inhabited α] (lt : α → α → Bool) (hS : Go.Sort.SWO lt) (l : List α) : (Go.Sort.insertionSort lt l.toArray 0 l.length).toList.Perm l ∧ (Go.Sort.insertionSort lt l.toArray 0 l.length).toList.Pairwise (fun a b => lt b a = false) := by
 obtain ⟨⟨hsz,-,hp⟩,hs⟩ := Go.Sort.insertionSort_holds hS l.toArray 0 l.length (Nat.zero_le _) (by simp)
 generalize Go.Sort.insertionSort lt l.toArray 0 l.length = r at *
 have hl : r.size = l.length := by simpa using hsz
 refine ⟨?_,?_⟩
 ·rw [show l.toArray.extract 0 l.length = l.toArray from by simp,← hl,Array.extract_size] at hp
  simpa using hp
 ·rw [List.pairwise_iff_getElem]
  intro i j hi hj hij
  have := hs i j (Nat.zero_le _) hij (by simpa [hl] using hj)
  have h1 : i < r.size := by simpa using hi
  have h2 : j < r.size := by simpa using hj
  simpa [getElem!_pos,h1,h2] using this
theorem perm_same {α : Type} (lt : α → α → Bool) {A B : List α} (h : A.Perm B) (hA : A.Pairwise (fun a b => lt b a = false)) (hB : B.Pairwise (fun a b => lt b a = false)) (hst : A.Pairwise (fun a b => lt a b = true)) : A = B := by
 refine List.Perm.eq_of_pairwise (le := fun a b => lt b a = false) ?_ hA hB h
 intro a b ha hb hab hba
 have hb := h.mem_iff.2 hb
 refine List.Pairwise.forall_of_forall_of_flip (R := fun a b => lt b a = false → lt a b = false → a = b) (l := A) ?_ ?_ ?_ ha hb hab hba
 ·intro x _ _ _;rfl
 ·refine hst.imp ?_
  intro a b h1 h2 h3;rw [h1] at h3;cases h3
 ·refine hst.imp ?_
  intro a b h1 (h2 : lt a b = false) _;rw [h1] at h2;cases h2
def ltK (x y : KeyS) : Bool := decide (cmpT x.f0 y.f0 < 0)
theorem ltK_of : ltOf cfKey = ltK := by
 funext x y
 unfold ltOf cfKey cfStr ltK
 rw [cmpT_less]
 by_cases h : cmpT x.f0 y.f0 < 0
 ·simp [h]
 ·simp only [h,decide_false,Bool.false_eq_true,if_false]
  split <;> rfl
theorem cmpT_swap (x y : ByteArray) : cmpT y x = - cmpT x y := cmpB_swap _ _
theorem cmpT_trans (x y z : ByteArray) (h1 : cmpT x y < 0) (h2 : cmpT y z < 0) : cmpT x z < 0 := cmpB_trans _ _ _ h1 h2
theorem cmpT_eq (x y : ByteArray) : cmpT x y = 0 ↔ x.toList = y.toList := cmpB_eq _ _
theorem cmpT_le_trans {x y z : ByteArray} (h1 : ¬ cmpT x y < 0) (h2 : ¬ cmpT y z < 0) : ¬ cmpT x z < 0 := by
 intro h
 by_cases e1 : cmpT x y = 0
 ·have := (cmpT_eq x y).1 e1
  unfold cmpT at h h2
  rw [this] at h
  exact h2 h
 have s1 : cmpT y x < 0 := by rw [cmpT_swap x y];omega
 exact h2 (cmpT_trans _ _ _ s1 h)
theorem ltK_swo : Go.Sort.SWO ltK where
 irrefl x := by
  have : cmpT x.f0 x.f0 = 0 := (cmpT_eq _ _).2 rfl
  unfold ltK;rw [this];rfl
 trans x y z h1 h2 := by
  unfold ltK at *
  exact decide_eq_true (cmpT_trans _ _ _ (of_decide_eq_true h1) (of_decide_eq_true h2))
 ntrans x y z h1 h2 := by
  unfold ltK at *
  exact decide_eq_false (cmpT_le_trans (of_decide_eq_false h1) (of_decide_eq_false h2))
theorem ringN_step (l : List KeyS) (d : Nat) : ringN l d = true → ∀ i,l.length - d ≤ i → i < l.length → ¬ aheadK l i := by
 induction d with
 | zero => intro _ i h1 h2;omega
 | succ d ih =>
  intro h i h1 h2
  simp only [ringN] at h
  split at h
  ·split at h
   ·cases h
   ·rename_i _ hn
    by_cases he : i = l.length - (d + 1)
    ·rw [he];exact hn
    ·unfold tailK at h
     have hb : ringN l d = true := by
      generalize ringN l d = b at h
      cases b with
      | true => rfl
      | false => simp only [ite_self] at h;cases h
     exact ih hb i (by omega) h2
  ·cases h
theorem ring_rising (l : List KeyS) (h : goodRing l = true) : l.Pairwise (fun a b => ltK a b = true) := by
 unfold goodRing at h
 split at h
 ·have hs := ringN_step l l.length h
  rw [List.pairwise_iff_getElem]
  intro i j hi hj hij
  have step : ∀ m (hm : m + 1 < l.length),cmpT l[m].f0 l[m + 1].f0 < 0 := by
   intro m hm
   have := hs (m + 1) (by omega) hm
   unfold aheadK at this
   rw [show m + 1 - 1 = m from rfl,rdK_nat (show m < l.length by omega),rdK_nat hm] at this
   by_cases hc : cmpT l[m].f0 l[m + 1].f0 < 0
   ·exact hc
   ·exact absurd ⟨by omega,hc⟩ this
  refine decide_eq_true ?_
  have all : ∀ d (hd : i + d + 1 < l.length),cmpT l[i].f0 l[i + d + 1].f0 < 0 := by
   intro d
   induction d with
   | zero => intro hd;exact step i hd
   | succ d ih => intro hd;exact cmpT_trans _ _ _ (ih (by omega)) (step (i + d + 1) hd)
  obtain ⟨d,rfl⟩ : ∃ d,j = i + d + 1 := ⟨j - i - 1,by omega⟩
  exact all d hj
 ·cases h
def keptK (t u : Int) (k : KeyS) : Bool := !(decide (k.f3 < t) || decide (k.f2 > u))
def cutK (u : Int) (k : KeyS) : KeyS := ⟨k.f0,k.f1,k.f2,min k.f3 u⟩
def restK (t u : Int) (l : List KeyS) : List KeyS := (l.filter (keptK t u)).map (cutK u)
def passK (t u : Int) (x : KeyS) : List KeyS → Bool → List KeyS
 | [],put => if put = true then [] else [x]
 | k :: r,put => (if put = false ∧ cmpT x.f0 k.f0 ≤ 0 then [x] else []) ++ (if keptK t u k = true then [cutK u k] else []) ++ passK t u x r (put || decide (cmpT x.f0 k.f0 ≤ 0))
theorem restK_cons (t u : Int) (k : KeyS) (r : List KeyS) : restK t u (k :: r) = (if keptK t u k = true then [cutK u k] else []) ++ restK t u r := by
 unfold restK
 rw [List.filter_cons]
 split <;> simp
theorem pass_put (t u : Int) (x : KeyS) (l : List KeyS) : passK t u x l true = restK t u l := by
 induction l with
 | nil => rfl
 | cons k r ih => rw [restK_cons,passK,if_neg (fun h => Bool.noConfusion h.1),Bool.true_or,ih];rfl
theorem pass_perm (t u : Int) (x : KeyS) (l : List KeyS) : (passK t u x l false).Perm (x :: restK t u l) := by
 induction l with
 | nil => exact List.Perm.refl _
 | cons k r ih =>
  rw [passK,restK_cons]
  by_cases h : cmpT x.f0 k.f0 ≤ 0
  ·rw [if_pos ⟨rfl,h⟩,decide_eq_true h,Bool.or_true,pass_put]
   simp
  ·rw [if_neg (fun g => h g.2),decide_eq_false h,Bool.or_false,List.nil_append]
   exact (List.Perm.append_left _ ih).trans List.perm_middle
theorem rest_mem {t u : Int} {l : List KeyS} {e : KeyS} (h : e ∈ restK t u l) : ∃ k ∈ l,e.f0 = k.f0 := by
 obtain ⟨k,hk,rfl⟩ := List.mem_map.1 h
 exact ⟨k,(List.mem_filter.1 hk).1,rfl⟩
theorem rest_sorted (t u : Int) (l : List KeyS) (h : l.Pairwise (fun a b => ltK a b = true)) : (restK t u l).Pairwise (fun a b => ltK b a = false) := by
 unfold restK
 rw [List.pairwise_map]
 refine (h.filter _).imp ?_
 intro a b hab
 unfold ltK at hab ⊢
 have := of_decide_eq_true hab
 refine decide_eq_false ?_
 show ¬ cmpT b.f0 a.f0 < 0
 rw [cmpT_swap a.f0 b.f0];omega
theorem pass_sorted (t u : Int) (x : KeyS) (l : List KeyS) (h : l.Pairwise (fun a b => ltK a b = true)) : (passK t u x l false).Pairwise (fun a b => ltK b a = false) := by
 induction l with
 | nil => simp [passK]
 | cons k r ih =>
  have hr := (List.pairwise_cons.1 h)
  rw [passK]
  by_cases hc : cmpT x.f0 k.f0 ≤ 0
  ·rw [if_pos ⟨rfl,hc⟩,decide_eq_true hc,Bool.or_true,pass_put,List.append_assoc,← restK_cons]
   refine List.pairwise_cons.2 ⟨fun e he => ?_,rest_sorted t u _ h⟩
   obtain ⟨k',hk,e0⟩ := rest_mem he
   unfold ltK
   refine decide_eq_false ?_
   rw [e0]
   have h1 : ¬ cmpT k.f0 x.f0 < 0 := by rw [cmpT_swap x.f0 k.f0];omega
   rcases List.mem_cons.1 hk with rfl | hk
   ·exact h1
   ·have h2 := of_decide_eq_true (hr.1 k' hk)
    exact cmpT_le_trans (y := k.f0) (by rw [cmpT_swap k.f0 k'.f0];omega) h1
  ·rw [if_neg (fun g => hc g.2),decide_eq_false hc,Bool.or_false,List.nil_append]
   split
   ·refine List.pairwise_cons.2 ⟨fun e he => ?_,ih hr.2⟩
    have he := (pass_perm t u x r).mem_iff.1 he
    unfold ltK
    refine decide_eq_false ?_
    show ¬ cmpT e.f0 k.f0 < 0
    rcases List.mem_cons.1 he with rfl | he
    ·omega
    ·obtain ⟨k',hk,e0⟩ := rest_mem he
     have h2 := of_decide_eq_true (hr.1 k' hk)
     rw [e0,cmpT_swap k.f0 k'.f0];omega
   ·exact ih hr.2
def sortedK (l : List KeyS) : List KeyS := (Go.Sort.insertionSort (ltOf cfKey) l.toArray 0 l.length).toList
theorem turned_same (t u : Int) (x : KeyS) (l : List KeyS) (h : goodRing l = true) : (if goodRing (sortedK (x :: restK t u l)) = true then sortedK (x :: restK t u l) else []) = (if goodRing (passK t u x l false) = true then passK t u x l false else []) := by
 have hs := sort_facts ltK ltK_swo (x :: restK t u l)
 rw [← ltK_of] at hs
 obtain ⟨p1,s1⟩ := hs
 have p1 : (sortedK (x :: restK t u l)).Perm (x :: restK t u l) := p1
 have s1 : (sortedK (x :: restK t u l)).Pairwise (fun a b => ltK b a = false) := by rw [← ltK_of];exact s1
 have p2 := pass_perm t u x l
 have s2 := pass_sorted t u x l (ring_rising l h)
 generalize sortedK (x :: restK t u l) = A at *
 generalize passK t u x l false = B at *
 have pp : A.Perm B := p1.trans p2.symm
 by_cases hA : goodRing A = true
 ·have e := perm_same ltK pp s1 s2 (ring_rising A hA)
  rw [e]
 ·by_cases hB : goodRing B = true
  ·have e := perm_same ltK pp.symm s2 s1 (ring_rising B hB)
   rw [e]
  ·rw [if_neg hA,if_neg hB]
open Go.RowKit Go.Proofs.Ytakocdkcfjkmdaa.Read Go.Proofs.YtakocdkcfjkmdaaW.PrintWords Go.Proofs.YtakocdkcfjkmdaaW.PrintLast Go.Proofs.YtakocdkcfjkmdaaW.PrintMore
def endR (L : List KeyS) : List KeyS := if goodRing L = true then L else []
theorem rest_snoc (t u : Int) (l : List KeyS) {i : Nat} (h : i < l.length) : restK t u (l.take (i + 1)) = restK t u (l.take i) ++ (if keptK t u l[i] = true then [cutK u l[i]] else []) := by
 rw [List.take_succ_eq_append_getElem h]
 unfold restK
 rw [List.filter_append,List.map_append,List.filter_cons]
 split <;> simp
theorem rest_len (t u : Int) (l : List KeyS) : (restK t u l).length ≤ l.length := by
 unfold restK
 rw [List.length_map]
 exact List.length_filter_le _ _
theorem mn_min (a b : Int) : mn a b = min a b := by unfold mn;omega
theorem ok_perm {A B : List KeyS} (h : A.Perm B) (hB : okKeys B) : okKeys A := fun e he => hB e (h.mem_iff.1 he)
theorem ok_rest (t u : Int) {x : KeyS} {l : List KeyS} (hx : x.f0.size ≤ 4611686018427387904) (hl : okKeys l) : okKeys (x :: restK t u l) := by
 intro e he
 rcases List.mem_cons.1 he with rfl | he
 ·exact hx
 ·obtain ⟨k,hk,e0⟩ := rest_mem he
  rw [e0];exact hl k hk
theorem sorted_perm (l : List KeyS) : (sortedK l).Perm l := by
 have hs := sort_facts ltK ltK_swo l
 rw [← ltK_of] at hs
 exact hs.1
theorem implRot_l0 (t g : Int) (x : KeyS) (l : List KeyS) (hl : l.length ≤ 10) (hx : x.f0.size ≤ 4611686018427387904) (ho : okKeys l) (d : Nat) : ∀ i : Nat,i + d = l.length → Ev (fun k => vq.l0 k t g (x :: restK t (wrap64 (t + g)) (l.take i)) l (l.length : Int) (i : Int)) (endR (sortedK (x :: restK t (wrap64 (t + g)) l))) := by
 induction d with
 | zero =>
  intro i hi
  obtain rfl : i = l.length := by omega
  have hlen := rest_len t (wrap64 (t + g)) l
  have hsort : ∀ k,sort_impl_RotateRing_1.f k (x :: restK t (wrap64 (t + g)) l) = some (sortedK (x :: restK t (wrap64 (t + g)) l)) := by
   intro k
   unfold sort_impl_RotateRing_1.f
   rw [if_neg (by simp),if_pos (by rw [List.length_cons];omega)]
   rfl
  refine Ev.upK ?_
  simp only [vq.l0,if_neg (Int.lt_irrefl _),List.take_length,hsort,Option.bind_some]
  refine Ev.bind (implRing_ev _ ?_ (ok_perm (sorted_perm _) (ok_rest _ _ hx ho))) ?_
  ·rw [(sorted_perm _).length_eq,List.length_cons];omega
  ·unfold endR
   split <;> exact Ev.now _
 | succ d ih =>
  intro i hi
  have hlt : i < l.length := by omega
  have hn := ih (i + 1) (by omega)
  rw [rest_snoc _ _ _ hlt] at hn
  have hlen := rest_len t (wrap64 (t + g)) (l.take i)
  rw [List.length_take] at hlen
  have e2 : wrap64 ((i : Int) + 1) = ((i + 1 : Nat) : Int) := by rw [w64 (by omega) (by omega)];rfl
  refine Ev.upK ?_
  simp only [vq.l0,if_pos (show (i : Int) < (l.length : Int) by omega),if_pos (Int.natCast_nonneg i),rdK_nat hlt,e2]
  by_cases h1 : l[i].f3 < t
  ·have hk : keptK t (wrap64 (t + g)) l[i] = false := by unfold keptK;rw [decide_eq_true h1];rfl
   rw [hk,if_neg (by decide),List.append_nil] at hn
   simp only [if_pos h1]
   exact hn
  by_cases h2 : l[i].f2 > wrap64 (t + g)
  ·have hk : keptK t (wrap64 (t + g)) l[i] = false := by unfold keptK;rw [decide_eq_true h2,Bool.or_true];rfl
   rw [hk,if_neg (by decide),List.append_nil] at hn
   simp only [if_neg h1,if_pos h2]
   exact hn
  have hk : keptK t (wrap64 (t + g)) l[i] = true := by unfold keptK;rw [decide_eq_false h1,decide_eq_false h2];rfl
  rw [hk,if_pos rfl] at hn
  simp only [if_neg h1,if_neg h2,if_pos (show (x :: restK t (wrap64 (t + g)) (l.take i)).length < 3518437208883 by rw [List.length_cons];omega),mn_min]
  exact hn
theorem pass_tail (t u : Int) (x : KeyS) (k : KeyS) (r : List KeyS) (put : Bool) (hd : put = true ∨ ¬ cmpT x.f0 k.f0 ≤ 0) : passK t u x (k :: r) put = (if keptK t u k = true then [cutK u k] else []) ++ passK t u x r put := by
 rw [passK]
 rcases hd with h | h
 ·rw [if_neg (fun g => by rw [h] at g;exact Bool.noConfusion g.1),h,Bool.true_or];rfl
 ·rw [if_neg (fun g => h g.2),decide_eq_false h,Bool.or_false];rfl
theorem pass_here (t u : Int) (x : KeyS) (k : KeyS) (r : List KeyS) (hd : cmpT x.f0 k.f0 ≤ 0) : passK t u x (k :: r) false = [x] ++ ((if keptK t u k = true then [cutK u k] else []) ++ passK t u x r true) := by
 rw [passK,if_pos ⟨rfl,hd⟩,decide_eq_true hd,Bool.or_true,List.append_assoc]
theorem lesser_eq (a b : Int) : xx.f a b = some (min a b) := by
 unfold xx.f
 split
 ·rw [Int.min_eq_left (by omega)]
 ·rw [Int.min_eq_right (by omega)]
theorem specRot_end (L : List KeyS) (hL : okKeys L) (hn : L.length ≤ 1000) : Ev (fun k => (xv.f k L).bind fun b => if b = true then some L else some []) (endR L) := by
 refine Ev.bind (specRing_ev L (by omega) hL) ?_
 unfold endR
 split <;> exact Ev.now _
theorem specRot_l0 (t g : Int) (x : KeyS) (l L : List KeyS) (hl : l.length ≤ 10) (hx : x.f0.size ≤ 4611686018427387904) (ho : okKeys l) (hL : okKeys L) (hLn : L.length ≤ 1000) (d : Nat) : ∀ (i : Nat) (acc : List KeyS) (put : Bool),i + d = l.length → acc ++ passK t (wrap64 (t + g)) x (l.drop i) put = L → Ev (fun k => xw.l0 k t g acc put l (l.length : Int) (i : Int) x.f0 x.f1 x.f2 x.f3) (endR L) := by
 induction d with
 | zero =>
  intro i acc put hi hacc
  obtain rfl : i = l.length := by omega
  rw [List.drop_length,passK] at hacc
  refine Ev.upK ?_
  cases put with
  | true =>
   rw [if_pos rfl,List.append_nil] at hacc
   subst hacc
   simp only [xw.l0,if_neg (Int.lt_irrefl _),if_true]
   exact specRot_end acc hL hLn
  | false =>
   rw [if_neg (by decide)] at hacc
   have hlen : acc.length + 1 = L.length := by rw [← hacc,List.length_append];rfl
   simp only [xw.l0,if_neg (Int.lt_irrefl _),if_neg (show ¬ (false = true) by decide),if_pos (show acc.length < 3518437208883 by omega),Option.bind_some]
   rw [show (⟨x.f0,x.f1,x.f2,x.f3⟩ : KeyS) = x from rfl,hacc]
   exact specRot_end L hL hLn
 | succ d ih =>
  intro i acc put hi hacc
  have hlt : i < l.length := by omega
  have hs := ho _ (List.getElem_mem hlt)
  have hal : acc.length ≤ 1000 := by rw [← hacc,List.length_append] at hLn;omega
  rw [List.drop_eq_getElem_cons hlt] at hacc
  have e2 : wrap64 ((i : Int) + 1) = ((i + 1 : Nat) : Int) := by rw [w64 (by omega) (by omega)];rfl
  have hrest : ∀ (acc2 : List KeyS) (put2 : Bool),acc2.length ≤ 1001 → acc2 ++ ((if keptK t (wrap64 (t + g)) l[i] = true then [cutK (wrap64 (t + g)) l[i]] else []) ++ passK t (wrap64 (t + g)) x (l.drop (i + 1)) put2) = L →
    Ev (fun k => if l[i].f3 < t then xw.l0 k t g acc2 put2 l (l.length : Int) ((i + 1 : Nat) : Int) x.f0 x.f1 x.f2 x.f3 else if l[i].f2 > wrap64 (t + g) then xw.l0 k t g acc2 put2 l (l.length : Int) ((i + 1 : Nat) : Int) x.f0 x.f1 x.f2 x.f3 else (xx.f l[i].f3 (wrap64 (t + g))).bind fun r => if acc2.length < 3518437208883 then xw.l0 k t g (acc2 ++ [(⟨l[i].f0,l[i].f1,l[i].f2,r⟩ : KeyS)]) put2 l (l.length : Int) ((i + 1 : Nat) : Int) x.f0 x.f1 x.f2 x.f3 else none) (endR L) := by
   intro acc2 put2 hl2 h2
   by_cases h1 : l[i].f3 < t
   ·have hk : keptK t (wrap64 (t + g)) l[i] = false := by unfold keptK;rw [decide_eq_true h1];rfl
    rw [hk,if_neg (by decide),List.nil_append] at h2
    simp only [if_pos h1]
    exact ih (i + 1) acc2 put2 (by omega) h2
   by_cases h3 : l[i].f2 > wrap64 (t + g)
   ·have hk : keptK t (wrap64 (t + g)) l[i] = false := by unfold keptK;rw [decide_eq_true h3,Bool.or_true];rfl
    rw [hk,if_neg (by decide),List.nil_append] at h2
    simp only [if_neg h1,if_pos h3]
    exact ih (i + 1) acc2 put2 (by omega) h2
   have hk : keptK t (wrap64 (t + g)) l[i] = true := by unfold keptK;rw [decide_eq_false h1,decide_eq_false h3];rfl
   rw [hk,if_pos rfl,← List.append_assoc] at h2
   simp only [if_neg h1,if_neg h3,lesser_eq,Option.bind_some,if_pos (show acc2.length < 3518437208883 by omega)]
   exact ih (i + 1) _ put2 (by omega) h2
  have hj : ∀ (q : Bool),(q = true → put = false ∧ cmpT x.f0 l[i].f0 ≤ 0) → (q = false → put = true ∨ ¬ cmpT x.f0 l[i].f0 ≤ 0) → Ev (fun k => xw.j2 k t g acc put l (l.length : Int) (i : Int) q x.f0 x.f1 x.f2 x.f3 l[i].f0 l[i].f1 l[i].f2 l[i].f3) (endR L) := by
   intro q hq1 hq2
   refine Ev.upK ?_
   cases q with
   | true =>
    obtain ⟨hp,hc⟩ := hq1 rfl
    subst hp
    rw [pass_here _ _ _ _ _ hc,← List.append_assoc] at hacc
    simp only [xw.j2,if_true,if_pos (show acc.length < 3518437208883 by omega),Option.bind_some,e2]
    exact hrest (acc ++ [x]) true (by rw [List.length_append];simp;omega) hacc
   | false =>
    rw [pass_tail _ _ _ _ _ _ (hq2 rfl)] at hacc
    simp only [xw.j2,if_neg (show ¬ (false = true) by decide),e2]
    exact hrest acc put (by omega) hacc
  refine Ev.upK ?_
  simp only [xw.l0,if_pos (show (i : Int) < (l.length : Int) by omega),if_pos (Int.natCast_nonneg i),rdK_nat hlt]
  cases put with
  | true =>
   simp only [if_true]
   exact hj false (fun h => Bool.noConfusion h) (fun _ => .inl rfl)
  | false =>
   simp only [if_neg (show ¬ (false = true) by decide)]
   refine Ev.bind (cmpT_ev _ _ hx hs) ?_
   exact hj _ (fun h => ⟨rfl,of_decide_eq_true h⟩) (fun h => .inr (of_decide_eq_false h))
def rotR (l : List KeyS) (x : KeyS) (t g : Int) : List KeyS := if goodRing l = true ∧ 0 ≤ t ∧ t ≤ 100000000000 ∧ 0 ≤ g ∧ g ≤ 100000000000 then endR (passK t (wrap64 (t + g)) x l false) else []
theorem rotR_len (l : List KeyS) (x : KeyS) (t g : Int) : (rotR l x t g).length ≤ 10 := by
 unfold rotR
 split
 ·unfold endR
  split
  ·rename_i h
   unfold goodRing at h
   split at h
   ·assumption
   ·cases h
  ·simp
 ·simp
theorem ring_len {l : List KeyS} (h : goodRing l = true) : l.length ≤ 10 := by
 unfold goodRing at h
 split at h
 ·assumption
 ·cases h
theorem implRot_j1 (t g : Int) (l : List KeyS) (x : KeyS) : Ev (fun k => vq.j0 k l t g true x.f0 x.f1 x.f2 x.f3) [] := by
 refine Ev.upK ?_
 simp only [vq.j0,if_true]
 exact Ev.now _
theorem specRot_j1 (t g : Int) (l : List KeyS) (x : KeyS) : Ev (fun k => xw.j0 k l t g true x.f0 x.f1 x.f2 x.f3) [] := by
 refine Ev.upK ?_
 simp only [xw.j0,if_true]
 exact Ev.now _
theorem implRotate_ev (l : List KeyS) (x : KeyS) (t g : Int) (hl : l.length ≤ 140737488351232) (hx : x.f0.size ≤ 4611686018427387904) (ho : okKeys l) : Ev (fun k => vq.f k l x.f0 x.f1 x.f2 x.f3 t g) (rotR l x t g) := by
 simp only [vq.f]
 refine Ev.bind (implRing_ev l hl ho) ?_
 unfold rotR
 by_cases hg : goodRing l = true
 case neg => rw [if_neg (fun h => hg h.1)];simp only [if_neg hg];exact implRot_j1 _ _ _ _
 simp only [if_pos hg]
 by_cases h1 : t < 0
 ·rw [if_neg (fun h => by omega)];simp only [if_pos h1];exact implRot_j1 _ _ _ _
 by_cases h2 : t > 100000000000
 ·rw [if_neg (fun h => by omega)];simp only [if_neg h1,if_pos h2];exact implRot_j1 _ _ _ _
 by_cases h3 : g < 0
 ·rw [if_neg (fun h => by omega)];simp only [if_neg h1,if_neg h2,if_pos h3];exact implRot_j1 _ _ _ _
 simp only [if_neg h1,if_neg h2,if_neg h3]
 by_cases h4 : g > 100000000000
 ·rw [if_neg (fun h => by omega),decide_eq_true h4];exact implRot_j1 _ _ _ _
 rw [if_pos ⟨hg,by omega,by omega,by omega,by omega⟩,decide_eq_false h4]
 have hm := turned_same t (wrap64 (t + g)) x l hg
 have he : endR (passK t (wrap64 (t + g)) x l false) = endR (sortedK (x :: restK t (wrap64 (t + g)) l)) := hm.symm
 rw [he]
 refine Ev.upK ?_
 simp only [vq.j0,if_neg (show ¬ (false = true) by decide)]
 have := implRot_l0 t g x l (ring_len hg) hx ho l.length 0 (by omega)
 rw [List.take_zero] at this
 exact this
theorem specRotate_ev (l : List KeyS) (x : KeyS) (t g : Int) (hl : l.length ≤ 140737488351232) (hx : x.f0.size ≤ 4611686018427387904) (ho : okKeys l) : Ev (fun k => xw.f k l x.f0 x.f1 x.f2 x.f3 t g) (rotR l x t g) := by
 simp only [xw.f]
 refine Ev.bind (specRing_ev l hl ho) ?_
 unfold rotR
 by_cases hg : goodRing l = true
 case neg => rw [if_neg (fun h => hg h.1)];simp only [if_neg hg];exact specRot_j1 _ _ _ _
 simp only [if_pos hg]
 by_cases h1 : t < 0
 ·rw [if_neg (fun h => by omega)];simp only [if_pos h1];exact specRot_j1 _ _ _ _
 by_cases h2 : t > 100000000000
 ·rw [if_neg (fun h => by omega)];simp only [if_neg h1,if_pos h2];exact specRot_j1 _ _ _ _
 by_cases h3 : g < 0
 ·rw [if_neg (fun h => by omega)];simp only [if_neg h1,if_neg h2,if_pos h3];exact specRot_j1 _ _ _ _
 simp only [if_neg h1,if_neg h2,if_neg h3]
 by_cases h4 : g > 100000000000
 ·rw [if_neg (fun h => by omega),decide_eq_true h4];exact specRot_j1 _ _ _ _
 rw [if_pos ⟨hg,by omega,by omega,by omega,by omega⟩,decide_eq_false h4]
 refine Ev.upK ?_
 simp only [xw.j0,if_neg (show ¬ (false = true) by decide)]
 have hp := pass_perm t (wrap64 (t + g)) x l
 have hn := rest_len t (wrap64 (t + g)) l
 have hr := ring_len hg
 exact specRot_l0 t g x l _ hr hx ho (ok_perm hp (ok_rest _ _ hx ho)) (by rw [hp.length_eq,List.length_cons];omega) l.length 0 [] false (by omega) rfl
theorem Ev.upW {α : Type} {g : Nat → Option α} {r : α} (h : Ev (fun k => g (k + 1)) r) : Ev g r := by
 obtain ⟨n,h⟩ := h
 refine ⟨n + 1,fun k hk => ?_⟩
 obtain ⟨k,rfl⟩ : ∃ m,k = m + 1 := ⟨k - 1,by omega⟩
 exact h k (by omega)
theorem wrap_succ {i n : Nat} (h : i < n) (hn : n ≤ 281474976710656) : wrap64 ((i : Int) + 1) = ((i + 1 : Nat) : Int) := by rw [w64 (by omega) (by omega)];rfl
theorem rows_sz {α : Type} (l : List α) (ok small : α → Prop) (F : Nat → Int → Int → Option Int) (g : Nat → α → Int → Option Int) (hlen : l.length ≤ 1048576)
  (hstop : ∀ k x,F (k + 1) x (l.length : Int) = some x)
  (hstep : ∀ (k : Nat) (i : Nat) (h : i < l.length) (x : Int),F (k + 1) x (i : Int) = (g k l[i] x).bind fun t => if t < 0 then some (-1) else F k t ((i + 1 : Nat) : Int))
  (hok : ∀ e ∈ l,ok e) (hg : ∀ e,ok e → ∀ left : Int,0 ≤ left → left ≤ 1048576 → ∃ r : Int,Ev (fun k => g k e left) r ∧ r ≤ 1048576 ∧ (¬ r < 0 → small e)) (d : Nat) :
  ∀ (i : Nat) (left : Int),i + d = l.length → 0 ≤ left → left ≤ 1048576 → ∃ r : Int,Ev (fun k => F k left (i : Int)) r ∧ r ≤ 1048576 ∧ (¬ r < 0 → ∀ j (h : j < l.length),i ≤ j → small l[j]) := by
 induction d with
 | zero =>
  intro i left hi h0 h1
  obtain rfl : i = l.length := by omega
  refine ⟨left,Ev.upW ?_,h1,fun _ j hj hij => by omega⟩
  simp only [hstop]
  exact Ev.now _
 | succ d ih =>
  intro i left hi h0 h1
  have hlt : i < l.length := by omega
  obtain ⟨r1,e1,hr1,hs1⟩ := hg l[i] (hok _ (List.getElem_mem hlt)) left h0 h1
  by_cases hneg : r1 < 0
  ·refine ⟨-1,Ev.upW ?_,by omega,fun h => by omega⟩
   simp only [hstep _ i hlt]
   refine Ev.bind e1 ?_
   simp only [if_pos hneg]
   exact Ev.now _
  ·obtain ⟨r,er,hr1',hr⟩ := ih (i + 1) r1 (by omega) (by omega) hr1
   refine ⟨r,Ev.upW ?_,hr1',fun hn j hj hij => ?_⟩
   ·simp only [hstep _ i hlt]
    refine Ev.bind e1 ?_
    simp only [if_neg hneg]
    exact er
   ·by_cases hji : j = i
    ·subst hji;exact hs1 hneg
    ·exact hr hn j hj (by omega)
theorem rows_szf {α : Type} (l : List α) (ok small : α → Prop) (G : Nat → Int → Option Int) (F : Nat → Int → Int → Option Int) (g : Nat → α → Int → Option Int) (left : Int) (h0 : 0 ≤ left) (h1 : left ≤ 1048576) (hmax : l.length ≤ 9223372036854775807)
  (hG : ∀ k,G k left = if wrap64 (left - (l.length : Int)) < 0 then some (-1) else F k (wrap64 (left - (l.length : Int))) 0)
  (hstop : ∀ k x,F (k + 1) x (l.length : Int) = some x)
  (hstep : l.length ≤ 1048576 → ∀ (k : Nat) (i : Nat) (h : i < l.length) (x : Int),F (k + 1) x (i : Int) = (g k l[i] x).bind fun t => if t < 0 then some (-1) else F k t ((i + 1 : Nat) : Int))
  (hok : ∀ e ∈ l,ok e) (hg : ∀ e,ok e → ∀ left : Int,0 ≤ left → left ≤ 1048576 → ∃ r : Int,Ev (fun k => g k e left) r ∧ r ≤ 1048576 ∧ (¬ r < 0 → small e)) :
  ∃ r : Int,Ev (fun k => G k left) r ∧ r ≤ 1048576 ∧ (¬ r < 0 → l.length ≤ 1048576 ∧ ∀ e ∈ l,small e) := by
 have ew : wrap64 (left - (l.length : Int)) = left - (l.length : Int) := w64 (by omega) (by omega)
 by_cases h : (l.length : Int) ≤ left
 ·obtain ⟨r,er,hr1,hr⟩ := rows_sz l ok small F g (by omega) hstop (hstep (by omega)) hok hg l.length 0 (left - (l.length : Int)) (by omega) (by omega) (by omega)
  refine ⟨r,?_,hr1,fun hn => ⟨by omega,fun e he => ?_⟩⟩
  ·simp only [hG,ew,if_neg (show ¬ left - (l.length : Int) < 0 by omega)]
   exact er
  ·obtain ⟨j,hj,rfl⟩ := List.getElem_of_mem he
   exact hr hn j hj (by omega)
 ·refine ⟨-1,?_,by omega,fun hn => by omega⟩
  simp only [hG,ew,if_pos (show left - (l.length : Int) < 0 by omega)]
  exact Ev.now _
theorem set_midW {α : Type} (A : List α) (z v : α) (m i : Nat) (h : A.length = i) : (A ++ List.replicate (m + 1) z).set i v = (A ++ [v]) ++ List.replicate m z := by
 subst h
 rw [List.set_append_right _ _ (Nat.le_refl _),Nat.sub_self,List.replicate_succ,List.set_cons_zero,List.append_assoc]
 rfl
theorem rows_to {α β γ : Type} (l : List α) (z : β) (F : Nat → List β → Int → Option (List β)) (g : Nat → α → Option γ) (mk : γ → β) (cp : α → β) (hlen : l.length ≤ 1048576)
  (hstop : ∀ k x,F (k + 1) x (l.length : Int) = some x)
  (hstep : ∀ (k : Nat) (i : Nat) (h : i < l.length) (x : List β),x.length = l.length → F (k + 1) x (i : Int) = (g k l[i]).bind fun t => F k (x.set i (mk t)) ((i + 1 : Nat) : Int))
  (hg : ∀ e ∈ l,∃ t,Ev (fun k => g k e) t ∧ mk t = cp e) (d : Nat) :
  ∀ i,i + d = l.length → Ev (fun k => F k ((l.take i).map cp ++ List.replicate d z) (i : Int)) (l.map cp) := by
 induction d with
 | zero =>
  intro i hi
  obtain rfl : i = l.length := by omega
  refine Ev.upW ?_
  simp only [hstop]
  rw [List.take_length,List.replicate_zero,List.append_nil]
  exact Ev.now _
 | succ d ih =>
  intro i hi
  have hlt : i < l.length := by omega
  obtain ⟨t,et,ht⟩ := hg _ (List.getElem_mem hlt)
  have hlA : ((l.take i).map cp).length = i := by rw [List.length_map,List.length_take];omega
  have hl3 : ((l.take i).map cp ++ List.replicate (d + 1) z).length = l.length := by rw [List.length_append,hlA,List.length_replicate];omega
  refine Ev.upW ?_
  simp only [hstep _ i hlt _ hl3]
  refine Ev.bind et ?_
  rw [ht,set_midW _ _ _ _ _ hlA]
  have hn := ih (i + 1) (by omega)
  rw [List.take_succ_eq_append_getElem hlt,List.map_append,List.map_singleton] at hn
  exact hn
theorem rows_eq {α : Type} (l : List α) (F : Nat → Int → Option Bool) (g : Nat → α → Option Bool) (hlen : l.length ≤ 1048576)
  (hstop : ∀ k,F (k + 1) (l.length : Int) = some true)
  (hstep : ∀ (k : Nat) (i : Nat) (h : i < l.length),F (k + 1) (i : Int) = (g k l[i]).bind fun t => if t = true then F k ((i + 1 : Nat) : Int) else some false)
  (hg : ∀ e ∈ l,Ev (fun k => g k e) true) (d : Nat) : ∀ i,i + d = l.length → Ev (fun k => F k (i : Int)) true := by
 induction d with
 | zero =>
  intro i hi
  obtain rfl : i = l.length := by omega
  refine Ev.upW ?_
  simp only [hstop]
  exact Ev.now _
 | succ d ih =>
  intro i hi
  have hlt : i < l.length := by omega
  refine Ev.upW ?_
  simp only [hstep _ i hlt]
  refine Ev.bind (hg _ (List.getElem_mem hlt)) ?_
  simp only [if_true]
  exact ih (i + 1) (by omega)
end Go.Proofs.Ytakocdkcfjkmdaa.Pr
