/- Printed texts, walks and plain facts that the law FnExactGoodServer leans on, joined. -/
import Derived.Test.YtakocdkcfjkmdaaFullFnExactGoodServerB
import Derived.Deep.QuietTactic
import Derived.BigQuiet
import Derived.Laws.Cover1
import Derived.WalkSpells
import Derived.Shelf.Abstract
namespace Go.Proofs.Ytakocdkcfjkmdaa.Pr
open Go.RowKit Go.Proofs.YtakocdkcfjkmdaaW.PrintWords Go.Proofs.YtakocdkcfjkmdaaW.PrintLast Go.Proofs.YtakocdkcfjkmdaaW.PrintMore
attribute [local go_sem] max2_int min2_int max_two min_two max_three min_three max_four min_four
set_option linter.unusedVariables false
set_option linter.unusedSimpArgs false
mutual
def qjz.l0 : Nat → List (S77) → Int → Int → List (S77) → List Int → Int → Int → Option (Bool)
 | 0,_,_,_,_,_,_,_ => none
 | k + 1,x10,x11,x12,x102000,x102001,x102002,x102003 => if x12 < x11 then (if 0 ≤ x12 then (if x12 < (x10.length : Int) then ((qkj.f k ((vq x10 x12).f0)).bind fun t104 => (if t104 = true then (if x12 > 0 then (if 0 ≤ (wrap64 (x12 - 1)) then (if (wrap64 (x12 - 1)) < (x102000.length : Int) then ((qjv.f k ((vq x102000 (wrap64 (x12 - 1))).f0) ((vq x10 x12).f0)).bind fun t106 => (if t106 ≥ 0 then (qjz.j1 k x10 x11 x12 true x102000 x102001 x102002 x102003 ((vq x10 x12).f0) ((vq x10 x12).f1) ((vq x10 x12).f2) ((vq x10 x12).f3) ((vq x10 x12).f4)) else (if (((vq x10 x12).f1).length : Int) = 0 then (if (((vq x10 x12).f2).length : Int) > 5 then (qjz.j1 k x10 x11 x12 true x102000 x102001 x102002 x102003 ((vq x10 x12).f0) ((vq x10 x12).f1) ((vq x10 x12).f2) ((vq x10 x12).f3) ((vq x10 x12).f4)) else ((qjj.f k ((vq x10 x12).f3)).bind fun t107 => (if t107 = true then (qjz.j1 k x10 x11 x12 (decide ((((vq x10 x12).f4).length : Int) > 4)) x102000 x102001 x102002 x102003 ((vq x10 x12).f0) ((vq x10 x12).f1) ((vq x10 x12).f2) ((vq x10 x12).f3) ((vq x10 x12).f4)) else (qjz.j1 k x10 x11 x12 true x102000 x102001 x102002 x102003 ((vq x10 x12).f0) ((vq x10 x12).f1) ((vq x10 x12).f2) ((vq x10 x12).f3) ((vq x10 x12).f4))))) else (if (((vq x10 x12).f1).length : Int) = 16 then (if (((vq x10 x12).f2).length : Int) > 5 then (qjz.j1 k x10 x11 x12 true x102000 x102001 x102002 x102003 ((vq x10 x12).f0) ((vq x10 x12).f1) ((vq x10 x12).f2) ((vq x10 x12).f3) ((vq x10 x12).f4)) else ((qjj.f k ((vq x10 x12).f3)).bind fun t108 => (if t108 = true then (qjz.j1 k x10 x11 x12 (decide ((((vq x10 x12).f4).length : Int) > 4)) x102000 x102001 x102002 x102003 ((vq x10 x12).f0) ((vq x10 x12).f1) ((vq x10 x12).f2) ((vq x10 x12).f3) ((vq x10 x12).f4)) else (qjz.j1 k x10 x11 x12 true x102000 x102001 x102002 x102003 ((vq x10 x12).f0) ((vq x10 x12).f1) ((vq x10 x12).f2) ((vq x10 x12).f3) ((vq x10 x12).f4))))) else (qjz.j1 k x10 x11 x12 true x102000 x102001 x102002 x102003 ((vq x10 x12).f0) ((vq x10 x12).f1) ((vq x10 x12).f2) ((vq x10 x12).f3) ((vq x10 x12).f4)))))) else (none)) else (none)) else (if (((vq x10 x12).f1).length : Int) = 0 then (if (((vq x10 x12).f2).length : Int) > 5 then (qjz.j1 k x10 x11 x12 true x102000 x102001 x102002 x102003 ((vq x10 x12).f0) ((vq x10 x12).f1) ((vq x10 x12).f2) ((vq x10 x12).f3) ((vq x10 x12).f4)) else ((qjj.f k ((vq x10 x12).f3)).bind fun t109 => (if t109 = true then (qjz.j1 k x10 x11 x12 (decide ((((vq x10 x12).f4).length : Int) > 4)) x102000 x102001 x102002 x102003 ((vq x10 x12).f0) ((vq x10 x12).f1) ((vq x10 x12).f2) ((vq x10 x12).f3) ((vq x10 x12).f4)) else (qjz.j1 k x10 x11 x12 true x102000 x102001 x102002 x102003 ((vq x10 x12).f0) ((vq x10 x12).f1) ((vq x10 x12).f2) ((vq x10 x12).f3) ((vq x10 x12).f4))))) else (if (((vq x10 x12).f1).length : Int) = 16 then (if (((vq x10 x12).f2).length : Int) > 5 then (qjz.j1 k x10 x11 x12 true x102000 x102001 x102002 x102003 ((vq x10 x12).f0) ((vq x10 x12).f1) ((vq x10 x12).f2) ((vq x10 x12).f3) ((vq x10 x12).f4)) else ((qjj.f k ((vq x10 x12).f3)).bind fun t110 => (if t110 = true then (qjz.j1 k x10 x11 x12 (decide ((((vq x10 x12).f4).length : Int) > 4)) x102000 x102001 x102002 x102003 ((vq x10 x12).f0) ((vq x10 x12).f1) ((vq x10 x12).f2) ((vq x10 x12).f3) ((vq x10 x12).f4)) else (qjz.j1 k x10 x11 x12 true x102000 x102001 x102002 x102003 ((vq x10 x12).f0) ((vq x10 x12).f1) ((vq x10 x12).f2) ((vq x10 x12).f3) ((vq x10 x12).f4))))) else (qjz.j1 k x10 x11 x12 true x102000 x102001 x102002 x102003 ((vq x10 x12).f0) ((vq x10 x12).f1) ((vq x10 x12).f2) ((vq x10 x12).f3) ((vq x10 x12).f4))))) else (qjz.j1 k x10 x11 x12 true x102000 x102001 x102002 x102003 ((vq x10 x12).f0) ((vq x10 x12).f1) ((vq x10 x12).f2) ((vq x10 x12).f3) ((vq x10 x12).f4)))) else (none)) else (none)) else (if (x102000.length : Int) ≤ 20 then (if (x102001.length : Int) ≤ 64 then (if x102002 ≥ 1 then (if x102002 ≤ 1000000 then (if x102003 ≥ 1 then (some (decide (x102003 ≤ 1000000))) else (some false)) else (some false)) else (some false)) else (some false)) else (some false))
def qjz.j1 : Nat → List (S77) → Int → Int → Bool → List (S77) → List Int → Int → Int → ByteArray → List Int → List ByteArray → List ByteArray → List Int → Option (Bool)
 | 0,_,_,_,_,_,_,_,_,_,_,_,_,_ => none
 | k + 1,x10,x11,x12,x67,x102000,x102001,x102002,x102003,x104000,x104001,x104002,x104003,x104004 => if x67 = true then (some false) else (qjz.l1 k x10 x11 x12 x104002 (x104002.length : Int) 0 x102000 x102001 x102002 x102003 x104000 x104001 x104002 x104003 x104004)
def qjz.l1 : Nat → List (S77) → Int → Int → List ByteArray → Int → Int → List (S77) → List Int → Int → Int → ByteArray → List Int → List ByteArray → List ByteArray → List Int → Option (Bool)
 | 0,_,_,_,_,_,_,_,_,_,_,_,_,_,_,_ => none
 | k + 1,x10,x11,x12,x69,x70,x71,x102000,x102001,x102002,x102003,x104000,x104001,x104002,x104003,x104004 => if x71 < x70 then (if 0 ≤ x71 then (if x71 < (x69.length : Int) then (if ((rdOf ByteArray.empty x69 x71).size : Int) < 1 then (some false) else (if ((rdOf ByteArray.empty x69 x71).size : Int) > 200 then (some false) else ((qkq.f k (rdOf ByteArray.empty x69 x71)).bind fun t112 => (if t112 = true then (qjz.l1 k x10 x11 x12 x69 x70 (wrap64 (x71 + 1)) x102000 x102001 x102002 x102003 x104000 x104001 x104002 x104003 x104004) else (some false))))) else (none)) else (none)) else (qjz.l2 k x10 x11 x12 x104004 (x104004.length : Int) 0 x102000 x102001 x102002 x102003)
def qjz.l2 : Nat → List (S77) → Int → Int → List Int → Int → Int → List (S77) → List Int → Int → Int → Option (Bool)
 | 0,_,_,_,_,_,_,_,_,_,_ => none
 | k + 1,x10,x11,x12,x90,x91,x92,x102000,x102001,x102002,x102003 => if x92 < x91 then (if 0 ≤ x92 then (if x92 < (x90.length : Int) then (if (rd x90 x92) < 1 then (some false) else (if (rd x90 x92) > 4 then (some false) else (qjz.l2 k x10 x11 x12 x90 x91 (wrap64 (x92 + 1)) x102000 x102001 x102002 x102003))) else (none)) else (none)) else (qjz.l0 k x10 x11 (wrap64 (x12 + 1)) x102000 x102001 x102002 x102003)
end
def qjz.f (k : Nat) (l0_0 : List (S77)) (l0_1 : List Int) (a0_2 : Int) (a0_3 : Int) : Option (Bool) := qjz.l0 k l0_0 (l0_0.length : Int) 0 l0_0 l0_1 a0_2 a0_3
set_option maxHeartbeats 8000000 in
set_option maxRecDepth 100000 in
theorem qjz.calls (k : Nat) (A0_0 : Option Addr) (c0_0 : Nat) (l0_0 : List (S77)) (A0_1 : Option Addr) (c0_1 : Nat) (l0_1 : List Int) (a0_2 : Int) (a0_3 : Int) (r : Bool) (w : World) (hr0_0 : Kd.C k77 w A0_0 l0_0.length l0_0) (hc0_0 : l0_0.length ≤ c0_0) (hr0_1 : Kd.C (Kd.int .u8) w A0_1 l0_1.length l0_1) (hc0_1 : l0_1.length ≤ c0_1) (h : qjz.f k l0_0 l0_1 a0_2 a0_3 = some r) :
  Calls Try.prog 19 #[.agg #[.slice A0_0 l0_0.length c0_0,.slice A0_1 l0_1.length c0_1,.int .i64 a0_2,.int .i64 a0_3]] w fun e w' => e = .returned (.bool r) ∧ Below w.heap.size w w' := by
 have hu45 := Try.underlying45
 have hu77 := Try.underlying77
 have HR0_0 := qq.mk hr0_0
 have HC0_0 := qq.mk hc0_0
 clear hr0_0 hc0_0
 have HR0_1 := qq.mk hr0_1
 have HC0_1 := qq.mk hc0_1
 clear hr0_1 hc0_1
 have HB := qq.mk (Below.refl w.heap.size w)
 have H : (qjz.l0 k l0_0 (l0_0.length : Int) 0 l0_0 l0_1 a0_2 a0_3) = some r := h
 clear h
 have H' := qq.mk H
 clear H
 go_enter Try.func19,Try.ntmps19
 go_wp2_with (first | ((with_reducible refine gate_dst (N := 1) rfl ?_);(try (refine gate_guard (by rfl) ?_;dsimp only));refine box_event ?hg (N := 1) ?hd (cs := #[.slice A0_0 l0_0.length c0_0,.slice A0_1 l0_1.length c0_1,.int .i64 a0_2,.int .i64 a0_3]) (t := 45) ?hr ?_;(case hd => rfl);(case hg => rfl);(case hr => first | (go_simp;done) | (go_simp;rfl));intro gb101 hg w2 hbox hb;have n0_ := qq.mk (zv (by repeat (first | (with_reducible first | exact HB.out | apply qj | apply qz | apply qk) | exact HB.out)) hb);have n1_ := qq.mk (hbox);have n2_ := qq.mk ((by rw [hg];exact (zw (by repeat (first | (with_reducible first | exact HB.out | apply qj | apply qz | apply qk) | exact HB.out))) : w.heap.size ≤ gb101));have n3_ := qq.mk ((by rw [hg];exact (zw (by repeat (first | (with_reducible first | exact HB.out | apply qj | apply qz | apply qk) | exact HB.out))) : w.heap.size ≤ gb101));clear HB;have HB := n0_;have BK101 := n1_;have GW101 := n2_;have GE101 := n3_;clear n0_ n1_ n2_ n3_;clear hb hbox hg;have hcz3_0 : w2.cell? ⟨gb101,0,none⟩ = some (.slice A0_0 l0_0.length c0_0) := (qw BK101.out 0).trans rfl;have hcz3_1 : w2.cell? ⟨gb101,1,none⟩ = some (.slice A0_1 l0_1.length c0_1) := (qw BK101.out 1).trans rfl;have hcz3_2 : w2.cell? ⟨gb101,2,none⟩ = some (.int .i64 a0_2) := (qw BK101.out 2).trans rfl;have hcz3_3 : w2.cell? ⟨gb101,3,none⟩ = some (.int .i64 a0_3) := (qw BK101.out 3).trans rfl;have hfz3_0 := qv BK101.out 0;have hfz3_1 := qv BK101.out 1;have hfz3_2 := qv BK101.out 2;have hfz3_3 := qv BK101.out 3))
 go_loopg [12] k (fun kq v12 w' => ∃ (x12_1 : Int),v12 = .int .i64 x12_1 ∧ qq (qjz.l0 kq l0_0 (l0_0.length : Int) x12_1 l0_0 l0_1 a0_2 a0_3 = some r) ∧ qq (kq ≤ k) ∧ qq (w'.heap[gb101]? = some (.cells #[(.slice A0_0 l0_0.length c0_0),(.slice A0_1 l0_1.length c0_1),.int .i64 a0_2,.int .i64 a0_3] 45 (0,0))) ∧ qq (Below w.heap.size w w'))
 case atStart => exact ⟨(0),(by first | rfl | (simp;done) | (simp [*];done)),H',⟨Nat.le_refl _⟩,⟨by (with_reducible repeat (first | refine zz ?_ _ | refine zj ?_ | refine zq ?_ _));exact BK101.out⟩,⟨by repeat (first | (with_reducible first | exact HB.out | apply qj | apply qz | apply qk | refine qx ?_ GE101.out) | exact HB.out)⟩⟩
 case round =>
  clear H'
  try clear c1
  try clear p2
  try clear hcz3_0
  try clear hcz3_1
  try clear hcz3_2
  try clear hcz3_3
  try clear hfz3_0
  try clear hfz3_1
  try clear hfz3_2
  try clear hfz3_3
  obtain ⟨x12_1,rfl,HA,HK1,BK101,HB⟩ := hrel
  cases gk with
  | zero => exact absurd HA.out (by simp [qjz.l0])
  | succ k1 =>
   have H := HA.out
   clear HA
   simp only [qjz.l0] at H
   by_cases c4 : x12_1 < (l0_0.length : Int)
   ·rw [if_pos c4] at H
    have c4b0 : decide (x12_1 < (l0_0.length : Int)) = true := decide_eq_true c4
    clear c4
    by_cases c5 : 0 ≤ x12_1
    ·rw [if_pos c5] at H
     have c5b0 : decide (0 ≤ x12_1) = true := decide_eq_true c5
     clear c5
     by_cases c6 : x12_1 < (l0_0.length : Int)
     ·rw [if_pos c6] at H
      have c6b0 : decide (x12_1 < (l0_0.length : Int)) = true := decide_eq_true c6
      clear c6
      have HC7 := qq.mk H
      clear H
      have p102 : 0 ≤ (x12_1 : Int) := of_decide_eq_true (by assumption)
      have q102 : x12_1 < (l0_0.length : Int) := of_decide_eq_true (by assumption)
      obtain ⟨ad102,A102_1,c102_1,A102_2,c102_2,A102_3,c102_3,A102_4,c102_4,e102,hx102_0,hx102_1,hx102_2,hx102_3,hx102_4,hl102_1,hi102_1,hl102_2,hi102_2,hl102_3,hi102_3,hl102_4,hi102_4⟩ := at_T77 HR0_0.out x12_1 p102 q102
      cases e102
      replace hx102_0 := (HB.out.cell (World.block_lt_of_cell? w _ hx102_0)).trans hx102_0
      replace hx102_1 := (HB.out.cell (World.block_lt_of_cell? w _ hx102_1)).trans hx102_1
      replace hx102_2 := (HB.out.cell (World.block_lt_of_cell? w _ hx102_2)).trans hx102_2
      replace hx102_3 := (HB.out.cell (World.block_lt_of_cell? w _ hx102_3)).trans hx102_3
      replace hx102_4 := (HB.out.cell (World.block_lt_of_cell? w _ hx102_4)).trans hx102_4
      have HR102_1 := qq.mk hi102_1
      have HC102_1 := qq.mk hl102_1
      clear hi102_1 hl102_1
      have HR102_2 := qq.mk hi102_2
      have HC102_2 := qq.mk hl102_2
      clear hi102_2 hl102_2
      have HR102_3 := qq.mk hi102_3
      have HC102_3 := qq.mk hl102_3
      clear hi102_3 hl102_3
      have HR102_4 := qq.mk hi102_4
      have HC102_4 := qq.mk hl102_4
      clear hi102_4 hl102_4
      replace p102 := eq_true p102
      replace q102 := eq_true q102
      go_upto_region 4 with (first | ((with_reducible refine gate_dst (N := 4) rfl ?_);(try (refine gate_guard (by rfl) ?_;dsimp only));refine box_event ?hg (N := 4) ?hd (cs := #[.string (⟨#[]⟩ : ByteArray),.slice none 0 0,.slice none 0 0,.slice none 0 0,.slice none 0 0]) (t := 77) ?hr ?_;(case hd => rfl);(case hg => rfl);(case hr => first | (go_simp;done) | (go_simp;rfl));intro gb103 hg w8 hbox hb;have n0_ := qq.mk (kw (g := gb101) (o := .cells #[.slice (some ad102) l0_0.length c0_0,.slice A0_1 l0_1.length c0_1,.int .i64 a0_2,.int .i64 a0_3] 45 (0,0)) (by (with_reducible repeat (first | refine zz ?_ _ | refine zj ?_ | refine zq ?_ _));exact BK101.out) hb);have n1_ := qq.mk (zv (by repeat (first | (with_reducible first | exact HB.out | apply qj | apply qz | apply qk | refine qx ?_ GE101.out) | exact HB.out)) hb);have n2_ := qq.mk (hbox);have n3_ := qq.mk ((by rw [hg];exact (zw (by repeat (first | (with_reducible first | exact HB.out | apply qj | apply qz | apply qk | refine qx ?_ GE101.out) | exact HB.out))) : w.heap.size ≤ gb103));have n4_ := qq.mk ((by rw [hg];exact (zw (by repeat (first | (with_reducible first | exact HB.out | apply qj | apply qz | apply qk | refine qx ?_ GE101.out) | exact HB.out))) : w.heap.size ≤ gb103));have n5_ := qq.mk ((by rw [hg];exact Nat.ne_of_lt (blk_lt (g := gb101) (o := .cells #[.slice (some ad102) l0_0.length c0_0,.slice A0_1 l0_1.length c0_1,.int .i64 a0_2,.int .i64 a0_3] 45 (0,0)) (by (with_reducible repeat (first | refine zz ?_ _ | refine zj ?_ | refine zq ?_ _));exact BK101.out)) : gb101 ≠ gb103));have n6_ := qq.mk ((by rw [hg];exact Nat.ne_of_gt (blk_lt (g := gb101) (o := .cells #[.slice (some ad102) l0_0.length c0_0,.slice A0_1 l0_1.length c0_1,.int .i64 a0_2,.int .i64 a0_3] 45 (0,0)) (by (with_reducible repeat (first | refine zz ?_ _ | refine zj ?_ | refine zq ?_ _));exact BK101.out)) : gb103 ≠ gb101));clear BK101;clear HB;have BK101 := n0_;have HB := n1_;have BK103 := n2_;have GW103 := n3_;have GE103 := n4_;have NB101_103 := n5_;have NB103_101 := n6_;clear n0_ n1_ n2_ n3_ n4_ n5_ n6_;clear hb hbox hg;have hnb9 := NB103_101.out;have hnc9 := NB101_103.out;have hcz10_0 : w8.cell? ⟨gb103,0,none⟩ = some (.string (⟨#[]⟩ : ByteArray)) := (qw BK103.out 0).trans rfl;have hcz10_1 : w8.cell? ⟨gb103,1,none⟩ = some (.slice none 0 0) := (qw BK103.out 1).trans rfl;have hcz10_2 : w8.cell? ⟨gb103,2,none⟩ = some (.slice none 0 0) := (qw BK103.out 2).trans rfl;have hcz10_3 : w8.cell? ⟨gb103,3,none⟩ = some (.slice none 0 0) := (qw BK103.out 3).trans rfl;have hcz10_4 : w8.cell? ⟨gb103,4,none⟩ = some (.slice none 0 0) := (qw BK103.out 4).trans rfl;have hfz10_0 := qv BK103.out 0;have hfz10_1 := qv BK103.out 1;have hfz10_2 := qv BK103.out 2;have hfz10_3 := qv BK103.out 3;have hfz10_4 := qv BK103.out 4))
      (try simp only [Act.put,List.setIfInBounds_toArray,List.set_cons_zero,List.set_cons_succ])
      go_cut [67] (fun v67 wc => ∃ (kq : Nat) (x67_6 : Bool),v67 = .bool x67_6 ∧ qq (qjz.j1 kq l0_0 (l0_0.length : Int) x12_1 x67_6 l0_0 l0_1 a0_2 a0_3 ((vq l0_0 x12_1).f0) ((vq l0_0 x12_1).f1) ((vq l0_0 x12_1).f2) ((vq l0_0 x12_1).f3) ((vq l0_0 x12_1).f4) = some r) ∧ qq (kq ≤ k1) ∧ qq (wc.heap[gb101]? = some (.cells #[(.slice (some ad102) l0_0.length c0_0),(.slice A0_1 l0_1.length c0_1),.int .i64 a0_2,.int .i64 a0_3] 45 (0,0))) ∧ qq (wc.heap[gb103]? = some (.cells #[.string ((vq l0_0 x12_1).f0),(.slice A102_1 ((vq l0_0 x12_1).f1).length c102_1),(.slice A102_2 ((vq l0_0 x12_1).f2).length c102_2),(.slice A102_3 ((vq l0_0 x12_1).f3).length c102_3),(.slice A102_4 ((vq l0_0 x12_1).f4).length c102_4)] 77 (0,0))) ∧ qq (Below w.heap.size w wc))
      case first =>
       have H := HC7.out
       clear HC7
       replace H := Option.bind_eq_some_iff.mp H
       obtain ⟨t104,A110,H⟩ := H
       replace H : (if t104 = true then (if x12_1 > 0 then (if 0 ≤ (wrap64 (x12_1 - 1)) then (if (wrap64 (x12_1 - 1)) < (l0_0.length : Int) then ((qjv.f k1 ((vq l0_0 (wrap64 (x12_1 - 1))).f0) ((vq l0_0 x12_1).f0)).bind fun t106 => (if t106 ≥ 0 then (qjz.j1 k1 l0_0 (l0_0.length : Int) x12_1 true l0_0 l0_1 a0_2 a0_3 ((vq l0_0 x12_1).f0) ((vq l0_0 x12_1).f1) ((vq l0_0 x12_1).f2) ((vq l0_0 x12_1).f3) ((vq l0_0 x12_1).f4)) else (if (((vq l0_0 x12_1).f1).length : Int) = 0 then (if (((vq l0_0 x12_1).f2).length : Int) > 5 then (qjz.j1 k1 l0_0 (l0_0.length : Int) x12_1 true l0_0 l0_1 a0_2 a0_3 ((vq l0_0 x12_1).f0) ((vq l0_0 x12_1).f1) ((vq l0_0 x12_1).f2) ((vq l0_0 x12_1).f3) ((vq l0_0 x12_1).f4)) else ((qjj.f k1 ((vq l0_0 x12_1).f3)).bind fun t107 => (if t107 = true then (qjz.j1 k1 l0_0 (l0_0.length : Int) x12_1 (decide ((((vq l0_0 x12_1).f4).length : Int) > 4)) l0_0 l0_1 a0_2 a0_3 ((vq l0_0 x12_1).f0) ((vq l0_0 x12_1).f1) ((vq l0_0 x12_1).f2) ((vq l0_0 x12_1).f3) ((vq l0_0 x12_1).f4)) else (qjz.j1 k1 l0_0 (l0_0.length : Int) x12_1 true l0_0 l0_1 a0_2 a0_3 ((vq l0_0 x12_1).f0) ((vq l0_0 x12_1).f1) ((vq l0_0 x12_1).f2) ((vq l0_0 x12_1).f3) ((vq l0_0 x12_1).f4))))) else (if (((vq l0_0 x12_1).f1).length : Int) = 16 then (if (((vq l0_0 x12_1).f2).length : Int) > 5 then (qjz.j1 k1 l0_0 (l0_0.length : Int) x12_1 true l0_0 l0_1 a0_2 a0_3 ((vq l0_0 x12_1).f0) ((vq l0_0 x12_1).f1) ((vq l0_0 x12_1).f2) ((vq l0_0 x12_1).f3) ((vq l0_0 x12_1).f4)) else ((qjj.f k1 ((vq l0_0 x12_1).f3)).bind fun t108 => (if t108 = true then (qjz.j1 k1 l0_0 (l0_0.length : Int) x12_1 (decide ((((vq l0_0 x12_1).f4).length : Int) > 4)) l0_0 l0_1 a0_2 a0_3 ((vq l0_0 x12_1).f0) ((vq l0_0 x12_1).f1) ((vq l0_0 x12_1).f2) ((vq l0_0 x12_1).f3) ((vq l0_0 x12_1).f4)) else (qjz.j1 k1 l0_0 (l0_0.length : Int) x12_1 true l0_0 l0_1 a0_2 a0_3 ((vq l0_0 x12_1).f0) ((vq l0_0 x12_1).f1) ((vq l0_0 x12_1).f2) ((vq l0_0 x12_1).f3) ((vq l0_0 x12_1).f4))))) else (qjz.j1 k1 l0_0 (l0_0.length : Int) x12_1 true l0_0 l0_1 a0_2 a0_3 ((vq l0_0 x12_1).f0) ((vq l0_0 x12_1).f1) ((vq l0_0 x12_1).f2) ((vq l0_0 x12_1).f3) ((vq l0_0 x12_1).f4)))))) else (none)) else (none)) else (if (((vq l0_0 x12_1).f1).length : Int) = 0 then (if (((vq l0_0 x12_1).f2).length : Int) > 5 then (qjz.j1 k1 l0_0 (l0_0.length : Int) x12_1 true l0_0 l0_1 a0_2 a0_3 ((vq l0_0 x12_1).f0) ((vq l0_0 x12_1).f1) ((vq l0_0 x12_1).f2) ((vq l0_0 x12_1).f3) ((vq l0_0 x12_1).f4)) else ((qjj.f k1 ((vq l0_0 x12_1).f3)).bind fun t109 => (if t109 = true then (qjz.j1 k1 l0_0 (l0_0.length : Int) x12_1 (decide ((((vq l0_0 x12_1).f4).length : Int) > 4)) l0_0 l0_1 a0_2 a0_3 ((vq l0_0 x12_1).f0) ((vq l0_0 x12_1).f1) ((vq l0_0 x12_1).f2) ((vq l0_0 x12_1).f3) ((vq l0_0 x12_1).f4)) else (qjz.j1 k1 l0_0 (l0_0.length : Int) x12_1 true l0_0 l0_1 a0_2 a0_3 ((vq l0_0 x12_1).f0) ((vq l0_0 x12_1).f1) ((vq l0_0 x12_1).f2) ((vq l0_0 x12_1).f3) ((vq l0_0 x12_1).f4))))) else (if (((vq l0_0 x12_1).f1).length : Int) = 16 then (if (((vq l0_0 x12_1).f2).length : Int) > 5 then (qjz.j1 k1 l0_0 (l0_0.length : Int) x12_1 true l0_0 l0_1 a0_2 a0_3 ((vq l0_0 x12_1).f0) ((vq l0_0 x12_1).f1) ((vq l0_0 x12_1).f2) ((vq l0_0 x12_1).f3) ((vq l0_0 x12_1).f4)) else ((qjj.f k1 ((vq l0_0 x12_1).f3)).bind fun t110 => (if t110 = true then (qjz.j1 k1 l0_0 (l0_0.length : Int) x12_1 (decide ((((vq l0_0 x12_1).f4).length : Int) > 4)) l0_0 l0_1 a0_2 a0_3 ((vq l0_0 x12_1).f0) ((vq l0_0 x12_1).f1) ((vq l0_0 x12_1).f2) ((vq l0_0 x12_1).f3) ((vq l0_0 x12_1).f4)) else (qjz.j1 k1 l0_0 (l0_0.length : Int) x12_1 true l0_0 l0_1 a0_2 a0_3 ((vq l0_0 x12_1).f0) ((vq l0_0 x12_1).f1) ((vq l0_0 x12_1).f2) ((vq l0_0 x12_1).f3) ((vq l0_0 x12_1).f4))))) else (qjz.j1 k1 l0_0 (l0_0.length : Int) x12_1 true l0_0 l0_1 a0_2 a0_3 ((vq l0_0 x12_1).f0) ((vq l0_0 x12_1).f1) ((vq l0_0 x12_1).f2) ((vq l0_0 x12_1).f3) ((vq l0_0 x12_1).f4))))) else (qjz.j1 k1 l0_0 (l0_0.length : Int) x12_1 true l0_0 l0_1 a0_2 a0_3 ((vq l0_0 x12_1).f0) ((vq l0_0 x12_1).f1) ((vq l0_0 x12_1).f2) ((vq l0_0 x12_1).f3) ((vq l0_0 x12_1).f4))) = some r := H
       have A11 := qq.mk A110
       clear A110
       by_cases c12 : t104 = true
       ·subst c12
        have H1 : (if x12_1 > 0 then (if 0 ≤ (wrap64 (x12_1 - 1)) then (if (wrap64 (x12_1 - 1)) < (l0_0.length : Int) then ((qjv.f k1 ((vq l0_0 (wrap64 (x12_1 - 1))).f0) ((vq l0_0 x12_1).f0)).bind fun t106 => (if t106 ≥ 0 then (qjz.j1 k1 l0_0 (l0_0.length : Int) x12_1 true l0_0 l0_1 a0_2 a0_3 ((vq l0_0 x12_1).f0) ((vq l0_0 x12_1).f1) ((vq l0_0 x12_1).f2) ((vq l0_0 x12_1).f3) ((vq l0_0 x12_1).f4)) else (if (((vq l0_0 x12_1).f1).length : Int) = 0 then (if (((vq l0_0 x12_1).f2).length : Int) > 5 then (qjz.j1 k1 l0_0 (l0_0.length : Int) x12_1 true l0_0 l0_1 a0_2 a0_3 ((vq l0_0 x12_1).f0) ((vq l0_0 x12_1).f1) ((vq l0_0 x12_1).f2) ((vq l0_0 x12_1).f3) ((vq l0_0 x12_1).f4)) else ((qjj.f k1 ((vq l0_0 x12_1).f3)).bind fun t107 => (if t107 = true then (qjz.j1 k1 l0_0 (l0_0.length : Int) x12_1 (decide ((((vq l0_0 x12_1).f4).length : Int) > 4)) l0_0 l0_1 a0_2 a0_3 ((vq l0_0 x12_1).f0) ((vq l0_0 x12_1).f1) ((vq l0_0 x12_1).f2) ((vq l0_0 x12_1).f3) ((vq l0_0 x12_1).f4)) else (qjz.j1 k1 l0_0 (l0_0.length : Int) x12_1 true l0_0 l0_1 a0_2 a0_3 ((vq l0_0 x12_1).f0) ((vq l0_0 x12_1).f1) ((vq l0_0 x12_1).f2) ((vq l0_0 x12_1).f3) ((vq l0_0 x12_1).f4))))) else (if (((vq l0_0 x12_1).f1).length : Int) = 16 then (if (((vq l0_0 x12_1).f2).length : Int) > 5 then (qjz.j1 k1 l0_0 (l0_0.length : Int) x12_1 true l0_0 l0_1 a0_2 a0_3 ((vq l0_0 x12_1).f0) ((vq l0_0 x12_1).f1) ((vq l0_0 x12_1).f2) ((vq l0_0 x12_1).f3) ((vq l0_0 x12_1).f4)) else ((qjj.f k1 ((vq l0_0 x12_1).f3)).bind fun t108 => (if t108 = true then (qjz.j1 k1 l0_0 (l0_0.length : Int) x12_1 (decide ((((vq l0_0 x12_1).f4).length : Int) > 4)) l0_0 l0_1 a0_2 a0_3 ((vq l0_0 x12_1).f0) ((vq l0_0 x12_1).f1) ((vq l0_0 x12_1).f2) ((vq l0_0 x12_1).f3) ((vq l0_0 x12_1).f4)) else (qjz.j1 k1 l0_0 (l0_0.length : Int) x12_1 true l0_0 l0_1 a0_2 a0_3 ((vq l0_0 x12_1).f0) ((vq l0_0 x12_1).f1) ((vq l0_0 x12_1).f2) ((vq l0_0 x12_1).f3) ((vq l0_0 x12_1).f4))))) else (qjz.j1 k1 l0_0 (l0_0.length : Int) x12_1 true l0_0 l0_1 a0_2 a0_3 ((vq l0_0 x12_1).f0) ((vq l0_0 x12_1).f1) ((vq l0_0 x12_1).f2) ((vq l0_0 x12_1).f3) ((vq l0_0 x12_1).f4)))))) else (none)) else (none)) else (if (((vq l0_0 x12_1).f1).length : Int) = 0 then (if (((vq l0_0 x12_1).f2).length : Int) > 5 then (qjz.j1 k1 l0_0 (l0_0.length : Int) x12_1 true l0_0 l0_1 a0_2 a0_3 ((vq l0_0 x12_1).f0) ((vq l0_0 x12_1).f1) ((vq l0_0 x12_1).f2) ((vq l0_0 x12_1).f3) ((vq l0_0 x12_1).f4)) else ((qjj.f k1 ((vq l0_0 x12_1).f3)).bind fun t109 => (if t109 = true then (qjz.j1 k1 l0_0 (l0_0.length : Int) x12_1 (decide ((((vq l0_0 x12_1).f4).length : Int) > 4)) l0_0 l0_1 a0_2 a0_3 ((vq l0_0 x12_1).f0) ((vq l0_0 x12_1).f1) ((vq l0_0 x12_1).f2) ((vq l0_0 x12_1).f3) ((vq l0_0 x12_1).f4)) else (qjz.j1 k1 l0_0 (l0_0.length : Int) x12_1 true l0_0 l0_1 a0_2 a0_3 ((vq l0_0 x12_1).f0) ((vq l0_0 x12_1).f1) ((vq l0_0 x12_1).f2) ((vq l0_0 x12_1).f3) ((vq l0_0 x12_1).f4))))) else (if (((vq l0_0 x12_1).f1).length : Int) = 16 then (if (((vq l0_0 x12_1).f2).length : Int) > 5 then (qjz.j1 k1 l0_0 (l0_0.length : Int) x12_1 true l0_0 l0_1 a0_2 a0_3 ((vq l0_0 x12_1).f0) ((vq l0_0 x12_1).f1) ((vq l0_0 x12_1).f2) ((vq l0_0 x12_1).f3) ((vq l0_0 x12_1).f4)) else ((qjj.f k1 ((vq l0_0 x12_1).f3)).bind fun t110 => (if t110 = true then (qjz.j1 k1 l0_0 (l0_0.length : Int) x12_1 (decide ((((vq l0_0 x12_1).f4).length : Int) > 4)) l0_0 l0_1 a0_2 a0_3 ((vq l0_0 x12_1).f0) ((vq l0_0 x12_1).f1) ((vq l0_0 x12_1).f2) ((vq l0_0 x12_1).f3) ((vq l0_0 x12_1).f4)) else (qjz.j1 k1 l0_0 (l0_0.length : Int) x12_1 true l0_0 l0_1 a0_2 a0_3 ((vq l0_0 x12_1).f0) ((vq l0_0 x12_1).f1) ((vq l0_0 x12_1).f2) ((vq l0_0 x12_1).f3) ((vq l0_0 x12_1).f4))))) else (qjz.j1 k1 l0_0 (l0_0.length : Int) x12_1 true l0_0 l0_1 a0_2 a0_3 ((vq l0_0 x12_1).f0) ((vq l0_0 x12_1).f1) ((vq l0_0 x12_1).f2) ((vq l0_0 x12_1).f3) ((vq l0_0 x12_1).f4))))) = some r := by rw [if_pos rfl] at H;exact H
        clear H
        have H := H1
        clear H1
        by_cases c13 : x12_1 > 0
        ·rw [if_pos c13] at H
         have c13b0 : decide (0 < x12_1) = true := decide_eq_true c13
         clear c13
         (first | rw [c13b0] | (simp only [i64_w,i32_w];rw [c13b0]) | skip)
         obtain ⟨ji14,hji14⟩ : ∃ j_ : Int,(wrap64 (x12_1 - 1)) = j_ := ⟨_,rfl⟩
         replace H : (if 0 ≤ (ji14) then (if (ji14) < (l0_0.length : Int) then ((qjv.f k1 ((vq l0_0 (ji14)).f0) ((vq l0_0 x12_1).f0)).bind fun t106 => (if t106 ≥ 0 then (qjz.j1 k1 l0_0 (l0_0.length : Int) x12_1 true l0_0 l0_1 a0_2 a0_3 ((vq l0_0 x12_1).f0) ((vq l0_0 x12_1).f1) ((vq l0_0 x12_1).f2) ((vq l0_0 x12_1).f3) ((vq l0_0 x12_1).f4)) else (if (((vq l0_0 x12_1).f1).length : Int) = 0 then (if (((vq l0_0 x12_1).f2).length : Int) > 5 then (qjz.j1 k1 l0_0 (l0_0.length : Int) x12_1 true l0_0 l0_1 a0_2 a0_3 ((vq l0_0 x12_1).f0) ((vq l0_0 x12_1).f1) ((vq l0_0 x12_1).f2) ((vq l0_0 x12_1).f3) ((vq l0_0 x12_1).f4)) else ((qjj.f k1 ((vq l0_0 x12_1).f3)).bind fun t107 => (if t107 = true then (qjz.j1 k1 l0_0 (l0_0.length : Int) x12_1 (decide ((((vq l0_0 x12_1).f4).length : Int) > 4)) l0_0 l0_1 a0_2 a0_3 ((vq l0_0 x12_1).f0) ((vq l0_0 x12_1).f1) ((vq l0_0 x12_1).f2) ((vq l0_0 x12_1).f3) ((vq l0_0 x12_1).f4)) else (qjz.j1 k1 l0_0 (l0_0.length : Int) x12_1 true l0_0 l0_1 a0_2 a0_3 ((vq l0_0 x12_1).f0) ((vq l0_0 x12_1).f1) ((vq l0_0 x12_1).f2) ((vq l0_0 x12_1).f3) ((vq l0_0 x12_1).f4))))) else (if (((vq l0_0 x12_1).f1).length : Int) = 16 then (if (((vq l0_0 x12_1).f2).length : Int) > 5 then (qjz.j1 k1 l0_0 (l0_0.length : Int) x12_1 true l0_0 l0_1 a0_2 a0_3 ((vq l0_0 x12_1).f0) ((vq l0_0 x12_1).f1) ((vq l0_0 x12_1).f2) ((vq l0_0 x12_1).f3) ((vq l0_0 x12_1).f4)) else ((qjj.f k1 ((vq l0_0 x12_1).f3)).bind fun t108 => (if t108 = true then (qjz.j1 k1 l0_0 (l0_0.length : Int) x12_1 (decide ((((vq l0_0 x12_1).f4).length : Int) > 4)) l0_0 l0_1 a0_2 a0_3 ((vq l0_0 x12_1).f0) ((vq l0_0 x12_1).f1) ((vq l0_0 x12_1).f2) ((vq l0_0 x12_1).f3) ((vq l0_0 x12_1).f4)) else (qjz.j1 k1 l0_0 (l0_0.length : Int) x12_1 true l0_0 l0_1 a0_2 a0_3 ((vq l0_0 x12_1).f0) ((vq l0_0 x12_1).f1) ((vq l0_0 x12_1).f2) ((vq l0_0 x12_1).f3) ((vq l0_0 x12_1).f4))))) else (qjz.j1 k1 l0_0 (l0_0.length : Int) x12_1 true l0_0 l0_1 a0_2 a0_3 ((vq l0_0 x12_1).f0) ((vq l0_0 x12_1).f1) ((vq l0_0 x12_1).f2) ((vq l0_0 x12_1).f3) ((vq l0_0 x12_1).f4)))))) else (none)) else (none)) = some r := by first | (rw [hji14] at H;exact H) | (simp only [hji14] at H ⊢;exact H)
         (try rw [hji14] at A11)
         have hji14w : (IntKind.i64.wrap (x12_1 - 1)) = ji14 := (i64_w _).trans hji14
         by_cases c15 : 0 ≤ (ji14)
         ·rw [if_pos c15] at H
          have c15b0 : decide (0 ≤ (ji14)) = true := decide_eq_true c15
          clear c15
          by_cases c16 : (ji14) < (l0_0.length : Int)
          ·rw [if_pos c16] at H
           have c16b0 : decide ((ji14) < (l0_0.length : Int)) = true := decide_eq_true c16
           clear c16
           replace H := Option.bind_eq_some_iff.mp H
           obtain ⟨t106,A170,H⟩ := H
           replace H : (if t106 ≥ 0 then (qjz.j1 k1 l0_0 (l0_0.length : Int) x12_1 true l0_0 l0_1 a0_2 a0_3 ((vq l0_0 x12_1).f0) ((vq l0_0 x12_1).f1) ((vq l0_0 x12_1).f2) ((vq l0_0 x12_1).f3) ((vq l0_0 x12_1).f4)) else (if (((vq l0_0 x12_1).f1).length : Int) = 0 then (if (((vq l0_0 x12_1).f2).length : Int) > 5 then (qjz.j1 k1 l0_0 (l0_0.length : Int) x12_1 true l0_0 l0_1 a0_2 a0_3 ((vq l0_0 x12_1).f0) ((vq l0_0 x12_1).f1) ((vq l0_0 x12_1).f2) ((vq l0_0 x12_1).f3) ((vq l0_0 x12_1).f4)) else ((qjj.f k1 ((vq l0_0 x12_1).f3)).bind fun t107 => (if t107 = true then (qjz.j1 k1 l0_0 (l0_0.length : Int) x12_1 (decide ((((vq l0_0 x12_1).f4).length : Int) > 4)) l0_0 l0_1 a0_2 a0_3 ((vq l0_0 x12_1).f0) ((vq l0_0 x12_1).f1) ((vq l0_0 x12_1).f2) ((vq l0_0 x12_1).f3) ((vq l0_0 x12_1).f4)) else (qjz.j1 k1 l0_0 (l0_0.length : Int) x12_1 true l0_0 l0_1 a0_2 a0_3 ((vq l0_0 x12_1).f0) ((vq l0_0 x12_1).f1) ((vq l0_0 x12_1).f2) ((vq l0_0 x12_1).f3) ((vq l0_0 x12_1).f4))))) else (if (((vq l0_0 x12_1).f1).length : Int) = 16 then (if (((vq l0_0 x12_1).f2).length : Int) > 5 then (qjz.j1 k1 l0_0 (l0_0.length : Int) x12_1 true l0_0 l0_1 a0_2 a0_3 ((vq l0_0 x12_1).f0) ((vq l0_0 x12_1).f1) ((vq l0_0 x12_1).f2) ((vq l0_0 x12_1).f3) ((vq l0_0 x12_1).f4)) else ((qjj.f k1 ((vq l0_0 x12_1).f3)).bind fun t108 => (if t108 = true then (qjz.j1 k1 l0_0 (l0_0.length : Int) x12_1 (decide ((((vq l0_0 x12_1).f4).length : Int) > 4)) l0_0 l0_1 a0_2 a0_3 ((vq l0_0 x12_1).f0) ((vq l0_0 x12_1).f1) ((vq l0_0 x12_1).f2) ((vq l0_0 x12_1).f3) ((vq l0_0 x12_1).f4)) else (qjz.j1 k1 l0_0 (l0_0.length : Int) x12_1 true l0_0 l0_1 a0_2 a0_3 ((vq l0_0 x12_1).f0) ((vq l0_0 x12_1).f1) ((vq l0_0 x12_1).f2) ((vq l0_0 x12_1).f3) ((vq l0_0 x12_1).f4))))) else (qjz.j1 k1 l0_0 (l0_0.length : Int) x12_1 true l0_0 l0_1 a0_2 a0_3 ((vq l0_0 x12_1).f0) ((vq l0_0 x12_1).f1) ((vq l0_0 x12_1).f2) ((vq l0_0 x12_1).f3) ((vq l0_0 x12_1).f4))))) = some r := H
           have A17 := qq.mk A170
           clear A170
           by_cases c18 : t106 ≥ 0
           ·rw [if_pos c18] at H
            have c18b0 : decide (0 ≤ t106) = true := decide_eq_true c18
            clear c18
            have H' := qq.mk H
            clear H
            try go_wp2
            have n0_ : qq ((((((w8.setCell ⟨gb103,0,none⟩ (.string ((vq l0_0 x12_1).f0))).setCell ⟨gb103,1,none⟩ (.slice A102_1 ((vq l0_0 x12_1).f1).length c102_1)).setCell ⟨gb103,2,none⟩ (.slice A102_2 ((vq l0_0 x12_1).f2).length c102_2)).setCell ⟨gb103,3,none⟩ (.slice A102_3 ((vq l0_0 x12_1).f3).length c102_3)).setCell ⟨gb103,4,none⟩ (.slice A102_4 ((vq l0_0 x12_1).f4).length c102_4)).heap[gb101]? = some (.cells #[.slice (some ad102) l0_0.length c0_0,.slice A0_1 l0_1.length c0_1,.int .i64 a0_2,.int .i64 a0_3] 45 (0,0))) := ⟨by (with_reducible repeat (first | refine zz ?_ _ | refine zj ?_ | refine zq ?_ _));refine blk_far ?_ NB101_103.out _;(with_reducible repeat (first | refine zz ?_ _ | refine zj ?_ | refine zq ?_ _));refine blk_far ?_ NB101_103.out _;(with_reducible repeat (first | refine zz ?_ _ | refine zj ?_ | refine zq ?_ _));refine blk_far ?_ NB101_103.out _;(with_reducible repeat (first | refine zz ?_ _ | refine zj ?_ | refine zq ?_ _));refine blk_far ?_ NB101_103.out _;(with_reducible repeat (first | refine zz ?_ _ | refine zj ?_ | refine zq ?_ _));refine blk_far ?_ NB101_103.out _;(with_reducible repeat (first | refine zz ?_ _ | refine zj ?_ | refine zq ?_ _));exact BK101.out⟩
            have n1_ : qq ((((((w8.setCell ⟨gb103,0,none⟩ (.string ((vq l0_0 x12_1).f0))).setCell ⟨gb103,1,none⟩ (.slice A102_1 ((vq l0_0 x12_1).f1).length c102_1)).setCell ⟨gb103,2,none⟩ (.slice A102_2 ((vq l0_0 x12_1).f2).length c102_2)).setCell ⟨gb103,3,none⟩ (.slice A102_3 ((vq l0_0 x12_1).f3).length c102_3)).setCell ⟨gb103,4,none⟩ (.slice A102_4 ((vq l0_0 x12_1).f4).length c102_4)).heap[gb103]? = some (.cells #[.string ((vq l0_0 x12_1).f0),.slice A102_1 ((vq l0_0 x12_1).f1).length c102_1,.slice A102_2 ((vq l0_0 x12_1).f2).length c102_2,.slice A102_3 ((vq l0_0 x12_1).f3).length c102_3,.slice A102_4 ((vq l0_0 x12_1).f4).length c102_4] 77 (0,0))) := ⟨by (with_reducible repeat (first | refine zz ?_ _ | refine zj ?_ | refine zq ?_ _));refine blk_put (cs := #[.string ((vq l0_0 x12_1).f0),.slice A102_1 ((vq l0_0 x12_1).f1).length c102_1,.slice A102_2 ((vq l0_0 x12_1).f2).length c102_2,.slice A102_3 ((vq l0_0 x12_1).f3).length c102_3,.slice none 0 0]) ?_ 4 _ rfl;(with_reducible repeat (first | refine zz ?_ _ | refine zj ?_ | refine zq ?_ _));refine blk_put (cs := #[.string ((vq l0_0 x12_1).f0),.slice A102_1 ((vq l0_0 x12_1).f1).length c102_1,.slice A102_2 ((vq l0_0 x12_1).f2).length c102_2,.slice none 0 0,.slice none 0 0]) ?_ 3 _ rfl;(with_reducible repeat (first | refine zz ?_ _ | refine zj ?_ | refine zq ?_ _));refine blk_put (cs := #[.string ((vq l0_0 x12_1).f0),.slice A102_1 ((vq l0_0 x12_1).f1).length c102_1,.slice none 0 0,.slice none 0 0,.slice none 0 0]) ?_ 2 _ rfl;(with_reducible repeat (first | refine zz ?_ _ | refine zj ?_ | refine zq ?_ _));refine blk_put (cs := #[.string ((vq l0_0 x12_1).f0),.slice none 0 0,.slice none 0 0,.slice none 0 0,.slice none 0 0]) ?_ 1 _ rfl;(with_reducible repeat (first | refine zz ?_ _ | refine zj ?_ | refine zq ?_ _));refine blk_put (cs := #[.string (⟨#[]⟩ : ByteArray),.slice none 0 0,.slice none 0 0,.slice none 0 0,.slice none 0 0]) ?_ 0 _ rfl;(with_reducible repeat (first | refine zz ?_ _ | refine zj ?_ | refine zq ?_ _));exact BK103.out⟩
            have n2_ : qq (Below w.heap.size w (((((w8.setCell ⟨gb103,0,none⟩ (.string ((vq l0_0 x12_1).f0))).setCell ⟨gb103,1,none⟩ (.slice A102_1 ((vq l0_0 x12_1).f1).length c102_1)).setCell ⟨gb103,2,none⟩ (.slice A102_2 ((vq l0_0 x12_1).f2).length c102_2)).setCell ⟨gb103,3,none⟩ (.slice A102_3 ((vq l0_0 x12_1).f3).length c102_3)).setCell ⟨gb103,4,none⟩ (.slice A102_4 ((vq l0_0 x12_1).f4).length c102_4))) := ⟨by repeat (first | (with_reducible first | exact HB.out | apply qj | apply qz | apply qk | refine qx ?_ GE101.out | refine qx ?_ GE103.out) | exact HB.out)⟩
            (try clear BK101)
            (try clear BK103)
            (try clear HB)
            generalize (((((w8.setCell ⟨gb103,0,none⟩ (.string ((vq l0_0 x12_1).f0))).setCell ⟨gb103,1,none⟩ (.slice A102_1 ((vq l0_0 x12_1).f1).length c102_1)).setCell ⟨gb103,2,none⟩ (.slice A102_2 ((vq l0_0 x12_1).f2).length c102_2)).setCell ⟨gb103,3,none⟩ (.slice A102_3 ((vq l0_0 x12_1).f3).length c102_3)).setCell ⟨gb103,4,none⟩ (.slice A102_4 ((vq l0_0 x12_1).f4).length c102_4)) = w19 at n0_ n1_ n2_ ⊢
            have BK101 := n0_
            have BK103 := n1_
            have HB := n2_
            clear n0_ n1_ n2_
            have p105 : 0 ≤ ((ji14) : Int) := of_decide_eq_true (by assumption)
            have q105 : (ji14) < (l0_0.length : Int) := of_decide_eq_true (by assumption)
            obtain ⟨ad105,A105_1,c105_1,A105_2,c105_2,A105_3,c105_3,A105_4,c105_4,e105,hx105_0,hx105_1,hx105_2,hx105_3,hx105_4,hl105_1,hi105_1,hl105_2,hi105_2,hl105_3,hi105_3,hl105_4,hi105_4⟩ := at_T77 HR0_0.out (ji14) p105 q105
            have hw105_4 := hx105_4
            have hw105_3 := hx105_3
            have hw105_2 := hx105_2
            have hw105_1 := hx105_1
            have hw105_0 := hx105_0
            obtain rfl : ad102 = ad105 := (by injection e105)
            replace hx105_0 := (HB.out.cell (World.block_lt_of_cell? w _ hx105_0)).trans hx105_0
            replace hx105_1 := (HB.out.cell (World.block_lt_of_cell? w _ hx105_1)).trans hx105_1
            replace hx105_2 := (HB.out.cell (World.block_lt_of_cell? w _ hx105_2)).trans hx105_2
            replace hx105_3 := (HB.out.cell (World.block_lt_of_cell? w _ hx105_3)).trans hx105_3
            replace hx105_4 := (HB.out.cell (World.block_lt_of_cell? w _ hx105_4)).trans hx105_4
            have HR105_1 := qq.mk hi105_1
            have HC105_1 := qq.mk hl105_1
            clear hi105_1 hl105_1
            have HR105_2 := qq.mk hi105_2
            have HC105_2 := qq.mk hl105_2
            clear hi105_2 hl105_2
            have HR105_3 := qq.mk hi105_3
            have HC105_3 := qq.mk hl105_3
            clear hi105_3 hl105_3
            have HR105_4 := qq.mk hi105_4
            have HC105_4 := qq.mk hl105_4
            clear hi105_4 hl105_4
            replace p105 := eq_true p105
            replace q105 := eq_true q105
            have hS_ := (show (fun w' => w'.cell? ⟨gb103,0,none⟩ = some (.string ((vq l0_0 x12_1).f0)) ∧ w'.cell? ⟨gb103,1,none⟩ = some (.slice A102_1 ((vq l0_0 x12_1).f1).length c102_1) ∧ w'.cell? ⟨gb103,2,none⟩ = some (.slice A102_2 ((vq l0_0 x12_1).f2).length c102_2) ∧ w'.cell? ⟨gb103,3,none⟩ = some (.slice A102_3 ((vq l0_0 x12_1).f3).length c102_3) ∧ w'.cell? ⟨gb103,4,none⟩ = some (.slice A102_4 ((vq l0_0 x12_1).f4).length c102_4) ∧ w'.cell? ⟨gb101,0,none⟩ = some (.slice (some ad102) l0_0.length c0_0) ∧ w'.cell? ⟨gb101,1,none⟩ = some (.slice A0_1 l0_1.length c0_1) ∧ w'.cell? ⟨gb101,2,none⟩ = some (.int .i64 a0_2) ∧ w'.cell? ⟨gb101,3,none⟩ = some (.int .i64 a0_3) ∧ w'.cell? (ad102.add (((ji14)).toNat * 5)) = some (.string ((vq l0_0 (ji14)).f0)) ∧ w'.cell? ⟨(ad102.add (((ji14)).toNat * 5)).block,(ad102.add (((ji14)).toNat * 5)).off + 1,none⟩ = some (.slice A105_1 ((vq l0_0 (ji14)).f1).length c105_1) ∧ w'.cell? ⟨(ad102.add (((ji14)).toNat * 5)).block,(ad102.add (((ji14)).toNat * 5)).off + 2,none⟩ = some (.slice A105_2 ((vq l0_0 (ji14)).f2).length c105_2) ∧ w'.cell? ⟨(ad102.add (((ji14)).toNat * 5)).block,(ad102.add (((ji14)).toNat * 5)).off + 3,none⟩ = some (.slice A105_3 ((vq l0_0 (ji14)).f3).length c105_3) ∧ w'.cell? ⟨(ad102.add (((ji14)).toNat * 5)).block,(ad102.add (((ji14)).toNat * 5)).off + 4,none⟩ = some (.slice A105_4 ((vq l0_0 (ji14)).f4).length c105_4)) (w19) from ⟨(qw BK103.out 0).trans rfl,(qw BK103.out 1).trans rfl,(qw BK103.out 2).trans rfl,(qw BK103.out 3).trans rfl,(qw BK103.out 4).trans rfl,(qw BK101.out 0).trans rfl,(qw BK101.out 1).trans rfl,(qw BK101.out 2).trans rfl,(qw BK101.out 3).trans rfl,((HB.out.cell (World.block_lt_of_cell? w _ hw105_0)).trans hw105_0),((HB.out.cell (World.block_lt_of_cell? w _ hw105_1)).trans hw105_1),((HB.out.cell (World.block_lt_of_cell? w _ hw105_2)).trans hw105_2),((HB.out.cell (World.block_lt_of_cell? w _ hw105_3)).trans hw105_3),((HB.out.cell (World.block_lt_of_cell? w _ hw105_4)).trans hw105_4)⟩)
            obtain ⟨hS0_,hS1_,hS2_,hS3_,hS4_,hS5_,hS6_,hS7_,hS8_,hS9_,hS10_,hS11_,hS12_,hS13_⟩ := hS_
            go_quiet ((first | (go_at_call 37;exact Calls.quiet_of ((qkj.calls k1 ((vq l0_0 x12_1).f0) true _ A11.out).mono fun _ _ h => ⟨h.1,h.2.out⟩)) | (go_at_call 38;exact Calls.quiet_of ((qjv.calls k1 ((vq l0_0 (ji14)).f0) ((vq l0_0 x12_1).f0) t106 _ A17.out).mono fun _ _ h => ⟨h.1,h.2.out⟩))))
            clear hS0_ hS1_ hS2_ hS3_ hS4_ hS5_ hS6_ hS7_ hS8_ hS9_ hS10_ hS11_ hS12_ hS13_
            have n0_ := qq.mk (zz BK101.out nq)
            have n1_ := qq.mk (zz BK103.out nq)
            have n2_ := qq.mk (qz HB.out nq)
            clear BK101
            clear BK103
            clear HB
            have BK101 := n0_
            have BK103 := n1_
            have HB := n2_
            clear n0_ n1_ n2_
            replace hx105_0 : (World.drewN w19 nq).cell? _ = _ := hx105_0
            replace hx105_1 : (World.drewN w19 nq).cell? _ = _ := hx105_1
            replace hx105_2 : (World.drewN w19 nq).cell? _ = _ := hx105_2
            replace hx105_3 : (World.drewN w19 nq).cell? _ = _ := hx105_3
            replace hx105_4 : (World.drewN w19 nq).cell? _ = _ := hx105_4
            generalize World.drewN w19 nq = w20 at BK101 BK103 HB HR105_1 HR105_2 HR105_3 HR105_4 hx105_0 hx105_1 hx105_2 hx105_3 hx105_4 ⊢
            try go_wp2
            go_meet
            case rel => exact ⟨_,(true),(by first | rfl | (simp;done) | (simp [*];done)),H',⟨by have := HK1.out;first | omega | exact Nat.le_refl _⟩,⟨by (with_reducible repeat (first | refine zz ?_ _ | refine zj ?_ | refine zq ?_ _));exact BK101.out⟩,⟨by (with_reducible repeat (first | refine zz ?_ _ | refine zj ?_ | refine zq ?_ _));exact BK103.out⟩,⟨by repeat (first | (with_reducible first | exact HB.out | apply qj | apply qz | apply qk | refine qx ?_ GE101.out | refine qx ?_ GE103.out) | exact HB.out)⟩⟩
           ·rw [if_neg c18] at H
            have c18b0 : decide (0 ≤ t106) = false := decide_eq_false c18
            clear c18
            by_cases c21 : (((vq l0_0 x12_1).f1).length : Int) = 0
            ·rw [if_pos c21] at H
             have c21b0 : ((((vq l0_0 x12_1).f1).length : Int) == 0) = true := beq_iff_eq.mpr c21
             have c21b1 : ((((vq l0_0 x12_1).f1).length : Int) != 0) = false := bne_eq_false_iff_eq.mpr c21
             clear c21
             by_cases c22 : (((vq l0_0 x12_1).f2).length : Int) > 5
             ·rw [if_pos c22] at H
              have c22b0 : decide (5 < (((vq l0_0 x12_1).f2).length : Int)) = true := decide_eq_true c22
              have c22b1 : decide (5 < ((vq l0_0 x12_1).f2).length) = true := decide_eq_true (by omega)
              clear c22
              have H' := qq.mk H
              clear H
              try go_wp2
              have n0_ : qq ((((((w8.setCell ⟨gb103,0,none⟩ (.string ((vq l0_0 x12_1).f0))).setCell ⟨gb103,1,none⟩ (.slice A102_1 ((vq l0_0 x12_1).f1).length c102_1)).setCell ⟨gb103,2,none⟩ (.slice A102_2 ((vq l0_0 x12_1).f2).length c102_2)).setCell ⟨gb103,3,none⟩ (.slice A102_3 ((vq l0_0 x12_1).f3).length c102_3)).setCell ⟨gb103,4,none⟩ (.slice A102_4 ((vq l0_0 x12_1).f4).length c102_4)).heap[gb101]? = some (.cells #[.slice (some ad102) l0_0.length c0_0,.slice A0_1 l0_1.length c0_1,.int .i64 a0_2,.int .i64 a0_3] 45 (0,0))) := ⟨by (with_reducible repeat (first | refine zz ?_ _ | refine zj ?_ | refine zq ?_ _));refine blk_far ?_ NB101_103.out _;(with_reducible repeat (first | refine zz ?_ _ | refine zj ?_ | refine zq ?_ _));refine blk_far ?_ NB101_103.out _;(with_reducible repeat (first | refine zz ?_ _ | refine zj ?_ | refine zq ?_ _));refine blk_far ?_ NB101_103.out _;(with_reducible repeat (first | refine zz ?_ _ | refine zj ?_ | refine zq ?_ _));refine blk_far ?_ NB101_103.out _;(with_reducible repeat (first | refine zz ?_ _ | refine zj ?_ | refine zq ?_ _));refine blk_far ?_ NB101_103.out _;(with_reducible repeat (first | refine zz ?_ _ | refine zj ?_ | refine zq ?_ _));exact BK101.out⟩
              have n1_ : qq ((((((w8.setCell ⟨gb103,0,none⟩ (.string ((vq l0_0 x12_1).f0))).setCell ⟨gb103,1,none⟩ (.slice A102_1 ((vq l0_0 x12_1).f1).length c102_1)).setCell ⟨gb103,2,none⟩ (.slice A102_2 ((vq l0_0 x12_1).f2).length c102_2)).setCell ⟨gb103,3,none⟩ (.slice A102_3 ((vq l0_0 x12_1).f3).length c102_3)).setCell ⟨gb103,4,none⟩ (.slice A102_4 ((vq l0_0 x12_1).f4).length c102_4)).heap[gb103]? = some (.cells #[.string ((vq l0_0 x12_1).f0),.slice A102_1 ((vq l0_0 x12_1).f1).length c102_1,.slice A102_2 ((vq l0_0 x12_1).f2).length c102_2,.slice A102_3 ((vq l0_0 x12_1).f3).length c102_3,.slice A102_4 ((vq l0_0 x12_1).f4).length c102_4] 77 (0,0))) := ⟨by (with_reducible repeat (first | refine zz ?_ _ | refine zj ?_ | refine zq ?_ _));refine blk_put (cs := #[.string ((vq l0_0 x12_1).f0),.slice A102_1 ((vq l0_0 x12_1).f1).length c102_1,.slice A102_2 ((vq l0_0 x12_1).f2).length c102_2,.slice A102_3 ((vq l0_0 x12_1).f3).length c102_3,.slice none 0 0]) ?_ 4 _ rfl;(with_reducible repeat (first | refine zz ?_ _ | refine zj ?_ | refine zq ?_ _));refine blk_put (cs := #[.string ((vq l0_0 x12_1).f0),.slice A102_1 ((vq l0_0 x12_1).f1).length c102_1,.slice A102_2 ((vq l0_0 x12_1).f2).length c102_2,.slice none 0 0,.slice none 0 0]) ?_ 3 _ rfl;(with_reducible repeat (first | refine zz ?_ _ | refine zj ?_ | refine zq ?_ _));refine blk_put (cs := #[.string ((vq l0_0 x12_1).f0),.slice A102_1 ((vq l0_0 x12_1).f1).length c102_1,.slice none 0 0,.slice none 0 0,.slice none 0 0]) ?_ 2 _ rfl;(with_reducible repeat (first | refine zz ?_ _ | refine zj ?_ | refine zq ?_ _));refine blk_put (cs := #[.string ((vq l0_0 x12_1).f0),.slice none 0 0,.slice none 0 0,.slice none 0 0,.slice none 0 0]) ?_ 1 _ rfl;(with_reducible repeat (first | refine zz ?_ _ | refine zj ?_ | refine zq ?_ _));refine blk_put (cs := #[.string (⟨#[]⟩ : ByteArray),.slice none 0 0,.slice none 0 0,.slice none 0 0,.slice none 0 0]) ?_ 0 _ rfl;(with_reducible repeat (first | refine zz ?_ _ | refine zj ?_ | refine zq ?_ _));exact BK103.out⟩
              have n2_ : qq (Below w.heap.size w (((((w8.setCell ⟨gb103,0,none⟩ (.string ((vq l0_0 x12_1).f0))).setCell ⟨gb103,1,none⟩ (.slice A102_1 ((vq l0_0 x12_1).f1).length c102_1)).setCell ⟨gb103,2,none⟩ (.slice A102_2 ((vq l0_0 x12_1).f2).length c102_2)).setCell ⟨gb103,3,none⟩ (.slice A102_3 ((vq l0_0 x12_1).f3).length c102_3)).setCell ⟨gb103,4,none⟩ (.slice A102_4 ((vq l0_0 x12_1).f4).length c102_4))) := ⟨by repeat (first | (with_reducible first | exact HB.out | apply qj | apply qz | apply qk | refine qx ?_ GE101.out | refine qx ?_ GE103.out) | exact HB.out)⟩
              (try clear BK101)
              (try clear BK103)
              (try clear HB)
              generalize (((((w8.setCell ⟨gb103,0,none⟩ (.string ((vq l0_0 x12_1).f0))).setCell ⟨gb103,1,none⟩ (.slice A102_1 ((vq l0_0 x12_1).f1).length c102_1)).setCell ⟨gb103,2,none⟩ (.slice A102_2 ((vq l0_0 x12_1).f2).length c102_2)).setCell ⟨gb103,3,none⟩ (.slice A102_3 ((vq l0_0 x12_1).f3).length c102_3)).setCell ⟨gb103,4,none⟩ (.slice A102_4 ((vq l0_0 x12_1).f4).length c102_4)) = w23 at n0_ n1_ n2_ ⊢
              have BK101 := n0_
              have BK103 := n1_
              have HB := n2_
              clear n0_ n1_ n2_
              have p105 : 0 ≤ ((ji14) : Int) := of_decide_eq_true (by assumption)
              have q105 : (ji14) < (l0_0.length : Int) := of_decide_eq_true (by assumption)
              obtain ⟨ad105,A105_1,c105_1,A105_2,c105_2,A105_3,c105_3,A105_4,c105_4,e105,hx105_0,hx105_1,hx105_2,hx105_3,hx105_4,hl105_1,hi105_1,hl105_2,hi105_2,hl105_3,hi105_3,hl105_4,hi105_4⟩ := at_T77 HR0_0.out (ji14) p105 q105
              have hw105_4 := hx105_4
              have hw105_3 := hx105_3
              have hw105_2 := hx105_2
              have hw105_1 := hx105_1
              have hw105_0 := hx105_0
              obtain rfl : ad102 = ad105 := (by injection e105)
              replace hx105_0 := (HB.out.cell (World.block_lt_of_cell? w _ hx105_0)).trans hx105_0
              replace hx105_1 := (HB.out.cell (World.block_lt_of_cell? w _ hx105_1)).trans hx105_1
              replace hx105_2 := (HB.out.cell (World.block_lt_of_cell? w _ hx105_2)).trans hx105_2
              replace hx105_3 := (HB.out.cell (World.block_lt_of_cell? w _ hx105_3)).trans hx105_3
              replace hx105_4 := (HB.out.cell (World.block_lt_of_cell? w _ hx105_4)).trans hx105_4
              have HR105_1 := qq.mk hi105_1
              have HC105_1 := qq.mk hl105_1
              clear hi105_1 hl105_1
              have HR105_2 := qq.mk hi105_2
              have HC105_2 := qq.mk hl105_2
              clear hi105_2 hl105_2
              have HR105_3 := qq.mk hi105_3
              have HC105_3 := qq.mk hl105_3
              clear hi105_3 hl105_3
              have HR105_4 := qq.mk hi105_4
              have HC105_4 := qq.mk hl105_4
              clear hi105_4 hl105_4
              replace p105 := eq_true p105
              replace q105 := eq_true q105
              have hS_ := (show (fun w' => w'.cell? ⟨gb103,0,none⟩ = some (.string ((vq l0_0 x12_1).f0)) ∧ w'.cell? ⟨gb103,1,none⟩ = some (.slice A102_1 ((vq l0_0 x12_1).f1).length c102_1) ∧ w'.cell? ⟨gb103,2,none⟩ = some (.slice A102_2 ((vq l0_0 x12_1).f2).length c102_2) ∧ w'.cell? ⟨gb103,3,none⟩ = some (.slice A102_3 ((vq l0_0 x12_1).f3).length c102_3) ∧ w'.cell? ⟨gb103,4,none⟩ = some (.slice A102_4 ((vq l0_0 x12_1).f4).length c102_4) ∧ w'.cell? ⟨gb101,0,none⟩ = some (.slice (some ad102) l0_0.length c0_0) ∧ w'.cell? ⟨gb101,1,none⟩ = some (.slice A0_1 l0_1.length c0_1) ∧ w'.cell? ⟨gb101,2,none⟩ = some (.int .i64 a0_2) ∧ w'.cell? ⟨gb101,3,none⟩ = some (.int .i64 a0_3) ∧ w'.cell? (ad102.add (((ji14)).toNat * 5)) = some (.string ((vq l0_0 (ji14)).f0)) ∧ w'.cell? ⟨(ad102.add (((ji14)).toNat * 5)).block,(ad102.add (((ji14)).toNat * 5)).off + 1,none⟩ = some (.slice A105_1 ((vq l0_0 (ji14)).f1).length c105_1) ∧ w'.cell? ⟨(ad102.add (((ji14)).toNat * 5)).block,(ad102.add (((ji14)).toNat * 5)).off + 2,none⟩ = some (.slice A105_2 ((vq l0_0 (ji14)).f2).length c105_2) ∧ w'.cell? ⟨(ad102.add (((ji14)).toNat * 5)).block,(ad102.add (((ji14)).toNat * 5)).off + 3,none⟩ = some (.slice A105_3 ((vq l0_0 (ji14)).f3).length c105_3) ∧ w'.cell? ⟨(ad102.add (((ji14)).toNat * 5)).block,(ad102.add (((ji14)).toNat * 5)).off + 4,none⟩ = some (.slice A105_4 ((vq l0_0 (ji14)).f4).length c105_4)) (w23) from ⟨(qw BK103.out 0).trans rfl,(qw BK103.out 1).trans rfl,(qw BK103.out 2).trans rfl,(qw BK103.out 3).trans rfl,(qw BK103.out 4).trans rfl,(qw BK101.out 0).trans rfl,(qw BK101.out 1).trans rfl,(qw BK101.out 2).trans rfl,(qw BK101.out 3).trans rfl,((HB.out.cell (World.block_lt_of_cell? w _ hw105_0)).trans hw105_0),((HB.out.cell (World.block_lt_of_cell? w _ hw105_1)).trans hw105_1),((HB.out.cell (World.block_lt_of_cell? w _ hw105_2)).trans hw105_2),((HB.out.cell (World.block_lt_of_cell? w _ hw105_3)).trans hw105_3),((HB.out.cell (World.block_lt_of_cell? w _ hw105_4)).trans hw105_4)⟩)
              obtain ⟨hS0_,hS1_,hS2_,hS3_,hS4_,hS5_,hS6_,hS7_,hS8_,hS9_,hS10_,hS11_,hS12_,hS13_⟩ := hS_
              go_quiet ((first | (go_at_call 37;exact Calls.quiet_of ((qkj.calls k1 ((vq l0_0 x12_1).f0) true _ A11.out).mono fun _ _ h => ⟨h.1,h.2.out⟩)) | (go_at_call 38;exact Calls.quiet_of ((qjv.calls k1 ((vq l0_0 (ji14)).f0) ((vq l0_0 x12_1).f0) t106 _ A17.out).mono fun _ _ h => ⟨h.1,h.2.out⟩))))
              clear hS0_ hS1_ hS2_ hS3_ hS4_ hS5_ hS6_ hS7_ hS8_ hS9_ hS10_ hS11_ hS12_ hS13_
              have n0_ := qq.mk (zz BK101.out nq)
              have n1_ := qq.mk (zz BK103.out nq)
              have n2_ := qq.mk (qz HB.out nq)
              clear BK101
              clear BK103
              clear HB
              have BK101 := n0_
              have BK103 := n1_
              have HB := n2_
              clear n0_ n1_ n2_
              replace hx105_0 : (World.drewN w23 nq).cell? _ = _ := hx105_0
              replace hx105_1 : (World.drewN w23 nq).cell? _ = _ := hx105_1
              replace hx105_2 : (World.drewN w23 nq).cell? _ = _ := hx105_2
              replace hx105_3 : (World.drewN w23 nq).cell? _ = _ := hx105_3
              replace hx105_4 : (World.drewN w23 nq).cell? _ = _ := hx105_4
              generalize World.drewN w23 nq = w24 at BK101 BK103 HB HR105_1 HR105_2 HR105_3 HR105_4 hx105_0 hx105_1 hx105_2 hx105_3 hx105_4 ⊢
              try go_wp2
              go_meet
              case rel => exact ⟨_,(true),(by first | rfl | (simp;done) | (simp [*];done)),H',⟨by have := HK1.out;first | omega | exact Nat.le_refl _⟩,⟨by (with_reducible repeat (first | refine zz ?_ _ | refine zj ?_ | refine zq ?_ _));exact BK101.out⟩,⟨by (with_reducible repeat (first | refine zz ?_ _ | refine zj ?_ | refine zq ?_ _));exact BK103.out⟩,⟨by repeat (first | (with_reducible first | exact HB.out | apply qj | apply qz | apply qk | refine qx ?_ GE101.out | refine qx ?_ GE103.out) | exact HB.out)⟩⟩
             ·rw [if_neg c22] at H
              have c22b0 : decide (5 < (((vq l0_0 x12_1).f2).length : Int)) = false := decide_eq_false c22
              have c22b1 : decide (5 < ((vq l0_0 x12_1).f2).length) = false := decide_eq_false (by omega)
              clear c22
              replace H := Option.bind_eq_some_iff.mp H
              obtain ⟨t107,A250,H⟩ := H
              replace H : (if t107 = true then (qjz.j1 k1 l0_0 (l0_0.length : Int) x12_1 (decide ((((vq l0_0 x12_1).f4).length : Int) > 4)) l0_0 l0_1 a0_2 a0_3 ((vq l0_0 x12_1).f0) ((vq l0_0 x12_1).f1) ((vq l0_0 x12_1).f2) ((vq l0_0 x12_1).f3) ((vq l0_0 x12_1).f4)) else (qjz.j1 k1 l0_0 (l0_0.length : Int) x12_1 true l0_0 l0_1 a0_2 a0_3 ((vq l0_0 x12_1).f0) ((vq l0_0 x12_1).f1) ((vq l0_0 x12_1).f2) ((vq l0_0 x12_1).f3) ((vq l0_0 x12_1).f4))) = some r := H
              have A25 := qq.mk A250
              clear A250
              by_cases c26 : t107 = true
              ·subst c26
               have H1 : (qjz.j1 k1 l0_0 (l0_0.length : Int) x12_1 (decide ((((vq l0_0 x12_1).f4).length : Int) > 4)) l0_0 l0_1 a0_2 a0_3 ((vq l0_0 x12_1).f0) ((vq l0_0 x12_1).f1) ((vq l0_0 x12_1).f2) ((vq l0_0 x12_1).f3) ((vq l0_0 x12_1).f4)) = some r := by rw [if_pos rfl] at H;exact H
               clear H
               have H := H1
               clear H1
               have H' := qq.mk H
               clear H
               try go_wp2
               have n0_ : qq ((((((w8.setCell ⟨gb103,0,none⟩ (.string ((vq l0_0 x12_1).f0))).setCell ⟨gb103,1,none⟩ (.slice A102_1 ((vq l0_0 x12_1).f1).length c102_1)).setCell ⟨gb103,2,none⟩ (.slice A102_2 ((vq l0_0 x12_1).f2).length c102_2)).setCell ⟨gb103,3,none⟩ (.slice A102_3 ((vq l0_0 x12_1).f3).length c102_3)).setCell ⟨gb103,4,none⟩ (.slice A102_4 ((vq l0_0 x12_1).f4).length c102_4)).heap[gb101]? = some (.cells #[.slice (some ad102) l0_0.length c0_0,.slice A0_1 l0_1.length c0_1,.int .i64 a0_2,.int .i64 a0_3] 45 (0,0))) := ⟨by (with_reducible repeat (first | refine zz ?_ _ | refine zj ?_ | refine zq ?_ _));refine blk_far ?_ NB101_103.out _;(with_reducible repeat (first | refine zz ?_ _ | refine zj ?_ | refine zq ?_ _));refine blk_far ?_ NB101_103.out _;(with_reducible repeat (first | refine zz ?_ _ | refine zj ?_ | refine zq ?_ _));refine blk_far ?_ NB101_103.out _;(with_reducible repeat (first | refine zz ?_ _ | refine zj ?_ | refine zq ?_ _));refine blk_far ?_ NB101_103.out _;(with_reducible repeat (first | refine zz ?_ _ | refine zj ?_ | refine zq ?_ _));refine blk_far ?_ NB101_103.out _;(with_reducible repeat (first | refine zz ?_ _ | refine zj ?_ | refine zq ?_ _));exact BK101.out⟩
               have n1_ : qq ((((((w8.setCell ⟨gb103,0,none⟩ (.string ((vq l0_0 x12_1).f0))).setCell ⟨gb103,1,none⟩ (.slice A102_1 ((vq l0_0 x12_1).f1).length c102_1)).setCell ⟨gb103,2,none⟩ (.slice A102_2 ((vq l0_0 x12_1).f2).length c102_2)).setCell ⟨gb103,3,none⟩ (.slice A102_3 ((vq l0_0 x12_1).f3).length c102_3)).setCell ⟨gb103,4,none⟩ (.slice A102_4 ((vq l0_0 x12_1).f4).length c102_4)).heap[gb103]? = some (.cells #[.string ((vq l0_0 x12_1).f0),.slice A102_1 ((vq l0_0 x12_1).f1).length c102_1,.slice A102_2 ((vq l0_0 x12_1).f2).length c102_2,.slice A102_3 ((vq l0_0 x12_1).f3).length c102_3,.slice A102_4 ((vq l0_0 x12_1).f4).length c102_4] 77 (0,0))) := ⟨by (with_reducible repeat (first | refine zz ?_ _ | refine zj ?_ | refine zq ?_ _));refine blk_put (cs := #[.string ((vq l0_0 x12_1).f0),.slice A102_1 ((vq l0_0 x12_1).f1).length c102_1,.slice A102_2 ((vq l0_0 x12_1).f2).length c102_2,.slice A102_3 ((vq l0_0 x12_1).f3).length c102_3,.slice none 0 0]) ?_ 4 _ rfl;(with_reducible repeat (first | refine zz ?_ _ | refine zj ?_ | refine zq ?_ _));refine blk_put (cs := #[.string ((vq l0_0 x12_1).f0),.slice A102_1 ((vq l0_0 x12_1).f1).length c102_1,.slice A102_2 ((vq l0_0 x12_1).f2).length c102_2,.slice none 0 0,.slice none 0 0]) ?_ 3 _ rfl;(with_reducible repeat (first | refine zz ?_ _ | refine zj ?_ | refine zq ?_ _));refine blk_put (cs := #[.string ((vq l0_0 x12_1).f0),.slice A102_1 ((vq l0_0 x12_1).f1).length c102_1,.slice none 0 0,.slice none 0 0,.slice none 0 0]) ?_ 2 _ rfl;(with_reducible repeat (first | refine zz ?_ _ | refine zj ?_ | refine zq ?_ _));refine blk_put (cs := #[.string ((vq l0_0 x12_1).f0),.slice none 0 0,.slice none 0 0,.slice none 0 0,.slice none 0 0]) ?_ 1 _ rfl;(with_reducible repeat (first | refine zz ?_ _ | refine zj ?_ | refine zq ?_ _));refine blk_put (cs := #[.string (⟨#[]⟩ : ByteArray),.slice none 0 0,.slice none 0 0,.slice none 0 0,.slice none 0 0]) ?_ 0 _ rfl;(with_reducible repeat (first | refine zz ?_ _ | refine zj ?_ | refine zq ?_ _));exact BK103.out⟩
               have n2_ : qq (Below w.heap.size w (((((w8.setCell ⟨gb103,0,none⟩ (.string ((vq l0_0 x12_1).f0))).setCell ⟨gb103,1,none⟩ (.slice A102_1 ((vq l0_0 x12_1).f1).length c102_1)).setCell ⟨gb103,2,none⟩ (.slice A102_2 ((vq l0_0 x12_1).f2).length c102_2)).setCell ⟨gb103,3,none⟩ (.slice A102_3 ((vq l0_0 x12_1).f3).length c102_3)).setCell ⟨gb103,4,none⟩ (.slice A102_4 ((vq l0_0 x12_1).f4).length c102_4))) := ⟨by repeat (first | (with_reducible first | exact HB.out | apply qj | apply qz | apply qk | refine qx ?_ GE101.out | refine qx ?_ GE103.out) | exact HB.out)⟩
               (try clear BK101)
               (try clear BK103)
               (try clear HB)
               generalize (((((w8.setCell ⟨gb103,0,none⟩ (.string ((vq l0_0 x12_1).f0))).setCell ⟨gb103,1,none⟩ (.slice A102_1 ((vq l0_0 x12_1).f1).length c102_1)).setCell ⟨gb103,2,none⟩ (.slice A102_2 ((vq l0_0 x12_1).f2).length c102_2)).setCell ⟨gb103,3,none⟩ (.slice A102_3 ((vq l0_0 x12_1).f3).length c102_3)).setCell ⟨gb103,4,none⟩ (.slice A102_4 ((vq l0_0 x12_1).f4).length c102_4)) = w27 at n0_ n1_ n2_ ⊢
               have BK101 := n0_
               have BK103 := n1_
               have HB := n2_
               clear n0_ n1_ n2_
               have p105 : 0 ≤ ((ji14) : Int) := of_decide_eq_true (by assumption)
               have q105 : (ji14) < (l0_0.length : Int) := of_decide_eq_true (by assumption)
               obtain ⟨ad105,A105_1,c105_1,A105_2,c105_2,A105_3,c105_3,A105_4,c105_4,e105,hx105_0,hx105_1,hx105_2,hx105_3,hx105_4,hl105_1,hi105_1,hl105_2,hi105_2,hl105_3,hi105_3,hl105_4,hi105_4⟩ := at_T77 HR0_0.out (ji14) p105 q105
               have hw105_4 := hx105_4
               have hw105_3 := hx105_3
               have hw105_2 := hx105_2
               have hw105_1 := hx105_1
               have hw105_0 := hx105_0
               obtain rfl : ad102 = ad105 := (by injection e105)
               replace hx105_0 := (HB.out.cell (World.block_lt_of_cell? w _ hx105_0)).trans hx105_0
               replace hx105_1 := (HB.out.cell (World.block_lt_of_cell? w _ hx105_1)).trans hx105_1
               replace hx105_2 := (HB.out.cell (World.block_lt_of_cell? w _ hx105_2)).trans hx105_2
               replace hx105_3 := (HB.out.cell (World.block_lt_of_cell? w _ hx105_3)).trans hx105_3
               replace hx105_4 := (HB.out.cell (World.block_lt_of_cell? w _ hx105_4)).trans hx105_4
               have HR105_1 := qq.mk hi105_1
               have HC105_1 := qq.mk hl105_1
               clear hi105_1 hl105_1
               have HR105_2 := qq.mk hi105_2
               have HC105_2 := qq.mk hl105_2
               clear hi105_2 hl105_2
               have HR105_3 := qq.mk hi105_3
               have HC105_3 := qq.mk hl105_3
               clear hi105_3 hl105_3
               have HR105_4 := qq.mk hi105_4
               have HC105_4 := qq.mk hl105_4
               clear hi105_4 hl105_4
               replace p105 := eq_true p105
               replace q105 := eq_true q105
               have hS_ := (show (fun w' => w'.cell? ⟨gb103,0,none⟩ = some (.string ((vq l0_0 x12_1).f0)) ∧ w'.cell? ⟨gb103,1,none⟩ = some (.slice A102_1 ((vq l0_0 x12_1).f1).length c102_1) ∧ w'.cell? ⟨gb103,2,none⟩ = some (.slice A102_2 ((vq l0_0 x12_1).f2).length c102_2) ∧ w'.cell? ⟨gb103,3,none⟩ = some (.slice A102_3 ((vq l0_0 x12_1).f3).length c102_3) ∧ w'.cell? ⟨gb103,4,none⟩ = some (.slice A102_4 ((vq l0_0 x12_1).f4).length c102_4) ∧ w'.cell? ⟨gb101,0,none⟩ = some (.slice (some ad102) l0_0.length c0_0) ∧ w'.cell? ⟨gb101,1,none⟩ = some (.slice A0_1 l0_1.length c0_1) ∧ w'.cell? ⟨gb101,2,none⟩ = some (.int .i64 a0_2) ∧ w'.cell? ⟨gb101,3,none⟩ = some (.int .i64 a0_3) ∧ w'.cell? (ad102.add (((ji14)).toNat * 5)) = some (.string ((vq l0_0 (ji14)).f0)) ∧ w'.cell? ⟨(ad102.add (((ji14)).toNat * 5)).block,(ad102.add (((ji14)).toNat * 5)).off + 1,none⟩ = some (.slice A105_1 ((vq l0_0 (ji14)).f1).length c105_1) ∧ w'.cell? ⟨(ad102.add (((ji14)).toNat * 5)).block,(ad102.add (((ji14)).toNat * 5)).off + 2,none⟩ = some (.slice A105_2 ((vq l0_0 (ji14)).f2).length c105_2) ∧ w'.cell? ⟨(ad102.add (((ji14)).toNat * 5)).block,(ad102.add (((ji14)).toNat * 5)).off + 3,none⟩ = some (.slice A105_3 ((vq l0_0 (ji14)).f3).length c105_3) ∧ w'.cell? ⟨(ad102.add (((ji14)).toNat * 5)).block,(ad102.add (((ji14)).toNat * 5)).off + 4,none⟩ = some (.slice A105_4 ((vq l0_0 (ji14)).f4).length c105_4)) (w27) from ⟨(qw BK103.out 0).trans rfl,(qw BK103.out 1).trans rfl,(qw BK103.out 2).trans rfl,(qw BK103.out 3).trans rfl,(qw BK103.out 4).trans rfl,(qw BK101.out 0).trans rfl,(qw BK101.out 1).trans rfl,(qw BK101.out 2).trans rfl,(qw BK101.out 3).trans rfl,((HB.out.cell (World.block_lt_of_cell? w _ hw105_0)).trans hw105_0),((HB.out.cell (World.block_lt_of_cell? w _ hw105_1)).trans hw105_1),((HB.out.cell (World.block_lt_of_cell? w _ hw105_2)).trans hw105_2),((HB.out.cell (World.block_lt_of_cell? w _ hw105_3)).trans hw105_3),((HB.out.cell (World.block_lt_of_cell? w _ hw105_4)).trans hw105_4)⟩)
               obtain ⟨hS0_,hS1_,hS2_,hS3_,hS4_,hS5_,hS6_,hS7_,hS8_,hS9_,hS10_,hS11_,hS12_,hS13_⟩ := hS_
               go_quiet ((first | (go_at_call 37;exact Calls.quiet_of ((qkj.calls k1 ((vq l0_0 x12_1).f0) true _ A11.out).mono fun _ _ h => ⟨h.1,h.2.out⟩)) | (go_at_call 38;exact Calls.quiet_of ((qjv.calls k1 ((vq l0_0 (ji14)).f0) ((vq l0_0 x12_1).f0) t106 _ A17.out).mono fun _ _ h => ⟨h.1,h.2.out⟩)) | (go_at_call 44;exact Calls.quiet_of ((qjj.calls k1 _ _ ((vq l0_0 x12_1).f3) true _ (by repeat (first | exact (Kd.C_below HR102_3.out (by repeat (first | (with_reducible first | exact HB.out | apply qj | apply qz | apply qk | refine qx ?_ GE101.out | refine qx ?_ GE103.out) | exact HB.out))) | (with_reducible refine Kd.C_alloc ?_ _) | (with_reducible refine Kd.C_drewN ?_ _) | (with_reducible refine Kd.C_drew ?_))) (by exact HC102_3.out) A25.out).mono fun _ _ h => ⟨h.1,h.2.out⟩))))
               clear hS0_ hS1_ hS2_ hS3_ hS4_ hS5_ hS6_ hS7_ hS8_ hS9_ hS10_ hS11_ hS12_ hS13_
               have n0_ := qq.mk (zz BK101.out nq)
               have n1_ := qq.mk (zz BK103.out nq)
               have n2_ := qq.mk (qz HB.out nq)
               clear BK101
               clear BK103
               clear HB
               have BK101 := n0_
               have BK103 := n1_
               have HB := n2_
               clear n0_ n1_ n2_
               replace hx105_0 : (World.drewN w27 nq).cell? _ = _ := hx105_0
               replace hx105_1 : (World.drewN w27 nq).cell? _ = _ := hx105_1
               replace hx105_2 : (World.drewN w27 nq).cell? _ = _ := hx105_2
               replace hx105_3 : (World.drewN w27 nq).cell? _ = _ := hx105_3
               replace hx105_4 : (World.drewN w27 nq).cell? _ = _ := hx105_4
               generalize World.drewN w27 nq = w28 at BK101 BK103 HB HR105_1 HR105_2 HR105_3 HR105_4 hx105_0 hx105_1 hx105_2 hx105_3 hx105_4 ⊢
               try go_wp2
               go_meet
               case rel => exact ⟨_,(decide ((((vq l0_0 x12_1).f4).length : Int) > 4)),(by first | rfl | (simp;done) | (simp [*];done)),H',⟨by have := HK1.out;first | omega | exact Nat.le_refl _⟩,⟨by (with_reducible repeat (first | refine zz ?_ _ | refine zj ?_ | refine zq ?_ _));exact BK101.out⟩,⟨by (with_reducible repeat (first | refine zz ?_ _ | refine zj ?_ | refine zq ?_ _));exact BK103.out⟩,⟨by repeat (first | (with_reducible first | exact HB.out | apply qj | apply qz | apply qk | refine qx ?_ GE101.out | refine qx ?_ GE103.out) | exact HB.out)⟩⟩
              ·replace c26 := Bool.eq_false_iff.mpr c26
               subst c26
               have H1 : (qjz.j1 k1 l0_0 (l0_0.length : Int) x12_1 true l0_0 l0_1 a0_2 a0_3 ((vq l0_0 x12_1).f0) ((vq l0_0 x12_1).f1) ((vq l0_0 x12_1).f2) ((vq l0_0 x12_1).f3) ((vq l0_0 x12_1).f4)) = some r := by rw [if_neg (show ¬ (false = true) by decide)] at H;exact H
               clear H
               have H := H1
               clear H1
               have H' := qq.mk H
               clear H
               try go_wp2
               have n0_ : qq ((((((w8.setCell ⟨gb103,0,none⟩ (.string ((vq l0_0 x12_1).f0))).setCell ⟨gb103,1,none⟩ (.slice A102_1 ((vq l0_0 x12_1).f1).length c102_1)).setCell ⟨gb103,2,none⟩ (.slice A102_2 ((vq l0_0 x12_1).f2).length c102_2)).setCell ⟨gb103,3,none⟩ (.slice A102_3 ((vq l0_0 x12_1).f3).length c102_3)).setCell ⟨gb103,4,none⟩ (.slice A102_4 ((vq l0_0 x12_1).f4).length c102_4)).heap[gb101]? = some (.cells #[.slice (some ad102) l0_0.length c0_0,.slice A0_1 l0_1.length c0_1,.int .i64 a0_2,.int .i64 a0_3] 45 (0,0))) := ⟨by (with_reducible repeat (first | refine zz ?_ _ | refine zj ?_ | refine zq ?_ _));refine blk_far ?_ NB101_103.out _;(with_reducible repeat (first | refine zz ?_ _ | refine zj ?_ | refine zq ?_ _));refine blk_far ?_ NB101_103.out _;(with_reducible repeat (first | refine zz ?_ _ | refine zj ?_ | refine zq ?_ _));refine blk_far ?_ NB101_103.out _;(with_reducible repeat (first | refine zz ?_ _ | refine zj ?_ | refine zq ?_ _));refine blk_far ?_ NB101_103.out _;(with_reducible repeat (first | refine zz ?_ _ | refine zj ?_ | refine zq ?_ _));refine blk_far ?_ NB101_103.out _;(with_reducible repeat (first | refine zz ?_ _ | refine zj ?_ | refine zq ?_ _));exact BK101.out⟩
               have n1_ : qq ((((((w8.setCell ⟨gb103,0,none⟩ (.string ((vq l0_0 x12_1).f0))).setCell ⟨gb103,1,none⟩ (.slice A102_1 ((vq l0_0 x12_1).f1).length c102_1)).setCell ⟨gb103,2,none⟩ (.slice A102_2 ((vq l0_0 x12_1).f2).length c102_2)).setCell ⟨gb103,3,none⟩ (.slice A102_3 ((vq l0_0 x12_1).f3).length c102_3)).setCell ⟨gb103,4,none⟩ (.slice A102_4 ((vq l0_0 x12_1).f4).length c102_4)).heap[gb103]? = some (.cells #[.string ((vq l0_0 x12_1).f0),.slice A102_1 ((vq l0_0 x12_1).f1).length c102_1,.slice A102_2 ((vq l0_0 x12_1).f2).length c102_2,.slice A102_3 ((vq l0_0 x12_1).f3).length c102_3,.slice A102_4 ((vq l0_0 x12_1).f4).length c102_4] 77 (0,0))) := ⟨by (with_reducible repeat (first | refine zz ?_ _ | refine zj ?_ | refine zq ?_ _));refine blk_put (cs := #[.string ((vq l0_0 x12_1).f0),.slice A102_1 ((vq l0_0 x12_1).f1).length c102_1,.slice A102_2 ((vq l0_0 x12_1).f2).length c102_2,.slice A102_3 ((vq l0_0 x12_1).f3).length c102_3,.slice none 0 0]) ?_ 4 _ rfl;(with_reducible repeat (first | refine zz ?_ _ | refine zj ?_ | refine zq ?_ _));refine blk_put (cs := #[.string ((vq l0_0 x12_1).f0),.slice A102_1 ((vq l0_0 x12_1).f1).length c102_1,.slice A102_2 ((vq l0_0 x12_1).f2).length c102_2,.slice none 0 0,.slice none 0 0]) ?_ 3 _ rfl;(with_reducible repeat (first | refine zz ?_ _ | refine zj ?_ | refine zq ?_ _));refine blk_put (cs := #[.string ((vq l0_0 x12_1).f0),.slice A102_1 ((vq l0_0 x12_1).f1).length c102_1,.slice none 0 0,.slice none 0 0,.slice none 0 0]) ?_ 2 _ rfl;(with_reducible repeat (first | refine zz ?_ _ | refine zj ?_ | refine zq ?_ _));refine blk_put (cs := #[.string ((vq l0_0 x12_1).f0),.slice none 0 0,.slice none 0 0,.slice none 0 0,.slice none 0 0]) ?_ 1 _ rfl;(with_reducible repeat (first | refine zz ?_ _ | refine zj ?_ | refine zq ?_ _));refine blk_put (cs := #[.string (⟨#[]⟩ : ByteArray),.slice none 0 0,.slice none 0 0,.slice none 0 0,.slice none 0 0]) ?_ 0 _ rfl;(with_reducible repeat (first | refine zz ?_ _ | refine zj ?_ | refine zq ?_ _));exact BK103.out⟩
               have n2_ : qq (Below w.heap.size w (((((w8.setCell ⟨gb103,0,none⟩ (.string ((vq l0_0 x12_1).f0))).setCell ⟨gb103,1,none⟩ (.slice A102_1 ((vq l0_0 x12_1).f1).length c102_1)).setCell ⟨gb103,2,none⟩ (.slice A102_2 ((vq l0_0 x12_1).f2).length c102_2)).setCell ⟨gb103,3,none⟩ (.slice A102_3 ((vq l0_0 x12_1).f3).length c102_3)).setCell ⟨gb103,4,none⟩ (.slice A102_4 ((vq l0_0 x12_1).f4).length c102_4))) := ⟨by repeat (first | (with_reducible first | exact HB.out | apply qj | apply qz | apply qk | refine qx ?_ GE101.out | refine qx ?_ GE103.out) | exact HB.out)⟩
               (try clear BK101)
               (try clear BK103)
               (try clear HB)
               generalize (((((w8.setCell ⟨gb103,0,none⟩ (.string ((vq l0_0 x12_1).f0))).setCell ⟨gb103,1,none⟩ (.slice A102_1 ((vq l0_0 x12_1).f1).length c102_1)).setCell ⟨gb103,2,none⟩ (.slice A102_2 ((vq l0_0 x12_1).f2).length c102_2)).setCell ⟨gb103,3,none⟩ (.slice A102_3 ((vq l0_0 x12_1).f3).length c102_3)).setCell ⟨gb103,4,none⟩ (.slice A102_4 ((vq l0_0 x12_1).f4).length c102_4)) = w29 at n0_ n1_ n2_ ⊢
               have BK101 := n0_
               have BK103 := n1_
               have HB := n2_
               clear n0_ n1_ n2_
               have p105 : 0 ≤ ((ji14) : Int) := of_decide_eq_true (by assumption)
               have q105 : (ji14) < (l0_0.length : Int) := of_decide_eq_true (by assumption)
               obtain ⟨ad105,A105_1,c105_1,A105_2,c105_2,A105_3,c105_3,A105_4,c105_4,e105,hx105_0,hx105_1,hx105_2,hx105_3,hx105_4,hl105_1,hi105_1,hl105_2,hi105_2,hl105_3,hi105_3,hl105_4,hi105_4⟩ := at_T77 HR0_0.out (ji14) p105 q105
               have hw105_4 := hx105_4
               have hw105_3 := hx105_3
               have hw105_2 := hx105_2
               have hw105_1 := hx105_1
               have hw105_0 := hx105_0
               obtain rfl : ad102 = ad105 := (by injection e105)
               replace hx105_0 := (HB.out.cell (World.block_lt_of_cell? w _ hx105_0)).trans hx105_0
               replace hx105_1 := (HB.out.cell (World.block_lt_of_cell? w _ hx105_1)).trans hx105_1
               replace hx105_2 := (HB.out.cell (World.block_lt_of_cell? w _ hx105_2)).trans hx105_2
               replace hx105_3 := (HB.out.cell (World.block_lt_of_cell? w _ hx105_3)).trans hx105_3
               replace hx105_4 := (HB.out.cell (World.block_lt_of_cell? w _ hx105_4)).trans hx105_4
               have HR105_1 := qq.mk hi105_1
               have HC105_1 := qq.mk hl105_1
               clear hi105_1 hl105_1
               have HR105_2 := qq.mk hi105_2
               have HC105_2 := qq.mk hl105_2
               clear hi105_2 hl105_2
               have HR105_3 := qq.mk hi105_3
               have HC105_3 := qq.mk hl105_3
               clear hi105_3 hl105_3
               have HR105_4 := qq.mk hi105_4
               have HC105_4 := qq.mk hl105_4
               clear hi105_4 hl105_4
               replace p105 := eq_true p105
               replace q105 := eq_true q105
               have hS_ := (show (fun w' => w'.cell? ⟨gb103,0,none⟩ = some (.string ((vq l0_0 x12_1).f0)) ∧ w'.cell? ⟨gb103,1,none⟩ = some (.slice A102_1 ((vq l0_0 x12_1).f1).length c102_1) ∧ w'.cell? ⟨gb103,2,none⟩ = some (.slice A102_2 ((vq l0_0 x12_1).f2).length c102_2) ∧ w'.cell? ⟨gb103,3,none⟩ = some (.slice A102_3 ((vq l0_0 x12_1).f3).length c102_3) ∧ w'.cell? ⟨gb103,4,none⟩ = some (.slice A102_4 ((vq l0_0 x12_1).f4).length c102_4) ∧ w'.cell? ⟨gb101,0,none⟩ = some (.slice (some ad102) l0_0.length c0_0) ∧ w'.cell? ⟨gb101,1,none⟩ = some (.slice A0_1 l0_1.length c0_1) ∧ w'.cell? ⟨gb101,2,none⟩ = some (.int .i64 a0_2) ∧ w'.cell? ⟨gb101,3,none⟩ = some (.int .i64 a0_3) ∧ w'.cell? (ad102.add (((ji14)).toNat * 5)) = some (.string ((vq l0_0 (ji14)).f0)) ∧ w'.cell? ⟨(ad102.add (((ji14)).toNat * 5)).block,(ad102.add (((ji14)).toNat * 5)).off + 1,none⟩ = some (.slice A105_1 ((vq l0_0 (ji14)).f1).length c105_1) ∧ w'.cell? ⟨(ad102.add (((ji14)).toNat * 5)).block,(ad102.add (((ji14)).toNat * 5)).off + 2,none⟩ = some (.slice A105_2 ((vq l0_0 (ji14)).f2).length c105_2) ∧ w'.cell? ⟨(ad102.add (((ji14)).toNat * 5)).block,(ad102.add (((ji14)).toNat * 5)).off + 3,none⟩ = some (.slice A105_3 ((vq l0_0 (ji14)).f3).length c105_3) ∧ w'.cell? ⟨(ad102.add (((ji14)).toNat * 5)).block,(ad102.add (((ji14)).toNat * 5)).off + 4,none⟩ = some (.slice A105_4 ((vq l0_0 (ji14)).f4).length c105_4)) (w29) from ⟨(qw BK103.out 0).trans rfl,(qw BK103.out 1).trans rfl,(qw BK103.out 2).trans rfl,(qw BK103.out 3).trans rfl,(qw BK103.out 4).trans rfl,(qw BK101.out 0).trans rfl,(qw BK101.out 1).trans rfl,(qw BK101.out 2).trans rfl,(qw BK101.out 3).trans rfl,((HB.out.cell (World.block_lt_of_cell? w _ hw105_0)).trans hw105_0),((HB.out.cell (World.block_lt_of_cell? w _ hw105_1)).trans hw105_1),((HB.out.cell (World.block_lt_of_cell? w _ hw105_2)).trans hw105_2),((HB.out.cell (World.block_lt_of_cell? w _ hw105_3)).trans hw105_3),((HB.out.cell (World.block_lt_of_cell? w _ hw105_4)).trans hw105_4)⟩)
               obtain ⟨hS0_,hS1_,hS2_,hS3_,hS4_,hS5_,hS6_,hS7_,hS8_,hS9_,hS10_,hS11_,hS12_,hS13_⟩ := hS_
               go_quiet ((first | (go_at_call 37;exact Calls.quiet_of ((qkj.calls k1 ((vq l0_0 x12_1).f0) true _ A11.out).mono fun _ _ h => ⟨h.1,h.2.out⟩)) | (go_at_call 38;exact Calls.quiet_of ((qjv.calls k1 ((vq l0_0 (ji14)).f0) ((vq l0_0 x12_1).f0) t106 _ A17.out).mono fun _ _ h => ⟨h.1,h.2.out⟩)) | (go_at_call 44;exact Calls.quiet_of ((qjj.calls k1 _ _ ((vq l0_0 x12_1).f3) false _ (by repeat (first | exact (Kd.C_below HR102_3.out (by repeat (first | (with_reducible first | exact HB.out | apply qj | apply qz | apply qk | refine qx ?_ GE101.out | refine qx ?_ GE103.out) | exact HB.out))) | (with_reducible refine Kd.C_alloc ?_ _) | (with_reducible refine Kd.C_drewN ?_ _) | (with_reducible refine Kd.C_drew ?_))) (by exact HC102_3.out) A25.out).mono fun _ _ h => ⟨h.1,h.2.out⟩))))
               clear hS0_ hS1_ hS2_ hS3_ hS4_ hS5_ hS6_ hS7_ hS8_ hS9_ hS10_ hS11_ hS12_ hS13_
               have n0_ := qq.mk (zz BK101.out nq)
               have n1_ := qq.mk (zz BK103.out nq)
               have n2_ := qq.mk (qz HB.out nq)
               clear BK101
               clear BK103
               clear HB
               have BK101 := n0_
               have BK103 := n1_
               have HB := n2_
               clear n0_ n1_ n2_
               replace hx105_0 : (World.drewN w29 nq).cell? _ = _ := hx105_0
               replace hx105_1 : (World.drewN w29 nq).cell? _ = _ := hx105_1
               replace hx105_2 : (World.drewN w29 nq).cell? _ = _ := hx105_2
               replace hx105_3 : (World.drewN w29 nq).cell? _ = _ := hx105_3
               replace hx105_4 : (World.drewN w29 nq).cell? _ = _ := hx105_4
               generalize World.drewN w29 nq = w30 at BK101 BK103 HB HR105_1 HR105_2 HR105_3 HR105_4 hx105_0 hx105_1 hx105_2 hx105_3 hx105_4 ⊢
               try go_wp2
               go_meet
               case rel => exact ⟨_,(true),(by first | rfl | (simp;done) | (simp [*];done)),H',⟨by have := HK1.out;first | omega | exact Nat.le_refl _⟩,⟨by (with_reducible repeat (first | refine zz ?_ _ | refine zj ?_ | refine zq ?_ _));exact BK101.out⟩,⟨by (with_reducible repeat (first | refine zz ?_ _ | refine zj ?_ | refine zq ?_ _));exact BK103.out⟩,⟨by repeat (first | (with_reducible first | exact HB.out | apply qj | apply qz | apply qk | refine qx ?_ GE101.out | refine qx ?_ GE103.out) | exact HB.out)⟩⟩
            ·rw [if_neg c21] at H
             have c21b0 : ((((vq l0_0 x12_1).f1).length : Int) == 0) = false := beq_eq_false_iff_ne.mpr c21
             have c21b1 : ((((vq l0_0 x12_1).f1).length : Int) != 0) = true := bne_iff_ne.mpr c21
             have c21b2 : ¬ (((vq l0_0 x12_1).f1) = []) := fun h_ => c21 (by rw [h_];rfl)
             by_cases c31 : (((vq l0_0 x12_1).f1).length : Int) = 16
             ·rw [if_pos c31] at H
              have c31b0 : ((((vq l0_0 x12_1).f1).length : Int) == 16) = true := beq_iff_eq.mpr c31
              have c31b1 : ((((vq l0_0 x12_1).f1).length : Int) != 16) = false := bne_eq_false_iff_eq.mpr c31
              clear c31
              by_cases c32 : (((vq l0_0 x12_1).f2).length : Int) > 5
              ·rw [if_pos c32] at H
               have c32b0 : decide (5 < (((vq l0_0 x12_1).f2).length : Int)) = true := decide_eq_true c32
               have c32b1 : decide (5 < ((vq l0_0 x12_1).f2).length) = true := decide_eq_true (by omega)
               clear c32
               have H' := qq.mk H
               clear H
               try go_wp2
               have n0_ : qq ((((((w8.setCell ⟨gb103,0,none⟩ (.string ((vq l0_0 x12_1).f0))).setCell ⟨gb103,1,none⟩ (.slice A102_1 ((vq l0_0 x12_1).f1).length c102_1)).setCell ⟨gb103,2,none⟩ (.slice A102_2 ((vq l0_0 x12_1).f2).length c102_2)).setCell ⟨gb103,3,none⟩ (.slice A102_3 ((vq l0_0 x12_1).f3).length c102_3)).setCell ⟨gb103,4,none⟩ (.slice A102_4 ((vq l0_0 x12_1).f4).length c102_4)).heap[gb101]? = some (.cells #[.slice (some ad102) l0_0.length c0_0,.slice A0_1 l0_1.length c0_1,.int .i64 a0_2,.int .i64 a0_3] 45 (0,0))) := ⟨by (with_reducible repeat (first | refine zz ?_ _ | refine zj ?_ | refine zq ?_ _));refine blk_far ?_ NB101_103.out _;(with_reducible repeat (first | refine zz ?_ _ | refine zj ?_ | refine zq ?_ _));refine blk_far ?_ NB101_103.out _;(with_reducible repeat (first | refine zz ?_ _ | refine zj ?_ | refine zq ?_ _));refine blk_far ?_ NB101_103.out _;(with_reducible repeat (first | refine zz ?_ _ | refine zj ?_ | refine zq ?_ _));refine blk_far ?_ NB101_103.out _;(with_reducible repeat (first | refine zz ?_ _ | refine zj ?_ | refine zq ?_ _));refine blk_far ?_ NB101_103.out _;(with_reducible repeat (first | refine zz ?_ _ | refine zj ?_ | refine zq ?_ _));exact BK101.out⟩
               have n1_ : qq ((((((w8.setCell ⟨gb103,0,none⟩ (.string ((vq l0_0 x12_1).f0))).setCell ⟨gb103,1,none⟩ (.slice A102_1 ((vq l0_0 x12_1).f1).length c102_1)).setCell ⟨gb103,2,none⟩ (.slice A102_2 ((vq l0_0 x12_1).f2).length c102_2)).setCell ⟨gb103,3,none⟩ (.slice A102_3 ((vq l0_0 x12_1).f3).length c102_3)).setCell ⟨gb103,4,none⟩ (.slice A102_4 ((vq l0_0 x12_1).f4).length c102_4)).heap[gb103]? = some (.cells #[.string ((vq l0_0 x12_1).f0),.slice A102_1 ((vq l0_0 x12_1).f1).length c102_1,.slice A102_2 ((vq l0_0 x12_1).f2).length c102_2,.slice A102_3 ((vq l0_0 x12_1).f3).length c102_3,.slice A102_4 ((vq l0_0 x12_1).f4).length c102_4] 77 (0,0))) := ⟨by (with_reducible repeat (first | refine zz ?_ _ | refine zj ?_ | refine zq ?_ _));refine blk_put (cs := #[.string ((vq l0_0 x12_1).f0),.slice A102_1 ((vq l0_0 x12_1).f1).length c102_1,.slice A102_2 ((vq l0_0 x12_1).f2).length c102_2,.slice A102_3 ((vq l0_0 x12_1).f3).length c102_3,.slice none 0 0]) ?_ 4 _ rfl;(with_reducible repeat (first | refine zz ?_ _ | refine zj ?_ | refine zq ?_ _));refine blk_put (cs := #[.string ((vq l0_0 x12_1).f0),.slice A102_1 ((vq l0_0 x12_1).f1).length c102_1,.slice A102_2 ((vq l0_0 x12_1).f2).length c102_2,.slice none 0 0,.slice none 0 0]) ?_ 3 _ rfl;(with_reducible repeat (first | refine zz ?_ _ | refine zj ?_ | refine zq ?_ _));refine blk_put (cs := #[.string ((vq l0_0 x12_1).f0),.slice A102_1 ((vq l0_0 x12_1).f1).length c102_1,.slice none 0 0,.slice none 0 0,.slice none 0 0]) ?_ 2 _ rfl;(with_reducible repeat (first | refine zz ?_ _ | refine zj ?_ | refine zq ?_ _));refine blk_put (cs := #[.string ((vq l0_0 x12_1).f0),.slice none 0 0,.slice none 0 0,.slice none 0 0,.slice none 0 0]) ?_ 1 _ rfl;(with_reducible repeat (first | refine zz ?_ _ | refine zj ?_ | refine zq ?_ _));refine blk_put (cs := #[.string (⟨#[]⟩ : ByteArray),.slice none 0 0,.slice none 0 0,.slice none 0 0,.slice none 0 0]) ?_ 0 _ rfl;(with_reducible repeat (first | refine zz ?_ _ | refine zj ?_ | refine zq ?_ _));exact BK103.out⟩
               have n2_ : qq (Below w.heap.size w (((((w8.setCell ⟨gb103,0,none⟩ (.string ((vq l0_0 x12_1).f0))).setCell ⟨gb103,1,none⟩ (.slice A102_1 ((vq l0_0 x12_1).f1).length c102_1)).setCell ⟨gb103,2,none⟩ (.slice A102_2 ((vq l0_0 x12_1).f2).length c102_2)).setCell ⟨gb103,3,none⟩ (.slice A102_3 ((vq l0_0 x12_1).f3).length c102_3)).setCell ⟨gb103,4,none⟩ (.slice A102_4 ((vq l0_0 x12_1).f4).length c102_4))) := ⟨by repeat (first | (with_reducible first | exact HB.out | apply qj | apply qz | apply qk | refine qx ?_ GE101.out | refine qx ?_ GE103.out) | exact HB.out)⟩
               (try clear BK101)
               (try clear BK103)
               (try clear HB)
               generalize (((((w8.setCell ⟨gb103,0,none⟩ (.string ((vq l0_0 x12_1).f0))).setCell ⟨gb103,1,none⟩ (.slice A102_1 ((vq l0_0 x12_1).f1).length c102_1)).setCell ⟨gb103,2,none⟩ (.slice A102_2 ((vq l0_0 x12_1).f2).length c102_2)).setCell ⟨gb103,3,none⟩ (.slice A102_3 ((vq l0_0 x12_1).f3).length c102_3)).setCell ⟨gb103,4,none⟩ (.slice A102_4 ((vq l0_0 x12_1).f4).length c102_4)) = w33 at n0_ n1_ n2_ ⊢
               have BK101 := n0_
               have BK103 := n1_
               have HB := n2_
               clear n0_ n1_ n2_
               have p105 : 0 ≤ ((ji14) : Int) := of_decide_eq_true (by assumption)
               have q105 : (ji14) < (l0_0.length : Int) := of_decide_eq_true (by assumption)
               obtain ⟨ad105,A105_1,c105_1,A105_2,c105_2,A105_3,c105_3,A105_4,c105_4,e105,hx105_0,hx105_1,hx105_2,hx105_3,hx105_4,hl105_1,hi105_1,hl105_2,hi105_2,hl105_3,hi105_3,hl105_4,hi105_4⟩ := at_T77 HR0_0.out (ji14) p105 q105
               have hw105_4 := hx105_4
               have hw105_3 := hx105_3
               have hw105_2 := hx105_2
               have hw105_1 := hx105_1
               have hw105_0 := hx105_0
               obtain rfl : ad102 = ad105 := (by injection e105)
               replace hx105_0 := (HB.out.cell (World.block_lt_of_cell? w _ hx105_0)).trans hx105_0
               replace hx105_1 := (HB.out.cell (World.block_lt_of_cell? w _ hx105_1)).trans hx105_1
               replace hx105_2 := (HB.out.cell (World.block_lt_of_cell? w _ hx105_2)).trans hx105_2
               replace hx105_3 := (HB.out.cell (World.block_lt_of_cell? w _ hx105_3)).trans hx105_3
               replace hx105_4 := (HB.out.cell (World.block_lt_of_cell? w _ hx105_4)).trans hx105_4
               have HR105_1 := qq.mk hi105_1
               have HC105_1 := qq.mk hl105_1
               clear hi105_1 hl105_1
               have HR105_2 := qq.mk hi105_2
               have HC105_2 := qq.mk hl105_2
               clear hi105_2 hl105_2
               have HR105_3 := qq.mk hi105_3
               have HC105_3 := qq.mk hl105_3
               clear hi105_3 hl105_3
               have HR105_4 := qq.mk hi105_4
               have HC105_4 := qq.mk hl105_4
               clear hi105_4 hl105_4
               replace p105 := eq_true p105
               replace q105 := eq_true q105
               have hS_ := (show (fun w' => w'.cell? ⟨gb103,0,none⟩ = some (.string ((vq l0_0 x12_1).f0)) ∧ w'.cell? ⟨gb103,1,none⟩ = some (.slice A102_1 ((vq l0_0 x12_1).f1).length c102_1) ∧ w'.cell? ⟨gb103,2,none⟩ = some (.slice A102_2 ((vq l0_0 x12_1).f2).length c102_2) ∧ w'.cell? ⟨gb103,3,none⟩ = some (.slice A102_3 ((vq l0_0 x12_1).f3).length c102_3) ∧ w'.cell? ⟨gb103,4,none⟩ = some (.slice A102_4 ((vq l0_0 x12_1).f4).length c102_4) ∧ w'.cell? ⟨gb101,0,none⟩ = some (.slice (some ad102) l0_0.length c0_0) ∧ w'.cell? ⟨gb101,1,none⟩ = some (.slice A0_1 l0_1.length c0_1) ∧ w'.cell? ⟨gb101,2,none⟩ = some (.int .i64 a0_2) ∧ w'.cell? ⟨gb101,3,none⟩ = some (.int .i64 a0_3) ∧ w'.cell? (ad102.add (((ji14)).toNat * 5)) = some (.string ((vq l0_0 (ji14)).f0)) ∧ w'.cell? ⟨(ad102.add (((ji14)).toNat * 5)).block,(ad102.add (((ji14)).toNat * 5)).off + 1,none⟩ = some (.slice A105_1 ((vq l0_0 (ji14)).f1).length c105_1) ∧ w'.cell? ⟨(ad102.add (((ji14)).toNat * 5)).block,(ad102.add (((ji14)).toNat * 5)).off + 2,none⟩ = some (.slice A105_2 ((vq l0_0 (ji14)).f2).length c105_2) ∧ w'.cell? ⟨(ad102.add (((ji14)).toNat * 5)).block,(ad102.add (((ji14)).toNat * 5)).off + 3,none⟩ = some (.slice A105_3 ((vq l0_0 (ji14)).f3).length c105_3) ∧ w'.cell? ⟨(ad102.add (((ji14)).toNat * 5)).block,(ad102.add (((ji14)).toNat * 5)).off + 4,none⟩ = some (.slice A105_4 ((vq l0_0 (ji14)).f4).length c105_4)) (w33) from ⟨(qw BK103.out 0).trans rfl,(qw BK103.out 1).trans rfl,(qw BK103.out 2).trans rfl,(qw BK103.out 3).trans rfl,(qw BK103.out 4).trans rfl,(qw BK101.out 0).trans rfl,(qw BK101.out 1).trans rfl,(qw BK101.out 2).trans rfl,(qw BK101.out 3).trans rfl,((HB.out.cell (World.block_lt_of_cell? w _ hw105_0)).trans hw105_0),((HB.out.cell (World.block_lt_of_cell? w _ hw105_1)).trans hw105_1),((HB.out.cell (World.block_lt_of_cell? w _ hw105_2)).trans hw105_2),((HB.out.cell (World.block_lt_of_cell? w _ hw105_3)).trans hw105_3),((HB.out.cell (World.block_lt_of_cell? w _ hw105_4)).trans hw105_4)⟩)
               obtain ⟨hS0_,hS1_,hS2_,hS3_,hS4_,hS5_,hS6_,hS7_,hS8_,hS9_,hS10_,hS11_,hS12_,hS13_⟩ := hS_
               go_quiet ((first | (go_at_call 37;exact Calls.quiet_of ((qkj.calls k1 ((vq l0_0 x12_1).f0) true _ A11.out).mono fun _ _ h => ⟨h.1,h.2.out⟩)) | (go_at_call 38;exact Calls.quiet_of ((qjv.calls k1 ((vq l0_0 (ji14)).f0) ((vq l0_0 x12_1).f0) t106 _ A17.out).mono fun _ _ h => ⟨h.1,h.2.out⟩))))
               clear hS0_ hS1_ hS2_ hS3_ hS4_ hS5_ hS6_ hS7_ hS8_ hS9_ hS10_ hS11_ hS12_ hS13_
               have n0_ := qq.mk (zz BK101.out nq)
               have n1_ := qq.mk (zz BK103.out nq)
               have n2_ := qq.mk (qz HB.out nq)
               clear BK101
               clear BK103
               clear HB
               have BK101 := n0_
               have BK103 := n1_
               have HB := n2_
               clear n0_ n1_ n2_
               replace hx105_0 : (World.drewN w33 nq).cell? _ = _ := hx105_0
               replace hx105_1 : (World.drewN w33 nq).cell? _ = _ := hx105_1
               replace hx105_2 : (World.drewN w33 nq).cell? _ = _ := hx105_2
               replace hx105_3 : (World.drewN w33 nq).cell? _ = _ := hx105_3
               replace hx105_4 : (World.drewN w33 nq).cell? _ = _ := hx105_4
               generalize World.drewN w33 nq = w34 at BK101 BK103 HB HR105_1 HR105_2 HR105_3 HR105_4 hx105_0 hx105_1 hx105_2 hx105_3 hx105_4 ⊢
               try go_wp2
               go_meet
               case rel => exact ⟨_,(true),(by first | rfl | (simp;done) | (simp [*];done)),H',⟨by have := HK1.out;first | omega | exact Nat.le_refl _⟩,⟨by (with_reducible repeat (first | refine zz ?_ _ | refine zj ?_ | refine zq ?_ _));exact BK101.out⟩,⟨by (with_reducible repeat (first | refine zz ?_ _ | refine zj ?_ | refine zq ?_ _));exact BK103.out⟩,⟨by repeat (first | (with_reducible first | exact HB.out | apply qj | apply qz | apply qk | refine qx ?_ GE101.out | refine qx ?_ GE103.out) | exact HB.out)⟩⟩
              ·rw [if_neg c32] at H
               have c32b0 : decide (5 < (((vq l0_0 x12_1).f2).length : Int)) = false := decide_eq_false c32
               have c32b1 : decide (5 < ((vq l0_0 x12_1).f2).length) = false := decide_eq_false (by omega)
               clear c32
               replace H := Option.bind_eq_some_iff.mp H
               obtain ⟨t108,A350,H⟩ := H
               replace H : (if t108 = true then (qjz.j1 k1 l0_0 (l0_0.length : Int) x12_1 (decide ((((vq l0_0 x12_1).f4).length : Int) > 4)) l0_0 l0_1 a0_2 a0_3 ((vq l0_0 x12_1).f0) ((vq l0_0 x12_1).f1) ((vq l0_0 x12_1).f2) ((vq l0_0 x12_1).f3) ((vq l0_0 x12_1).f4)) else (qjz.j1 k1 l0_0 (l0_0.length : Int) x12_1 true l0_0 l0_1 a0_2 a0_3 ((vq l0_0 x12_1).f0) ((vq l0_0 x12_1).f1) ((vq l0_0 x12_1).f2) ((vq l0_0 x12_1).f3) ((vq l0_0 x12_1).f4))) = some r := H
               have A35 := qq.mk A350
               clear A350
               by_cases c36 : t108 = true
               ·subst c36
                have H1 : (qjz.j1 k1 l0_0 (l0_0.length : Int) x12_1 (decide ((((vq l0_0 x12_1).f4).length : Int) > 4)) l0_0 l0_1 a0_2 a0_3 ((vq l0_0 x12_1).f0) ((vq l0_0 x12_1).f1) ((vq l0_0 x12_1).f2) ((vq l0_0 x12_1).f3) ((vq l0_0 x12_1).f4)) = some r := by rw [if_pos rfl] at H;exact H
                clear H
                have H := H1
                clear H1
                have H' := qq.mk H
                clear H
                try go_wp2
                have n0_ : qq ((((((w8.setCell ⟨gb103,0,none⟩ (.string ((vq l0_0 x12_1).f0))).setCell ⟨gb103,1,none⟩ (.slice A102_1 ((vq l0_0 x12_1).f1).length c102_1)).setCell ⟨gb103,2,none⟩ (.slice A102_2 ((vq l0_0 x12_1).f2).length c102_2)).setCell ⟨gb103,3,none⟩ (.slice A102_3 ((vq l0_0 x12_1).f3).length c102_3)).setCell ⟨gb103,4,none⟩ (.slice A102_4 ((vq l0_0 x12_1).f4).length c102_4)).heap[gb101]? = some (.cells #[.slice (some ad102) l0_0.length c0_0,.slice A0_1 l0_1.length c0_1,.int .i64 a0_2,.int .i64 a0_3] 45 (0,0))) := ⟨by (with_reducible repeat (first | refine zz ?_ _ | refine zj ?_ | refine zq ?_ _));refine blk_far ?_ NB101_103.out _;(with_reducible repeat (first | refine zz ?_ _ | refine zj ?_ | refine zq ?_ _));refine blk_far ?_ NB101_103.out _;(with_reducible repeat (first | refine zz ?_ _ | refine zj ?_ | refine zq ?_ _));refine blk_far ?_ NB101_103.out _;(with_reducible repeat (first | refine zz ?_ _ | refine zj ?_ | refine zq ?_ _));refine blk_far ?_ NB101_103.out _;(with_reducible repeat (first | refine zz ?_ _ | refine zj ?_ | refine zq ?_ _));refine blk_far ?_ NB101_103.out _;(with_reducible repeat (first | refine zz ?_ _ | refine zj ?_ | refine zq ?_ _));exact BK101.out⟩
                have n1_ : qq ((((((w8.setCell ⟨gb103,0,none⟩ (.string ((vq l0_0 x12_1).f0))).setCell ⟨gb103,1,none⟩ (.slice A102_1 ((vq l0_0 x12_1).f1).length c102_1)).setCell ⟨gb103,2,none⟩ (.slice A102_2 ((vq l0_0 x12_1).f2).length c102_2)).setCell ⟨gb103,3,none⟩ (.slice A102_3 ((vq l0_0 x12_1).f3).length c102_3)).setCell ⟨gb103,4,none⟩ (.slice A102_4 ((vq l0_0 x12_1).f4).length c102_4)).heap[gb103]? = some (.cells #[.string ((vq l0_0 x12_1).f0),.slice A102_1 ((vq l0_0 x12_1).f1).length c102_1,.slice A102_2 ((vq l0_0 x12_1).f2).length c102_2,.slice A102_3 ((vq l0_0 x12_1).f3).length c102_3,.slice A102_4 ((vq l0_0 x12_1).f4).length c102_4] 77 (0,0))) := ⟨by (with_reducible repeat (first | refine zz ?_ _ | refine zj ?_ | refine zq ?_ _));refine blk_put (cs := #[.string ((vq l0_0 x12_1).f0),.slice A102_1 ((vq l0_0 x12_1).f1).length c102_1,.slice A102_2 ((vq l0_0 x12_1).f2).length c102_2,.slice A102_3 ((vq l0_0 x12_1).f3).length c102_3,.slice none 0 0]) ?_ 4 _ rfl;(with_reducible repeat (first | refine zz ?_ _ | refine zj ?_ | refine zq ?_ _));refine blk_put (cs := #[.string ((vq l0_0 x12_1).f0),.slice A102_1 ((vq l0_0 x12_1).f1).length c102_1,.slice A102_2 ((vq l0_0 x12_1).f2).length c102_2,.slice none 0 0,.slice none 0 0]) ?_ 3 _ rfl;(with_reducible repeat (first | refine zz ?_ _ | refine zj ?_ | refine zq ?_ _));refine blk_put (cs := #[.string ((vq l0_0 x12_1).f0),.slice A102_1 ((vq l0_0 x12_1).f1).length c102_1,.slice none 0 0,.slice none 0 0,.slice none 0 0]) ?_ 2 _ rfl;(with_reducible repeat (first | refine zz ?_ _ | refine zj ?_ | refine zq ?_ _));refine blk_put (cs := #[.string ((vq l0_0 x12_1).f0),.slice none 0 0,.slice none 0 0,.slice none 0 0,.slice none 0 0]) ?_ 1 _ rfl;(with_reducible repeat (first | refine zz ?_ _ | refine zj ?_ | refine zq ?_ _));refine blk_put (cs := #[.string (⟨#[]⟩ : ByteArray),.slice none 0 0,.slice none 0 0,.slice none 0 0,.slice none 0 0]) ?_ 0 _ rfl;(with_reducible repeat (first | refine zz ?_ _ | refine zj ?_ | refine zq ?_ _));exact BK103.out⟩
                have n2_ : qq (Below w.heap.size w (((((w8.setCell ⟨gb103,0,none⟩ (.string ((vq l0_0 x12_1).f0))).setCell ⟨gb103,1,none⟩ (.slice A102_1 ((vq l0_0 x12_1).f1).length c102_1)).setCell ⟨gb103,2,none⟩ (.slice A102_2 ((vq l0_0 x12_1).f2).length c102_2)).setCell ⟨gb103,3,none⟩ (.slice A102_3 ((vq l0_0 x12_1).f3).length c102_3)).setCell ⟨gb103,4,none⟩ (.slice A102_4 ((vq l0_0 x12_1).f4).length c102_4))) := ⟨by repeat (first | (with_reducible first | exact HB.out | apply qj | apply qz | apply qk | refine qx ?_ GE101.out | refine qx ?_ GE103.out) | exact HB.out)⟩
                (try clear BK101)
                (try clear BK103)
                (try clear HB)
                generalize (((((w8.setCell ⟨gb103,0,none⟩ (.string ((vq l0_0 x12_1).f0))).setCell ⟨gb103,1,none⟩ (.slice A102_1 ((vq l0_0 x12_1).f1).length c102_1)).setCell ⟨gb103,2,none⟩ (.slice A102_2 ((vq l0_0 x12_1).f2).length c102_2)).setCell ⟨gb103,3,none⟩ (.slice A102_3 ((vq l0_0 x12_1).f3).length c102_3)).setCell ⟨gb103,4,none⟩ (.slice A102_4 ((vq l0_0 x12_1).f4).length c102_4)) = w37 at n0_ n1_ n2_ ⊢
                have BK101 := n0_
                have BK103 := n1_
                have HB := n2_
                clear n0_ n1_ n2_
                have p105 : 0 ≤ ((ji14) : Int) := of_decide_eq_true (by assumption)
                have q105 : (ji14) < (l0_0.length : Int) := of_decide_eq_true (by assumption)
                obtain ⟨ad105,A105_1,c105_1,A105_2,c105_2,A105_3,c105_3,A105_4,c105_4,e105,hx105_0,hx105_1,hx105_2,hx105_3,hx105_4,hl105_1,hi105_1,hl105_2,hi105_2,hl105_3,hi105_3,hl105_4,hi105_4⟩ := at_T77 HR0_0.out (ji14) p105 q105
                have hw105_4 := hx105_4
                have hw105_3 := hx105_3
                have hw105_2 := hx105_2
                have hw105_1 := hx105_1
                have hw105_0 := hx105_0
                obtain rfl : ad102 = ad105 := (by injection e105)
                replace hx105_0 := (HB.out.cell (World.block_lt_of_cell? w _ hx105_0)).trans hx105_0
                replace hx105_1 := (HB.out.cell (World.block_lt_of_cell? w _ hx105_1)).trans hx105_1
                replace hx105_2 := (HB.out.cell (World.block_lt_of_cell? w _ hx105_2)).trans hx105_2
                replace hx105_3 := (HB.out.cell (World.block_lt_of_cell? w _ hx105_3)).trans hx105_3
                replace hx105_4 := (HB.out.cell (World.block_lt_of_cell? w _ hx105_4)).trans hx105_4
                have HR105_1 := qq.mk hi105_1
                have HC105_1 := qq.mk hl105_1
                clear hi105_1 hl105_1
                have HR105_2 := qq.mk hi105_2
                have HC105_2 := qq.mk hl105_2
                clear hi105_2 hl105_2
                have HR105_3 := qq.mk hi105_3
                have HC105_3 := qq.mk hl105_3
                clear hi105_3 hl105_3
                have HR105_4 := qq.mk hi105_4
                have HC105_4 := qq.mk hl105_4
                clear hi105_4 hl105_4
                replace p105 := eq_true p105
                replace q105 := eq_true q105
                have hS_ := (show (fun w' => w'.cell? ⟨gb103,0,none⟩ = some (.string ((vq l0_0 x12_1).f0)) ∧ w'.cell? ⟨gb103,1,none⟩ = some (.slice A102_1 ((vq l0_0 x12_1).f1).length c102_1) ∧ w'.cell? ⟨gb103,2,none⟩ = some (.slice A102_2 ((vq l0_0 x12_1).f2).length c102_2) ∧ w'.cell? ⟨gb103,3,none⟩ = some (.slice A102_3 ((vq l0_0 x12_1).f3).length c102_3) ∧ w'.cell? ⟨gb103,4,none⟩ = some (.slice A102_4 ((vq l0_0 x12_1).f4).length c102_4) ∧ w'.cell? ⟨gb101,0,none⟩ = some (.slice (some ad102) l0_0.length c0_0) ∧ w'.cell? ⟨gb101,1,none⟩ = some (.slice A0_1 l0_1.length c0_1) ∧ w'.cell? ⟨gb101,2,none⟩ = some (.int .i64 a0_2) ∧ w'.cell? ⟨gb101,3,none⟩ = some (.int .i64 a0_3) ∧ w'.cell? (ad102.add (((ji14)).toNat * 5)) = some (.string ((vq l0_0 (ji14)).f0)) ∧ w'.cell? ⟨(ad102.add (((ji14)).toNat * 5)).block,(ad102.add (((ji14)).toNat * 5)).off + 1,none⟩ = some (.slice A105_1 ((vq l0_0 (ji14)).f1).length c105_1) ∧ w'.cell? ⟨(ad102.add (((ji14)).toNat * 5)).block,(ad102.add (((ji14)).toNat * 5)).off + 2,none⟩ = some (.slice A105_2 ((vq l0_0 (ji14)).f2).length c105_2) ∧ w'.cell? ⟨(ad102.add (((ji14)).toNat * 5)).block,(ad102.add (((ji14)).toNat * 5)).off + 3,none⟩ = some (.slice A105_3 ((vq l0_0 (ji14)).f3).length c105_3) ∧ w'.cell? ⟨(ad102.add (((ji14)).toNat * 5)).block,(ad102.add (((ji14)).toNat * 5)).off + 4,none⟩ = some (.slice A105_4 ((vq l0_0 (ji14)).f4).length c105_4)) (w37) from ⟨(qw BK103.out 0).trans rfl,(qw BK103.out 1).trans rfl,(qw BK103.out 2).trans rfl,(qw BK103.out 3).trans rfl,(qw BK103.out 4).trans rfl,(qw BK101.out 0).trans rfl,(qw BK101.out 1).trans rfl,(qw BK101.out 2).trans rfl,(qw BK101.out 3).trans rfl,((HB.out.cell (World.block_lt_of_cell? w _ hw105_0)).trans hw105_0),((HB.out.cell (World.block_lt_of_cell? w _ hw105_1)).trans hw105_1),((HB.out.cell (World.block_lt_of_cell? w _ hw105_2)).trans hw105_2),((HB.out.cell (World.block_lt_of_cell? w _ hw105_3)).trans hw105_3),((HB.out.cell (World.block_lt_of_cell? w _ hw105_4)).trans hw105_4)⟩)
                obtain ⟨hS0_,hS1_,hS2_,hS3_,hS4_,hS5_,hS6_,hS7_,hS8_,hS9_,hS10_,hS11_,hS12_,hS13_⟩ := hS_
                go_quiet ((first | (go_at_call 37;exact Calls.quiet_of ((qkj.calls k1 ((vq l0_0 x12_1).f0) true _ A11.out).mono fun _ _ h => ⟨h.1,h.2.out⟩)) | (go_at_call 38;exact Calls.quiet_of ((qjv.calls k1 ((vq l0_0 (ji14)).f0) ((vq l0_0 x12_1).f0) t106 _ A17.out).mono fun _ _ h => ⟨h.1,h.2.out⟩)) | (go_at_call 44;exact Calls.quiet_of ((qjj.calls k1 _ _ ((vq l0_0 x12_1).f3) true _ (by repeat (first | exact (Kd.C_below HR102_3.out (by repeat (first | (with_reducible first | exact HB.out | apply qj | apply qz | apply qk | refine qx ?_ GE101.out | refine qx ?_ GE103.out) | exact HB.out))) | (with_reducible refine Kd.C_alloc ?_ _) | (with_reducible refine Kd.C_drewN ?_ _) | (with_reducible refine Kd.C_drew ?_))) (by exact HC102_3.out) A35.out).mono fun _ _ h => ⟨h.1,h.2.out⟩))))
                clear hS0_ hS1_ hS2_ hS3_ hS4_ hS5_ hS6_ hS7_ hS8_ hS9_ hS10_ hS11_ hS12_ hS13_
                have n0_ := qq.mk (zz BK101.out nq)
                have n1_ := qq.mk (zz BK103.out nq)
                have n2_ := qq.mk (qz HB.out nq)
                clear BK101
                clear BK103
                clear HB
                have BK101 := n0_
                have BK103 := n1_
                have HB := n2_
                clear n0_ n1_ n2_
                replace hx105_0 : (World.drewN w37 nq).cell? _ = _ := hx105_0
                replace hx105_1 : (World.drewN w37 nq).cell? _ = _ := hx105_1
                replace hx105_2 : (World.drewN w37 nq).cell? _ = _ := hx105_2
                replace hx105_3 : (World.drewN w37 nq).cell? _ = _ := hx105_3
                replace hx105_4 : (World.drewN w37 nq).cell? _ = _ := hx105_4
                generalize World.drewN w37 nq = w38 at BK101 BK103 HB HR105_1 HR105_2 HR105_3 HR105_4 hx105_0 hx105_1 hx105_2 hx105_3 hx105_4 ⊢
                try go_wp2
                go_meet
                case rel => exact ⟨_,(decide ((((vq l0_0 x12_1).f4).length : Int) > 4)),(by first | rfl | (simp;done) | (simp [*];done)),H',⟨by have := HK1.out;first | omega | exact Nat.le_refl _⟩,⟨by (with_reducible repeat (first | refine zz ?_ _ | refine zj ?_ | refine zq ?_ _));exact BK101.out⟩,⟨by (with_reducible repeat (first | refine zz ?_ _ | refine zj ?_ | refine zq ?_ _));exact BK103.out⟩,⟨by repeat (first | (with_reducible first | exact HB.out | apply qj | apply qz | apply qk | refine qx ?_ GE101.out | refine qx ?_ GE103.out) | exact HB.out)⟩⟩
               ·replace c36 := Bool.eq_false_iff.mpr c36
                subst c36
                have H1 : (qjz.j1 k1 l0_0 (l0_0.length : Int) x12_1 true l0_0 l0_1 a0_2 a0_3 ((vq l0_0 x12_1).f0) ((vq l0_0 x12_1).f1) ((vq l0_0 x12_1).f2) ((vq l0_0 x12_1).f3) ((vq l0_0 x12_1).f4)) = some r := by rw [if_neg (show ¬ (false = true) by decide)] at H;exact H
                clear H
                have H := H1
                clear H1
                have H' := qq.mk H
                clear H
                try go_wp2
                have n0_ : qq ((((((w8.setCell ⟨gb103,0,none⟩ (.string ((vq l0_0 x12_1).f0))).setCell ⟨gb103,1,none⟩ (.slice A102_1 ((vq l0_0 x12_1).f1).length c102_1)).setCell ⟨gb103,2,none⟩ (.slice A102_2 ((vq l0_0 x12_1).f2).length c102_2)).setCell ⟨gb103,3,none⟩ (.slice A102_3 ((vq l0_0 x12_1).f3).length c102_3)).setCell ⟨gb103,4,none⟩ (.slice A102_4 ((vq l0_0 x12_1).f4).length c102_4)).heap[gb101]? = some (.cells #[.slice (some ad102) l0_0.length c0_0,.slice A0_1 l0_1.length c0_1,.int .i64 a0_2,.int .i64 a0_3] 45 (0,0))) := ⟨by (with_reducible repeat (first | refine zz ?_ _ | refine zj ?_ | refine zq ?_ _));refine blk_far ?_ NB101_103.out _;(with_reducible repeat (first | refine zz ?_ _ | refine zj ?_ | refine zq ?_ _));refine blk_far ?_ NB101_103.out _;(with_reducible repeat (first | refine zz ?_ _ | refine zj ?_ | refine zq ?_ _));refine blk_far ?_ NB101_103.out _;(with_reducible repeat (first | refine zz ?_ _ | refine zj ?_ | refine zq ?_ _));refine blk_far ?_ NB101_103.out _;(with_reducible repeat (first | refine zz ?_ _ | refine zj ?_ | refine zq ?_ _));refine blk_far ?_ NB101_103.out _;(with_reducible repeat (first | refine zz ?_ _ | refine zj ?_ | refine zq ?_ _));exact BK101.out⟩
                have n1_ : qq ((((((w8.setCell ⟨gb103,0,none⟩ (.string ((vq l0_0 x12_1).f0))).setCell ⟨gb103,1,none⟩ (.slice A102_1 ((vq l0_0 x12_1).f1).length c102_1)).setCell ⟨gb103,2,none⟩ (.slice A102_2 ((vq l0_0 x12_1).f2).length c102_2)).setCell ⟨gb103,3,none⟩ (.slice A102_3 ((vq l0_0 x12_1).f3).length c102_3)).setCell ⟨gb103,4,none⟩ (.slice A102_4 ((vq l0_0 x12_1).f4).length c102_4)).heap[gb103]? = some (.cells #[.string ((vq l0_0 x12_1).f0),.slice A102_1 ((vq l0_0 x12_1).f1).length c102_1,.slice A102_2 ((vq l0_0 x12_1).f2).length c102_2,.slice A102_3 ((vq l0_0 x12_1).f3).length c102_3,.slice A102_4 ((vq l0_0 x12_1).f4).length c102_4] 77 (0,0))) := ⟨by (with_reducible repeat (first | refine zz ?_ _ | refine zj ?_ | refine zq ?_ _));refine blk_put (cs := #[.string ((vq l0_0 x12_1).f0),.slice A102_1 ((vq l0_0 x12_1).f1).length c102_1,.slice A102_2 ((vq l0_0 x12_1).f2).length c102_2,.slice A102_3 ((vq l0_0 x12_1).f3).length c102_3,.slice none 0 0]) ?_ 4 _ rfl;(with_reducible repeat (first | refine zz ?_ _ | refine zj ?_ | refine zq ?_ _));refine blk_put (cs := #[.string ((vq l0_0 x12_1).f0),.slice A102_1 ((vq l0_0 x12_1).f1).length c102_1,.slice A102_2 ((vq l0_0 x12_1).f2).length c102_2,.slice none 0 0,.slice none 0 0]) ?_ 3 _ rfl;(with_reducible repeat (first | refine zz ?_ _ | refine zj ?_ | refine zq ?_ _));refine blk_put (cs := #[.string ((vq l0_0 x12_1).f0),.slice A102_1 ((vq l0_0 x12_1).f1).length c102_1,.slice none 0 0,.slice none 0 0,.slice none 0 0]) ?_ 2 _ rfl;(with_reducible repeat (first | refine zz ?_ _ | refine zj ?_ | refine zq ?_ _));refine blk_put (cs := #[.string ((vq l0_0 x12_1).f0),.slice none 0 0,.slice none 0 0,.slice none 0 0,.slice none 0 0]) ?_ 1 _ rfl;(with_reducible repeat (first | refine zz ?_ _ | refine zj ?_ | refine zq ?_ _));refine blk_put (cs := #[.string (⟨#[]⟩ : ByteArray),.slice none 0 0,.slice none 0 0,.slice none 0 0,.slice none 0 0]) ?_ 0 _ rfl;(with_reducible repeat (first | refine zz ?_ _ | refine zj ?_ | refine zq ?_ _));exact BK103.out⟩
                have n2_ : qq (Below w.heap.size w (((((w8.setCell ⟨gb103,0,none⟩ (.string ((vq l0_0 x12_1).f0))).setCell ⟨gb103,1,none⟩ (.slice A102_1 ((vq l0_0 x12_1).f1).length c102_1)).setCell ⟨gb103,2,none⟩ (.slice A102_2 ((vq l0_0 x12_1).f2).length c102_2)).setCell ⟨gb103,3,none⟩ (.slice A102_3 ((vq l0_0 x12_1).f3).length c102_3)).setCell ⟨gb103,4,none⟩ (.slice A102_4 ((vq l0_0 x12_1).f4).length c102_4))) := ⟨by repeat (first | (with_reducible first | exact HB.out | apply qj | apply qz | apply qk | refine qx ?_ GE101.out | refine qx ?_ GE103.out) | exact HB.out)⟩
                (try clear BK101)
                (try clear BK103)
                (try clear HB)
                generalize (((((w8.setCell ⟨gb103,0,none⟩ (.string ((vq l0_0 x12_1).f0))).setCell ⟨gb103,1,none⟩ (.slice A102_1 ((vq l0_0 x12_1).f1).length c102_1)).setCell ⟨gb103,2,none⟩ (.slice A102_2 ((vq l0_0 x12_1).f2).length c102_2)).setCell ⟨gb103,3,none⟩ (.slice A102_3 ((vq l0_0 x12_1).f3).length c102_3)).setCell ⟨gb103,4,none⟩ (.slice A102_4 ((vq l0_0 x12_1).f4).length c102_4)) = w39 at n0_ n1_ n2_ ⊢
                have BK101 := n0_
                have BK103 := n1_
                have HB := n2_
                clear n0_ n1_ n2_
                have p105 : 0 ≤ ((ji14) : Int) := of_decide_eq_true (by assumption)
                have q105 : (ji14) < (l0_0.length : Int) := of_decide_eq_true (by assumption)
                obtain ⟨ad105,A105_1,c105_1,A105_2,c105_2,A105_3,c105_3,A105_4,c105_4,e105,hx105_0,hx105_1,hx105_2,hx105_3,hx105_4,hl105_1,hi105_1,hl105_2,hi105_2,hl105_3,hi105_3,hl105_4,hi105_4⟩ := at_T77 HR0_0.out (ji14) p105 q105
                have hw105_4 := hx105_4
                have hw105_3 := hx105_3
                have hw105_2 := hx105_2
                have hw105_1 := hx105_1
                have hw105_0 := hx105_0
                obtain rfl : ad102 = ad105 := (by injection e105)
                replace hx105_0 := (HB.out.cell (World.block_lt_of_cell? w _ hx105_0)).trans hx105_0
                replace hx105_1 := (HB.out.cell (World.block_lt_of_cell? w _ hx105_1)).trans hx105_1
                replace hx105_2 := (HB.out.cell (World.block_lt_of_cell? w _ hx105_2)).trans hx105_2
                replace hx105_3 := (HB.out.cell (World.block_lt_of_cell? w _ hx105_3)).trans hx105_3
                replace hx105_4 := (HB.out.cell (World.block_lt_of_cell? w _ hx105_4)).trans hx105_4
                have HR105_1 := qq.mk hi105_1
                have HC105_1 := qq.mk hl105_1
                clear hi105_1 hl105_1
                have HR105_2 := qq.mk hi105_2
                have HC105_2 := qq.mk hl105_2
                clear hi105_2 hl105_2
                have HR105_3 := qq.mk hi105_3
                have HC105_3 := qq.mk hl105_3
                clear hi105_3 hl105_3
                have HR105_4 := qq.mk hi105_4
                have HC105_4 := qq.mk hl105_4
                clear hi105_4 hl105_4
                replace p105 := eq_true p105
                replace q105 := eq_true q105
                have hS_ := (show (fun w' => w'.cell? ⟨gb103,0,none⟩ = some (.string ((vq l0_0 x12_1).f0)) ∧ w'.cell? ⟨gb103,1,none⟩ = some (.slice A102_1 ((vq l0_0 x12_1).f1).length c102_1) ∧ w'.cell? ⟨gb103,2,none⟩ = some (.slice A102_2 ((vq l0_0 x12_1).f2).length c102_2) ∧ w'.cell? ⟨gb103,3,none⟩ = some (.slice A102_3 ((vq l0_0 x12_1).f3).length c102_3) ∧ w'.cell? ⟨gb103,4,none⟩ = some (.slice A102_4 ((vq l0_0 x12_1).f4).length c102_4) ∧ w'.cell? ⟨gb101,0,none⟩ = some (.slice (some ad102) l0_0.length c0_0) ∧ w'.cell? ⟨gb101,1,none⟩ = some (.slice A0_1 l0_1.length c0_1) ∧ w'.cell? ⟨gb101,2,none⟩ = some (.int .i64 a0_2) ∧ w'.cell? ⟨gb101,3,none⟩ = some (.int .i64 a0_3) ∧ w'.cell? (ad102.add (((ji14)).toNat * 5)) = some (.string ((vq l0_0 (ji14)).f0)) ∧ w'.cell? ⟨(ad102.add (((ji14)).toNat * 5)).block,(ad102.add (((ji14)).toNat * 5)).off + 1,none⟩ = some (.slice A105_1 ((vq l0_0 (ji14)).f1).length c105_1) ∧ w'.cell? ⟨(ad102.add (((ji14)).toNat * 5)).block,(ad102.add (((ji14)).toNat * 5)).off + 2,none⟩ = some (.slice A105_2 ((vq l0_0 (ji14)).f2).length c105_2) ∧ w'.cell? ⟨(ad102.add (((ji14)).toNat * 5)).block,(ad102.add (((ji14)).toNat * 5)).off + 3,none⟩ = some (.slice A105_3 ((vq l0_0 (ji14)).f3).length c105_3) ∧ w'.cell? ⟨(ad102.add (((ji14)).toNat * 5)).block,(ad102.add (((ji14)).toNat * 5)).off + 4,none⟩ = some (.slice A105_4 ((vq l0_0 (ji14)).f4).length c105_4)) (w39) from ⟨(qw BK103.out 0).trans rfl,(qw BK103.out 1).trans rfl,(qw BK103.out 2).trans rfl,(qw BK103.out 3).trans rfl,(qw BK103.out 4).trans rfl,(qw BK101.out 0).trans rfl,(qw BK101.out 1).trans rfl,(qw BK101.out 2).trans rfl,(qw BK101.out 3).trans rfl,((HB.out.cell (World.block_lt_of_cell? w _ hw105_0)).trans hw105_0),((HB.out.cell (World.block_lt_of_cell? w _ hw105_1)).trans hw105_1),((HB.out.cell (World.block_lt_of_cell? w _ hw105_2)).trans hw105_2),((HB.out.cell (World.block_lt_of_cell? w _ hw105_3)).trans hw105_3),((HB.out.cell (World.block_lt_of_cell? w _ hw105_4)).trans hw105_4)⟩)
                obtain ⟨hS0_,hS1_,hS2_,hS3_,hS4_,hS5_,hS6_,hS7_,hS8_,hS9_,hS10_,hS11_,hS12_,hS13_⟩ := hS_
                go_quiet ((first | (go_at_call 37;exact Calls.quiet_of ((qkj.calls k1 ((vq l0_0 x12_1).f0) true _ A11.out).mono fun _ _ h => ⟨h.1,h.2.out⟩)) | (go_at_call 38;exact Calls.quiet_of ((qjv.calls k1 ((vq l0_0 (ji14)).f0) ((vq l0_0 x12_1).f0) t106 _ A17.out).mono fun _ _ h => ⟨h.1,h.2.out⟩)) | (go_at_call 44;exact Calls.quiet_of ((qjj.calls k1 _ _ ((vq l0_0 x12_1).f3) false _ (by repeat (first | exact (Kd.C_below HR102_3.out (by repeat (first | (with_reducible first | exact HB.out | apply qj | apply qz | apply qk | refine qx ?_ GE101.out | refine qx ?_ GE103.out) | exact HB.out))) | (with_reducible refine Kd.C_alloc ?_ _) | (with_reducible refine Kd.C_drewN ?_ _) | (with_reducible refine Kd.C_drew ?_))) (by exact HC102_3.out) A35.out).mono fun _ _ h => ⟨h.1,h.2.out⟩))))
                clear hS0_ hS1_ hS2_ hS3_ hS4_ hS5_ hS6_ hS7_ hS8_ hS9_ hS10_ hS11_ hS12_ hS13_
                have n0_ := qq.mk (zz BK101.out nq)
                have n1_ := qq.mk (zz BK103.out nq)
                have n2_ := qq.mk (qz HB.out nq)
                clear BK101
                clear BK103
                clear HB
                have BK101 := n0_
                have BK103 := n1_
                have HB := n2_
                clear n0_ n1_ n2_
                replace hx105_0 : (World.drewN w39 nq).cell? _ = _ := hx105_0
                replace hx105_1 : (World.drewN w39 nq).cell? _ = _ := hx105_1
                replace hx105_2 : (World.drewN w39 nq).cell? _ = _ := hx105_2
                replace hx105_3 : (World.drewN w39 nq).cell? _ = _ := hx105_3
                replace hx105_4 : (World.drewN w39 nq).cell? _ = _ := hx105_4
                generalize World.drewN w39 nq = w40 at BK101 BK103 HB HR105_1 HR105_2 HR105_3 HR105_4 hx105_0 hx105_1 hx105_2 hx105_3 hx105_4 ⊢
                try go_wp2
                go_meet
                case rel => exact ⟨_,(true),(by first | rfl | (simp;done) | (simp [*];done)),H',⟨by have := HK1.out;first | omega | exact Nat.le_refl _⟩,⟨by (with_reducible repeat (first | refine zz ?_ _ | refine zj ?_ | refine zq ?_ _));exact BK101.out⟩,⟨by (with_reducible repeat (first | refine zz ?_ _ | refine zj ?_ | refine zq ?_ _));exact BK103.out⟩,⟨by repeat (first | (with_reducible first | exact HB.out | apply qj | apply qz | apply qk | refine qx ?_ GE101.out | refine qx ?_ GE103.out) | exact HB.out)⟩⟩
             ·rw [if_neg c31] at H
              have c31b0 : ((((vq l0_0 x12_1).f1).length : Int) == 16) = false := beq_eq_false_iff_ne.mpr c31
              have c31b1 : ((((vq l0_0 x12_1).f1).length : Int) != 16) = true := bne_iff_ne.mpr c31
              have H' := qq.mk H
              clear H
              try go_wp2
              have n0_ : qq ((((((w8.setCell ⟨gb103,0,none⟩ (.string ((vq l0_0 x12_1).f0))).setCell ⟨gb103,1,none⟩ (.slice A102_1 ((vq l0_0 x12_1).f1).length c102_1)).setCell ⟨gb103,2,none⟩ (.slice A102_2 ((vq l0_0 x12_1).f2).length c102_2)).setCell ⟨gb103,3,none⟩ (.slice A102_3 ((vq l0_0 x12_1).f3).length c102_3)).setCell ⟨gb103,4,none⟩ (.slice A102_4 ((vq l0_0 x12_1).f4).length c102_4)).heap[gb101]? = some (.cells #[.slice (some ad102) l0_0.length c0_0,.slice A0_1 l0_1.length c0_1,.int .i64 a0_2,.int .i64 a0_3] 45 (0,0))) := ⟨by (with_reducible repeat (first | refine zz ?_ _ | refine zj ?_ | refine zq ?_ _));refine blk_far ?_ NB101_103.out _;(with_reducible repeat (first | refine zz ?_ _ | refine zj ?_ | refine zq ?_ _));refine blk_far ?_ NB101_103.out _;(with_reducible repeat (first | refine zz ?_ _ | refine zj ?_ | refine zq ?_ _));refine blk_far ?_ NB101_103.out _;(with_reducible repeat (first | refine zz ?_ _ | refine zj ?_ | refine zq ?_ _));refine blk_far ?_ NB101_103.out _;(with_reducible repeat (first | refine zz ?_ _ | refine zj ?_ | refine zq ?_ _));refine blk_far ?_ NB101_103.out _;(with_reducible repeat (first | refine zz ?_ _ | refine zj ?_ | refine zq ?_ _));exact BK101.out⟩
              have n1_ : qq ((((((w8.setCell ⟨gb103,0,none⟩ (.string ((vq l0_0 x12_1).f0))).setCell ⟨gb103,1,none⟩ (.slice A102_1 ((vq l0_0 x12_1).f1).length c102_1)).setCell ⟨gb103,2,none⟩ (.slice A102_2 ((vq l0_0 x12_1).f2).length c102_2)).setCell ⟨gb103,3,none⟩ (.slice A102_3 ((vq l0_0 x12_1).f3).length c102_3)).setCell ⟨gb103,4,none⟩ (.slice A102_4 ((vq l0_0 x12_1).f4).length c102_4)).heap[gb103]? = some (.cells #[.string ((vq l0_0 x12_1).f0),.slice A102_1 ((vq l0_0 x12_1).f1).length c102_1,.slice A102_2 ((vq l0_0 x12_1).f2).length c102_2,.slice A102_3 ((vq l0_0 x12_1).f3).length c102_3,.slice A102_4 ((vq l0_0 x12_1).f4).length c102_4] 77 (0,0))) := ⟨by (with_reducible repeat (first | refine zz ?_ _ | refine zj ?_ | refine zq ?_ _));refine blk_put (cs := #[.string ((vq l0_0 x12_1).f0),.slice A102_1 ((vq l0_0 x12_1).f1).length c102_1,.slice A102_2 ((vq l0_0 x12_1).f2).length c102_2,.slice A102_3 ((vq l0_0 x12_1).f3).length c102_3,.slice none 0 0]) ?_ 4 _ rfl;(with_reducible repeat (first | refine zz ?_ _ | refine zj ?_ | refine zq ?_ _));refine blk_put (cs := #[.string ((vq l0_0 x12_1).f0),.slice A102_1 ((vq l0_0 x12_1).f1).length c102_1,.slice A102_2 ((vq l0_0 x12_1).f2).length c102_2,.slice none 0 0,.slice none 0 0]) ?_ 3 _ rfl;(with_reducible repeat (first | refine zz ?_ _ | refine zj ?_ | refine zq ?_ _));refine blk_put (cs := #[.string ((vq l0_0 x12_1).f0),.slice A102_1 ((vq l0_0 x12_1).f1).length c102_1,.slice none 0 0,.slice none 0 0,.slice none 0 0]) ?_ 2 _ rfl;(with_reducible repeat (first | refine zz ?_ _ | refine zj ?_ | refine zq ?_ _));refine blk_put (cs := #[.string ((vq l0_0 x12_1).f0),.slice none 0 0,.slice none 0 0,.slice none 0 0,.slice none 0 0]) ?_ 1 _ rfl;(with_reducible repeat (first | refine zz ?_ _ | refine zj ?_ | refine zq ?_ _));refine blk_put (cs := #[.string (⟨#[]⟩ : ByteArray),.slice none 0 0,.slice none 0 0,.slice none 0 0,.slice none 0 0]) ?_ 0 _ rfl;(with_reducible repeat (first | refine zz ?_ _ | refine zj ?_ | refine zq ?_ _));exact BK103.out⟩
              have n2_ : qq (Below w.heap.size w (((((w8.setCell ⟨gb103,0,none⟩ (.string ((vq l0_0 x12_1).f0))).setCell ⟨gb103,1,none⟩ (.slice A102_1 ((vq l0_0 x12_1).f1).length c102_1)).setCell ⟨gb103,2,none⟩ (.slice A102_2 ((vq l0_0 x12_1).f2).length c102_2)).setCell ⟨gb103,3,none⟩ (.slice A102_3 ((vq l0_0 x12_1).f3).length c102_3)).setCell ⟨gb103,4,none⟩ (.slice A102_4 ((vq l0_0 x12_1).f4).length c102_4))) := ⟨by repeat (first | (with_reducible first | exact HB.out | apply qj | apply qz | apply qk | refine qx ?_ GE101.out | refine qx ?_ GE103.out) | exact HB.out)⟩
              (try clear BK101)
              (try clear BK103)
              (try clear HB)
              generalize (((((w8.setCell ⟨gb103,0,none⟩ (.string ((vq l0_0 x12_1).f0))).setCell ⟨gb103,1,none⟩ (.slice A102_1 ((vq l0_0 x12_1).f1).length c102_1)).setCell ⟨gb103,2,none⟩ (.slice A102_2 ((vq l0_0 x12_1).f2).length c102_2)).setCell ⟨gb103,3,none⟩ (.slice A102_3 ((vq l0_0 x12_1).f3).length c102_3)).setCell ⟨gb103,4,none⟩ (.slice A102_4 ((vq l0_0 x12_1).f4).length c102_4)) = w41 at n0_ n1_ n2_ ⊢
              have BK101 := n0_
              have BK103 := n1_
              have HB := n2_
              clear n0_ n1_ n2_
              have p105 : 0 ≤ ((ji14) : Int) := of_decide_eq_true (by assumption)
              have q105 : (ji14) < (l0_0.length : Int) := of_decide_eq_true (by assumption)
              obtain ⟨ad105,A105_1,c105_1,A105_2,c105_2,A105_3,c105_3,A105_4,c105_4,e105,hx105_0,hx105_1,hx105_2,hx105_3,hx105_4,hl105_1,hi105_1,hl105_2,hi105_2,hl105_3,hi105_3,hl105_4,hi105_4⟩ := at_T77 HR0_0.out (ji14) p105 q105
              have hw105_4 := hx105_4
              have hw105_3 := hx105_3
              have hw105_2 := hx105_2
              have hw105_1 := hx105_1
              have hw105_0 := hx105_0
              obtain rfl : ad102 = ad105 := (by injection e105)
              replace hx105_0 := (HB.out.cell (World.block_lt_of_cell? w _ hx105_0)).trans hx105_0
              replace hx105_1 := (HB.out.cell (World.block_lt_of_cell? w _ hx105_1)).trans hx105_1
              replace hx105_2 := (HB.out.cell (World.block_lt_of_cell? w _ hx105_2)).trans hx105_2
              replace hx105_3 := (HB.out.cell (World.block_lt_of_cell? w _ hx105_3)).trans hx105_3
              replace hx105_4 := (HB.out.cell (World.block_lt_of_cell? w _ hx105_4)).trans hx105_4
              have HR105_1 := qq.mk hi105_1
              have HC105_1 := qq.mk hl105_1
              clear hi105_1 hl105_1
              have HR105_2 := qq.mk hi105_2
              have HC105_2 := qq.mk hl105_2
              clear hi105_2 hl105_2
              have HR105_3 := qq.mk hi105_3
              have HC105_3 := qq.mk hl105_3
              clear hi105_3 hl105_3
              have HR105_4 := qq.mk hi105_4
              have HC105_4 := qq.mk hl105_4
              clear hi105_4 hl105_4
              replace p105 := eq_true p105
              replace q105 := eq_true q105
              have hS_ := (show (fun w' => w'.cell? ⟨gb103,0,none⟩ = some (.string ((vq l0_0 x12_1).f0)) ∧ w'.cell? ⟨gb103,1,none⟩ = some (.slice A102_1 ((vq l0_0 x12_1).f1).length c102_1) ∧ w'.cell? ⟨gb103,2,none⟩ = some (.slice A102_2 ((vq l0_0 x12_1).f2).length c102_2) ∧ w'.cell? ⟨gb103,3,none⟩ = some (.slice A102_3 ((vq l0_0 x12_1).f3).length c102_3) ∧ w'.cell? ⟨gb103,4,none⟩ = some (.slice A102_4 ((vq l0_0 x12_1).f4).length c102_4) ∧ w'.cell? ⟨gb101,0,none⟩ = some (.slice (some ad102) l0_0.length c0_0) ∧ w'.cell? ⟨gb101,1,none⟩ = some (.slice A0_1 l0_1.length c0_1) ∧ w'.cell? ⟨gb101,2,none⟩ = some (.int .i64 a0_2) ∧ w'.cell? ⟨gb101,3,none⟩ = some (.int .i64 a0_3) ∧ w'.cell? (ad102.add (((ji14)).toNat * 5)) = some (.string ((vq l0_0 (ji14)).f0)) ∧ w'.cell? ⟨(ad102.add (((ji14)).toNat * 5)).block,(ad102.add (((ji14)).toNat * 5)).off + 1,none⟩ = some (.slice A105_1 ((vq l0_0 (ji14)).f1).length c105_1) ∧ w'.cell? ⟨(ad102.add (((ji14)).toNat * 5)).block,(ad102.add (((ji14)).toNat * 5)).off + 2,none⟩ = some (.slice A105_2 ((vq l0_0 (ji14)).f2).length c105_2) ∧ w'.cell? ⟨(ad102.add (((ji14)).toNat * 5)).block,(ad102.add (((ji14)).toNat * 5)).off + 3,none⟩ = some (.slice A105_3 ((vq l0_0 (ji14)).f3).length c105_3) ∧ w'.cell? ⟨(ad102.add (((ji14)).toNat * 5)).block,(ad102.add (((ji14)).toNat * 5)).off + 4,none⟩ = some (.slice A105_4 ((vq l0_0 (ji14)).f4).length c105_4)) (w41) from ⟨(qw BK103.out 0).trans rfl,(qw BK103.out 1).trans rfl,(qw BK103.out 2).trans rfl,(qw BK103.out 3).trans rfl,(qw BK103.out 4).trans rfl,(qw BK101.out 0).trans rfl,(qw BK101.out 1).trans rfl,(qw BK101.out 2).trans rfl,(qw BK101.out 3).trans rfl,((HB.out.cell (World.block_lt_of_cell? w _ hw105_0)).trans hw105_0),((HB.out.cell (World.block_lt_of_cell? w _ hw105_1)).trans hw105_1),((HB.out.cell (World.block_lt_of_cell? w _ hw105_2)).trans hw105_2),((HB.out.cell (World.block_lt_of_cell? w _ hw105_3)).trans hw105_3),((HB.out.cell (World.block_lt_of_cell? w _ hw105_4)).trans hw105_4)⟩)
              obtain ⟨hS0_,hS1_,hS2_,hS3_,hS4_,hS5_,hS6_,hS7_,hS8_,hS9_,hS10_,hS11_,hS12_,hS13_⟩ := hS_
              go_quiet ((first | (go_at_call 37;exact Calls.quiet_of ((qkj.calls k1 ((vq l0_0 x12_1).f0) true _ A11.out).mono fun _ _ h => ⟨h.1,h.2.out⟩)) | (go_at_call 38;exact Calls.quiet_of ((qjv.calls k1 ((vq l0_0 (ji14)).f0) ((vq l0_0 x12_1).f0) t106 _ A17.out).mono fun _ _ h => ⟨h.1,h.2.out⟩))))
              clear hS0_ hS1_ hS2_ hS3_ hS4_ hS5_ hS6_ hS7_ hS8_ hS9_ hS10_ hS11_ hS12_ hS13_
              have n0_ := qq.mk (zz BK101.out nq)
              have n1_ := qq.mk (zz BK103.out nq)
              have n2_ := qq.mk (qz HB.out nq)
              clear BK101
              clear BK103
              clear HB
              have BK101 := n0_
              have BK103 := n1_
              have HB := n2_
              clear n0_ n1_ n2_
              replace hx105_0 : (World.drewN w41 nq).cell? _ = _ := hx105_0
              replace hx105_1 : (World.drewN w41 nq).cell? _ = _ := hx105_1
              replace hx105_2 : (World.drewN w41 nq).cell? _ = _ := hx105_2
              replace hx105_3 : (World.drewN w41 nq).cell? _ = _ := hx105_3
              replace hx105_4 : (World.drewN w41 nq).cell? _ = _ := hx105_4
              generalize World.drewN w41 nq = w42 at BK101 BK103 HB HR105_1 HR105_2 HR105_3 HR105_4 hx105_0 hx105_1 hx105_2 hx105_3 hx105_4 ⊢
              try go_wp2
              go_meet
              case rel => exact ⟨_,(true),(by first | rfl | (simp;done) | (simp [*];done)),H',⟨by have := HK1.out;first | omega | exact Nat.le_refl _⟩,⟨by (with_reducible repeat (first | refine zz ?_ _ | refine zj ?_ | refine zq ?_ _));exact BK101.out⟩,⟨by (with_reducible repeat (first | refine zz ?_ _ | refine zj ?_ | refine zq ?_ _));exact BK103.out⟩,⟨by repeat (first | (with_reducible first | exact HB.out | apply qj | apply qz | apply qk | refine qx ?_ GE101.out | refine qx ?_ GE103.out) | exact HB.out)⟩⟩
          ·rw [if_neg c16] at H
           exact absurd H (by simp)
         ·rw [if_neg c15] at H
          exact absurd H (by simp)
        ·rw [if_neg c13] at H
         have c13b0 : decide (0 < x12_1) = false := decide_eq_false c13
         clear c13
         (first | rw [c13b0] | (simp only [i64_w,i32_w];rw [c13b0]) | skip)
         by_cases c43 : (((vq l0_0 x12_1).f1).length : Int) = 0
         ·rw [if_pos c43] at H
          have c43b0 : ((((vq l0_0 x12_1).f1).length : Int) == 0) = true := beq_iff_eq.mpr c43
          have c43b1 : ((((vq l0_0 x12_1).f1).length : Int) != 0) = false := bne_eq_false_iff_eq.mpr c43
          clear c43
          by_cases c44 : (((vq l0_0 x12_1).f2).length : Int) > 5
          ·rw [if_pos c44] at H
           have c44b0 : decide (5 < (((vq l0_0 x12_1).f2).length : Int)) = true := decide_eq_true c44
           have c44b1 : decide (5 < ((vq l0_0 x12_1).f2).length) = true := decide_eq_true (by omega)
           clear c44
           have H' := qq.mk H
           clear H
           try go_wp2
           have n0_ : qq ((((((w8.setCell ⟨gb103,0,none⟩ (.string ((vq l0_0 x12_1).f0))).setCell ⟨gb103,1,none⟩ (.slice A102_1 ((vq l0_0 x12_1).f1).length c102_1)).setCell ⟨gb103,2,none⟩ (.slice A102_2 ((vq l0_0 x12_1).f2).length c102_2)).setCell ⟨gb103,3,none⟩ (.slice A102_3 ((vq l0_0 x12_1).f3).length c102_3)).setCell ⟨gb103,4,none⟩ (.slice A102_4 ((vq l0_0 x12_1).f4).length c102_4)).heap[gb101]? = some (.cells #[.slice (some ad102) l0_0.length c0_0,.slice A0_1 l0_1.length c0_1,.int .i64 a0_2,.int .i64 a0_3] 45 (0,0))) := ⟨by (with_reducible repeat (first | refine zz ?_ _ | refine zj ?_ | refine zq ?_ _));refine blk_far ?_ NB101_103.out _;(with_reducible repeat (first | refine zz ?_ _ | refine zj ?_ | refine zq ?_ _));refine blk_far ?_ NB101_103.out _;(with_reducible repeat (first | refine zz ?_ _ | refine zj ?_ | refine zq ?_ _));refine blk_far ?_ NB101_103.out _;(with_reducible repeat (first | refine zz ?_ _ | refine zj ?_ | refine zq ?_ _));refine blk_far ?_ NB101_103.out _;(with_reducible repeat (first | refine zz ?_ _ | refine zj ?_ | refine zq ?_ _));refine blk_far ?_ NB101_103.out _;(with_reducible repeat (first | refine zz ?_ _ | refine zj ?_ | refine zq ?_ _));exact BK101.out⟩
           have n1_ : qq ((((((w8.setCell ⟨gb103,0,none⟩ (.string ((vq l0_0 x12_1).f0))).setCell ⟨gb103,1,none⟩ (.slice A102_1 ((vq l0_0 x12_1).f1).length c102_1)).setCell ⟨gb103,2,none⟩ (.slice A102_2 ((vq l0_0 x12_1).f2).length c102_2)).setCell ⟨gb103,3,none⟩ (.slice A102_3 ((vq l0_0 x12_1).f3).length c102_3)).setCell ⟨gb103,4,none⟩ (.slice A102_4 ((vq l0_0 x12_1).f4).length c102_4)).heap[gb103]? = some (.cells #[.string ((vq l0_0 x12_1).f0),.slice A102_1 ((vq l0_0 x12_1).f1).length c102_1,.slice A102_2 ((vq l0_0 x12_1).f2).length c102_2,.slice A102_3 ((vq l0_0 x12_1).f3).length c102_3,.slice A102_4 ((vq l0_0 x12_1).f4).length c102_4] 77 (0,0))) := ⟨by (with_reducible repeat (first | refine zz ?_ _ | refine zj ?_ | refine zq ?_ _));refine blk_put (cs := #[.string ((vq l0_0 x12_1).f0),.slice A102_1 ((vq l0_0 x12_1).f1).length c102_1,.slice A102_2 ((vq l0_0 x12_1).f2).length c102_2,.slice A102_3 ((vq l0_0 x12_1).f3).length c102_3,.slice none 0 0]) ?_ 4 _ rfl;(with_reducible repeat (first | refine zz ?_ _ | refine zj ?_ | refine zq ?_ _));refine blk_put (cs := #[.string ((vq l0_0 x12_1).f0),.slice A102_1 ((vq l0_0 x12_1).f1).length c102_1,.slice A102_2 ((vq l0_0 x12_1).f2).length c102_2,.slice none 0 0,.slice none 0 0]) ?_ 3 _ rfl;(with_reducible repeat (first | refine zz ?_ _ | refine zj ?_ | refine zq ?_ _));refine blk_put (cs := #[.string ((vq l0_0 x12_1).f0),.slice A102_1 ((vq l0_0 x12_1).f1).length c102_1,.slice none 0 0,.slice none 0 0,.slice none 0 0]) ?_ 2 _ rfl;(with_reducible repeat (first | refine zz ?_ _ | refine zj ?_ | refine zq ?_ _));refine blk_put (cs := #[.string ((vq l0_0 x12_1).f0),.slice none 0 0,.slice none 0 0,.slice none 0 0,.slice none 0 0]) ?_ 1 _ rfl;(with_reducible repeat (first | refine zz ?_ _ | refine zj ?_ | refine zq ?_ _));refine blk_put (cs := #[.string (⟨#[]⟩ : ByteArray),.slice none 0 0,.slice none 0 0,.slice none 0 0,.slice none 0 0]) ?_ 0 _ rfl;(with_reducible repeat (first | refine zz ?_ _ | refine zj ?_ | refine zq ?_ _));exact BK103.out⟩
           have n2_ : qq (Below w.heap.size w (((((w8.setCell ⟨gb103,0,none⟩ (.string ((vq l0_0 x12_1).f0))).setCell ⟨gb103,1,none⟩ (.slice A102_1 ((vq l0_0 x12_1).f1).length c102_1)).setCell ⟨gb103,2,none⟩ (.slice A102_2 ((vq l0_0 x12_1).f2).length c102_2)).setCell ⟨gb103,3,none⟩ (.slice A102_3 ((vq l0_0 x12_1).f3).length c102_3)).setCell ⟨gb103,4,none⟩ (.slice A102_4 ((vq l0_0 x12_1).f4).length c102_4))) := ⟨by repeat (first | (with_reducible first | exact HB.out | apply qj | apply qz | apply qk | refine qx ?_ GE101.out | refine qx ?_ GE103.out) | exact HB.out)⟩
           (try clear BK101)
           (try clear BK103)
           (try clear HB)
           generalize (((((w8.setCell ⟨gb103,0,none⟩ (.string ((vq l0_0 x12_1).f0))).setCell ⟨gb103,1,none⟩ (.slice A102_1 ((vq l0_0 x12_1).f1).length c102_1)).setCell ⟨gb103,2,none⟩ (.slice A102_2 ((vq l0_0 x12_1).f2).length c102_2)).setCell ⟨gb103,3,none⟩ (.slice A102_3 ((vq l0_0 x12_1).f3).length c102_3)).setCell ⟨gb103,4,none⟩ (.slice A102_4 ((vq l0_0 x12_1).f4).length c102_4)) = w45 at n0_ n1_ n2_ ⊢
           have BK101 := n0_
           have BK103 := n1_
           have HB := n2_
           clear n0_ n1_ n2_
           have hS_ := (show (fun w' => w'.cell? ⟨gb103,0,none⟩ = some (.string ((vq l0_0 x12_1).f0)) ∧ w'.cell? ⟨gb103,1,none⟩ = some (.slice A102_1 ((vq l0_0 x12_1).f1).length c102_1) ∧ w'.cell? ⟨gb103,2,none⟩ = some (.slice A102_2 ((vq l0_0 x12_1).f2).length c102_2) ∧ w'.cell? ⟨gb103,3,none⟩ = some (.slice A102_3 ((vq l0_0 x12_1).f3).length c102_3) ∧ w'.cell? ⟨gb103,4,none⟩ = some (.slice A102_4 ((vq l0_0 x12_1).f4).length c102_4)) (w45) from ⟨(qw BK103.out 0).trans rfl,(qw BK103.out 1).trans rfl,(qw BK103.out 2).trans rfl,(qw BK103.out 3).trans rfl,(qw BK103.out 4).trans rfl⟩)
           obtain ⟨hS0_,hS1_,hS2_,hS3_,hS4_⟩ := hS_
           go_quiet ((first | (go_at_call 37;exact Calls.quiet_of ((qkj.calls k1 ((vq l0_0 x12_1).f0) true _ A11.out).mono fun _ _ h => ⟨h.1,h.2.out⟩))))
           clear hS0_ hS1_ hS2_ hS3_ hS4_
           have n0_ := qq.mk (zz BK101.out nq)
           have n1_ := qq.mk (zz BK103.out nq)
           have n2_ := qq.mk (qz HB.out nq)
           clear BK101
           clear BK103
           clear HB
           have BK101 := n0_
           have BK103 := n1_
           have HB := n2_
           clear n0_ n1_ n2_
           generalize World.drewN w45 nq = w46 at BK101 BK103 HB ⊢
           try go_wp2
           go_meet
           case rel => exact ⟨_,(true),(by first | rfl | (simp;done) | (simp [*];done)),H',⟨by have := HK1.out;first | omega | exact Nat.le_refl _⟩,⟨by (with_reducible repeat (first | refine zz ?_ _ | refine zj ?_ | refine zq ?_ _));exact BK101.out⟩,⟨by (with_reducible repeat (first | refine zz ?_ _ | refine zj ?_ | refine zq ?_ _));exact BK103.out⟩,⟨by repeat (first | (with_reducible first | exact HB.out | apply qj | apply qz | apply qk | refine qx ?_ GE101.out | refine qx ?_ GE103.out) | exact HB.out)⟩⟩
          ·rw [if_neg c44] at H
           have c44b0 : decide (5 < (((vq l0_0 x12_1).f2).length : Int)) = false := decide_eq_false c44
           have c44b1 : decide (5 < ((vq l0_0 x12_1).f2).length) = false := decide_eq_false (by omega)
           clear c44
           replace H := Option.bind_eq_some_iff.mp H
           obtain ⟨t109,A470,H⟩ := H
           replace H : (if t109 = true then (qjz.j1 k1 l0_0 (l0_0.length : Int) x12_1 (decide ((((vq l0_0 x12_1).f4).length : Int) > 4)) l0_0 l0_1 a0_2 a0_3 ((vq l0_0 x12_1).f0) ((vq l0_0 x12_1).f1) ((vq l0_0 x12_1).f2) ((vq l0_0 x12_1).f3) ((vq l0_0 x12_1).f4)) else (qjz.j1 k1 l0_0 (l0_0.length : Int) x12_1 true l0_0 l0_1 a0_2 a0_3 ((vq l0_0 x12_1).f0) ((vq l0_0 x12_1).f1) ((vq l0_0 x12_1).f2) ((vq l0_0 x12_1).f3) ((vq l0_0 x12_1).f4))) = some r := H
           have A47 := qq.mk A470
           clear A470
           by_cases c48 : t109 = true
           ·subst c48
            have H1 : (qjz.j1 k1 l0_0 (l0_0.length : Int) x12_1 (decide ((((vq l0_0 x12_1).f4).length : Int) > 4)) l0_0 l0_1 a0_2 a0_3 ((vq l0_0 x12_1).f0) ((vq l0_0 x12_1).f1) ((vq l0_0 x12_1).f2) ((vq l0_0 x12_1).f3) ((vq l0_0 x12_1).f4)) = some r := by rw [if_pos rfl] at H;exact H
            clear H
            have H := H1
            clear H1
            have H' := qq.mk H
            clear H
            try go_wp2
            have n0_ : qq ((((((w8.setCell ⟨gb103,0,none⟩ (.string ((vq l0_0 x12_1).f0))).setCell ⟨gb103,1,none⟩ (.slice A102_1 ((vq l0_0 x12_1).f1).length c102_1)).setCell ⟨gb103,2,none⟩ (.slice A102_2 ((vq l0_0 x12_1).f2).length c102_2)).setCell ⟨gb103,3,none⟩ (.slice A102_3 ((vq l0_0 x12_1).f3).length c102_3)).setCell ⟨gb103,4,none⟩ (.slice A102_4 ((vq l0_0 x12_1).f4).length c102_4)).heap[gb101]? = some (.cells #[.slice (some ad102) l0_0.length c0_0,.slice A0_1 l0_1.length c0_1,.int .i64 a0_2,.int .i64 a0_3] 45 (0,0))) := ⟨by (with_reducible repeat (first | refine zz ?_ _ | refine zj ?_ | refine zq ?_ _));refine blk_far ?_ NB101_103.out _;(with_reducible repeat (first | refine zz ?_ _ | refine zj ?_ | refine zq ?_ _));refine blk_far ?_ NB101_103.out _;(with_reducible repeat (first | refine zz ?_ _ | refine zj ?_ | refine zq ?_ _));refine blk_far ?_ NB101_103.out _;(with_reducible repeat (first | refine zz ?_ _ | refine zj ?_ | refine zq ?_ _));refine blk_far ?_ NB101_103.out _;(with_reducible repeat (first | refine zz ?_ _ | refine zj ?_ | refine zq ?_ _));refine blk_far ?_ NB101_103.out _;(with_reducible repeat (first | refine zz ?_ _ | refine zj ?_ | refine zq ?_ _));exact BK101.out⟩
            have n1_ : qq ((((((w8.setCell ⟨gb103,0,none⟩ (.string ((vq l0_0 x12_1).f0))).setCell ⟨gb103,1,none⟩ (.slice A102_1 ((vq l0_0 x12_1).f1).length c102_1)).setCell ⟨gb103,2,none⟩ (.slice A102_2 ((vq l0_0 x12_1).f2).length c102_2)).setCell ⟨gb103,3,none⟩ (.slice A102_3 ((vq l0_0 x12_1).f3).length c102_3)).setCell ⟨gb103,4,none⟩ (.slice A102_4 ((vq l0_0 x12_1).f4).length c102_4)).heap[gb103]? = some (.cells #[.string ((vq l0_0 x12_1).f0),.slice A102_1 ((vq l0_0 x12_1).f1).length c102_1,.slice A102_2 ((vq l0_0 x12_1).f2).length c102_2,.slice A102_3 ((vq l0_0 x12_1).f3).length c102_3,.slice A102_4 ((vq l0_0 x12_1).f4).length c102_4] 77 (0,0))) := ⟨by (with_reducible repeat (first | refine zz ?_ _ | refine zj ?_ | refine zq ?_ _));refine blk_put (cs := #[.string ((vq l0_0 x12_1).f0),.slice A102_1 ((vq l0_0 x12_1).f1).length c102_1,.slice A102_2 ((vq l0_0 x12_1).f2).length c102_2,.slice A102_3 ((vq l0_0 x12_1).f3).length c102_3,.slice none 0 0]) ?_ 4 _ rfl;(with_reducible repeat (first | refine zz ?_ _ | refine zj ?_ | refine zq ?_ _));refine blk_put (cs := #[.string ((vq l0_0 x12_1).f0),.slice A102_1 ((vq l0_0 x12_1).f1).length c102_1,.slice A102_2 ((vq l0_0 x12_1).f2).length c102_2,.slice none 0 0,.slice none 0 0]) ?_ 3 _ rfl;(with_reducible repeat (first | refine zz ?_ _ | refine zj ?_ | refine zq ?_ _));refine blk_put (cs := #[.string ((vq l0_0 x12_1).f0),.slice A102_1 ((vq l0_0 x12_1).f1).length c102_1,.slice none 0 0,.slice none 0 0,.slice none 0 0]) ?_ 2 _ rfl;(with_reducible repeat (first | refine zz ?_ _ | refine zj ?_ | refine zq ?_ _));refine blk_put (cs := #[.string ((vq l0_0 x12_1).f0),.slice none 0 0,.slice none 0 0,.slice none 0 0,.slice none 0 0]) ?_ 1 _ rfl;(with_reducible repeat (first | refine zz ?_ _ | refine zj ?_ | refine zq ?_ _));refine blk_put (cs := #[.string (⟨#[]⟩ : ByteArray),.slice none 0 0,.slice none 0 0,.slice none 0 0,.slice none 0 0]) ?_ 0 _ rfl;(with_reducible repeat (first | refine zz ?_ _ | refine zj ?_ | refine zq ?_ _));exact BK103.out⟩
            have n2_ : qq (Below w.heap.size w (((((w8.setCell ⟨gb103,0,none⟩ (.string ((vq l0_0 x12_1).f0))).setCell ⟨gb103,1,none⟩ (.slice A102_1 ((vq l0_0 x12_1).f1).length c102_1)).setCell ⟨gb103,2,none⟩ (.slice A102_2 ((vq l0_0 x12_1).f2).length c102_2)).setCell ⟨gb103,3,none⟩ (.slice A102_3 ((vq l0_0 x12_1).f3).length c102_3)).setCell ⟨gb103,4,none⟩ (.slice A102_4 ((vq l0_0 x12_1).f4).length c102_4))) := ⟨by repeat (first | (with_reducible first | exact HB.out | apply qj | apply qz | apply qk | refine qx ?_ GE101.out | refine qx ?_ GE103.out) | exact HB.out)⟩
            (try clear BK101)
            (try clear BK103)
            (try clear HB)
            generalize (((((w8.setCell ⟨gb103,0,none⟩ (.string ((vq l0_0 x12_1).f0))).setCell ⟨gb103,1,none⟩ (.slice A102_1 ((vq l0_0 x12_1).f1).length c102_1)).setCell ⟨gb103,2,none⟩ (.slice A102_2 ((vq l0_0 x12_1).f2).length c102_2)).setCell ⟨gb103,3,none⟩ (.slice A102_3 ((vq l0_0 x12_1).f3).length c102_3)).setCell ⟨gb103,4,none⟩ (.slice A102_4 ((vq l0_0 x12_1).f4).length c102_4)) = w49 at n0_ n1_ n2_ ⊢
            have BK101 := n0_
            have BK103 := n1_
            have HB := n2_
            clear n0_ n1_ n2_
            have hS_ := (show (fun w' => w'.cell? ⟨gb103,0,none⟩ = some (.string ((vq l0_0 x12_1).f0)) ∧ w'.cell? ⟨gb103,1,none⟩ = some (.slice A102_1 ((vq l0_0 x12_1).f1).length c102_1) ∧ w'.cell? ⟨gb103,2,none⟩ = some (.slice A102_2 ((vq l0_0 x12_1).f2).length c102_2) ∧ w'.cell? ⟨gb103,3,none⟩ = some (.slice A102_3 ((vq l0_0 x12_1).f3).length c102_3) ∧ w'.cell? ⟨gb103,4,none⟩ = some (.slice A102_4 ((vq l0_0 x12_1).f4).length c102_4)) (w49) from ⟨(qw BK103.out 0).trans rfl,(qw BK103.out 1).trans rfl,(qw BK103.out 2).trans rfl,(qw BK103.out 3).trans rfl,(qw BK103.out 4).trans rfl⟩)
            obtain ⟨hS0_,hS1_,hS2_,hS3_,hS4_⟩ := hS_
            go_quiet ((first | (go_at_call 37;exact Calls.quiet_of ((qkj.calls k1 ((vq l0_0 x12_1).f0) true _ A11.out).mono fun _ _ h => ⟨h.1,h.2.out⟩)) | (go_at_call 44;exact Calls.quiet_of ((qjj.calls k1 _ _ ((vq l0_0 x12_1).f3) true _ (by repeat (first | exact (Kd.C_below HR102_3.out (by repeat (first | (with_reducible first | exact HB.out | apply qj | apply qz | apply qk | refine qx ?_ GE101.out | refine qx ?_ GE103.out) | exact HB.out))) | (with_reducible refine Kd.C_alloc ?_ _) | (with_reducible refine Kd.C_drewN ?_ _) | (with_reducible refine Kd.C_drew ?_))) (by exact HC102_3.out) A47.out).mono fun _ _ h => ⟨h.1,h.2.out⟩))))
            clear hS0_ hS1_ hS2_ hS3_ hS4_
            have n0_ := qq.mk (zz BK101.out nq)
            have n1_ := qq.mk (zz BK103.out nq)
            have n2_ := qq.mk (qz HB.out nq)
            clear BK101
            clear BK103
            clear HB
            have BK101 := n0_
            have BK103 := n1_
            have HB := n2_
            clear n0_ n1_ n2_
            generalize World.drewN w49 nq = w50 at BK101 BK103 HB ⊢
            try go_wp2
            go_meet
            case rel => exact ⟨_,(decide ((((vq l0_0 x12_1).f4).length : Int) > 4)),(by first | rfl | (simp;done) | (simp [*];done)),H',⟨by have := HK1.out;first | omega | exact Nat.le_refl _⟩,⟨by (with_reducible repeat (first | refine zz ?_ _ | refine zj ?_ | refine zq ?_ _));exact BK101.out⟩,⟨by (with_reducible repeat (first | refine zz ?_ _ | refine zj ?_ | refine zq ?_ _));exact BK103.out⟩,⟨by repeat (first | (with_reducible first | exact HB.out | apply qj | apply qz | apply qk | refine qx ?_ GE101.out | refine qx ?_ GE103.out) | exact HB.out)⟩⟩
           ·replace c48 := Bool.eq_false_iff.mpr c48
            subst c48
            have H1 : (qjz.j1 k1 l0_0 (l0_0.length : Int) x12_1 true l0_0 l0_1 a0_2 a0_3 ((vq l0_0 x12_1).f0) ((vq l0_0 x12_1).f1) ((vq l0_0 x12_1).f2) ((vq l0_0 x12_1).f3) ((vq l0_0 x12_1).f4)) = some r := by rw [if_neg (show ¬ (false = true) by decide)] at H;exact H
            clear H
            have H := H1
            clear H1
            have H' := qq.mk H
            clear H
            try go_wp2
            have n0_ : qq ((((((w8.setCell ⟨gb103,0,none⟩ (.string ((vq l0_0 x12_1).f0))).setCell ⟨gb103,1,none⟩ (.slice A102_1 ((vq l0_0 x12_1).f1).length c102_1)).setCell ⟨gb103,2,none⟩ (.slice A102_2 ((vq l0_0 x12_1).f2).length c102_2)).setCell ⟨gb103,3,none⟩ (.slice A102_3 ((vq l0_0 x12_1).f3).length c102_3)).setCell ⟨gb103,4,none⟩ (.slice A102_4 ((vq l0_0 x12_1).f4).length c102_4)).heap[gb101]? = some (.cells #[.slice (some ad102) l0_0.length c0_0,.slice A0_1 l0_1.length c0_1,.int .i64 a0_2,.int .i64 a0_3] 45 (0,0))) := ⟨by (with_reducible repeat (first | refine zz ?_ _ | refine zj ?_ | refine zq ?_ _));refine blk_far ?_ NB101_103.out _;(with_reducible repeat (first | refine zz ?_ _ | refine zj ?_ | refine zq ?_ _));refine blk_far ?_ NB101_103.out _;(with_reducible repeat (first | refine zz ?_ _ | refine zj ?_ | refine zq ?_ _));refine blk_far ?_ NB101_103.out _;(with_reducible repeat (first | refine zz ?_ _ | refine zj ?_ | refine zq ?_ _));refine blk_far ?_ NB101_103.out _;(with_reducible repeat (first | refine zz ?_ _ | refine zj ?_ | refine zq ?_ _));refine blk_far ?_ NB101_103.out _;(with_reducible repeat (first | refine zz ?_ _ | refine zj ?_ | refine zq ?_ _));exact BK101.out⟩
            have n1_ : qq ((((((w8.setCell ⟨gb103,0,none⟩ (.string ((vq l0_0 x12_1).f0))).setCell ⟨gb103,1,none⟩ (.slice A102_1 ((vq l0_0 x12_1).f1).length c102_1)).setCell ⟨gb103,2,none⟩ (.slice A102_2 ((vq l0_0 x12_1).f2).length c102_2)).setCell ⟨gb103,3,none⟩ (.slice A102_3 ((vq l0_0 x12_1).f3).length c102_3)).setCell ⟨gb103,4,none⟩ (.slice A102_4 ((vq l0_0 x12_1).f4).length c102_4)).heap[gb103]? = some (.cells #[.string ((vq l0_0 x12_1).f0),.slice A102_1 ((vq l0_0 x12_1).f1).length c102_1,.slice A102_2 ((vq l0_0 x12_1).f2).length c102_2,.slice A102_3 ((vq l0_0 x12_1).f3).length c102_3,.slice A102_4 ((vq l0_0 x12_1).f4).length c102_4] 77 (0,0))) := ⟨by (with_reducible repeat (first | refine zz ?_ _ | refine zj ?_ | refine zq ?_ _));refine blk_put (cs := #[.string ((vq l0_0 x12_1).f0),.slice A102_1 ((vq l0_0 x12_1).f1).length c102_1,.slice A102_2 ((vq l0_0 x12_1).f2).length c102_2,.slice A102_3 ((vq l0_0 x12_1).f3).length c102_3,.slice none 0 0]) ?_ 4 _ rfl;(with_reducible repeat (first | refine zz ?_ _ | refine zj ?_ | refine zq ?_ _));refine blk_put (cs := #[.string ((vq l0_0 x12_1).f0),.slice A102_1 ((vq l0_0 x12_1).f1).length c102_1,.slice A102_2 ((vq l0_0 x12_1).f2).length c102_2,.slice none 0 0,.slice none 0 0]) ?_ 3 _ rfl;(with_reducible repeat (first | refine zz ?_ _ | refine zj ?_ | refine zq ?_ _));refine blk_put (cs := #[.string ((vq l0_0 x12_1).f0),.slice A102_1 ((vq l0_0 x12_1).f1).length c102_1,.slice none 0 0,.slice none 0 0,.slice none 0 0]) ?_ 2 _ rfl;(with_reducible repeat (first | refine zz ?_ _ | refine zj ?_ | refine zq ?_ _));refine blk_put (cs := #[.string ((vq l0_0 x12_1).f0),.slice none 0 0,.slice none 0 0,.slice none 0 0,.slice none 0 0]) ?_ 1 _ rfl;(with_reducible repeat (first | refine zz ?_ _ | refine zj ?_ | refine zq ?_ _));refine blk_put (cs := #[.string (⟨#[]⟩ : ByteArray),.slice none 0 0,.slice none 0 0,.slice none 0 0,.slice none 0 0]) ?_ 0 _ rfl;(with_reducible repeat (first | refine zz ?_ _ | refine zj ?_ | refine zq ?_ _));exact BK103.out⟩
            have n2_ : qq (Below w.heap.size w (((((w8.setCell ⟨gb103,0,none⟩ (.string ((vq l0_0 x12_1).f0))).setCell ⟨gb103,1,none⟩ (.slice A102_1 ((vq l0_0 x12_1).f1).length c102_1)).setCell ⟨gb103,2,none⟩ (.slice A102_2 ((vq l0_0 x12_1).f2).length c102_2)).setCell ⟨gb103,3,none⟩ (.slice A102_3 ((vq l0_0 x12_1).f3).length c102_3)).setCell ⟨gb103,4,none⟩ (.slice A102_4 ((vq l0_0 x12_1).f4).length c102_4))) := ⟨by repeat (first | (with_reducible first | exact HB.out | apply qj | apply qz | apply qk | refine qx ?_ GE101.out | refine qx ?_ GE103.out) | exact HB.out)⟩
            (try clear BK101)
            (try clear BK103)
            (try clear HB)
            generalize (((((w8.setCell ⟨gb103,0,none⟩ (.string ((vq l0_0 x12_1).f0))).setCell ⟨gb103,1,none⟩ (.slice A102_1 ((vq l0_0 x12_1).f1).length c102_1)).setCell ⟨gb103,2,none⟩ (.slice A102_2 ((vq l0_0 x12_1).f2).length c102_2)).setCell ⟨gb103,3,none⟩ (.slice A102_3 ((vq l0_0 x12_1).f3).length c102_3)).setCell ⟨gb103,4,none⟩ (.slice A102_4 ((vq l0_0 x12_1).f4).length c102_4)) = w51 at n0_ n1_ n2_ ⊢
            have BK101 := n0_
            have BK103 := n1_
            have HB := n2_
            clear n0_ n1_ n2_
            have hS_ := (show (fun w' => w'.cell? ⟨gb103,0,none⟩ = some (.string ((vq l0_0 x12_1).f0)) ∧ w'.cell? ⟨gb103,1,none⟩ = some (.slice A102_1 ((vq l0_0 x12_1).f1).length c102_1) ∧ w'.cell? ⟨gb103,2,none⟩ = some (.slice A102_2 ((vq l0_0 x12_1).f2).length c102_2) ∧ w'.cell? ⟨gb103,3,none⟩ = some (.slice A102_3 ((vq l0_0 x12_1).f3).length c102_3) ∧ w'.cell? ⟨gb103,4,none⟩ = some (.slice A102_4 ((vq l0_0 x12_1).f4).length c102_4)) (w51) from ⟨(qw BK103.out 0).trans rfl,(qw BK103.out 1).trans rfl,(qw BK103.out 2).trans rfl,(qw BK103.out 3).trans rfl,(qw BK103.out 4).trans rfl⟩)
            obtain ⟨hS0_,hS1_,hS2_,hS3_,hS4_⟩ := hS_
            go_quiet ((first | (go_at_call 37;exact Calls.quiet_of ((qkj.calls k1 ((vq l0_0 x12_1).f0) true _ A11.out).mono fun _ _ h => ⟨h.1,h.2.out⟩)) | (go_at_call 44;exact Calls.quiet_of ((qjj.calls k1 _ _ ((vq l0_0 x12_1).f3) false _ (by repeat (first | exact (Kd.C_below HR102_3.out (by repeat (first | (with_reducible first | exact HB.out | apply qj | apply qz | apply qk | refine qx ?_ GE101.out | refine qx ?_ GE103.out) | exact HB.out))) | (with_reducible refine Kd.C_alloc ?_ _) | (with_reducible refine Kd.C_drewN ?_ _) | (with_reducible refine Kd.C_drew ?_))) (by exact HC102_3.out) A47.out).mono fun _ _ h => ⟨h.1,h.2.out⟩))))
            clear hS0_ hS1_ hS2_ hS3_ hS4_
            have n0_ := qq.mk (zz BK101.out nq)
            have n1_ := qq.mk (zz BK103.out nq)
            have n2_ := qq.mk (qz HB.out nq)
            clear BK101
            clear BK103
            clear HB
            have BK101 := n0_
            have BK103 := n1_
            have HB := n2_
            clear n0_ n1_ n2_
            generalize World.drewN w51 nq = w52 at BK101 BK103 HB ⊢
            try go_wp2
            go_meet
            case rel => exact ⟨_,(true),(by first | rfl | (simp;done) | (simp [*];done)),H',⟨by have := HK1.out;first | omega | exact Nat.le_refl _⟩,⟨by (with_reducible repeat (first | refine zz ?_ _ | refine zj ?_ | refine zq ?_ _));exact BK101.out⟩,⟨by (with_reducible repeat (first | refine zz ?_ _ | refine zj ?_ | refine zq ?_ _));exact BK103.out⟩,⟨by repeat (first | (with_reducible first | exact HB.out | apply qj | apply qz | apply qk | refine qx ?_ GE101.out | refine qx ?_ GE103.out) | exact HB.out)⟩⟩
         ·rw [if_neg c43] at H
          have c43b0 : ((((vq l0_0 x12_1).f1).length : Int) == 0) = false := beq_eq_false_iff_ne.mpr c43
          have c43b1 : ((((vq l0_0 x12_1).f1).length : Int) != 0) = true := bne_iff_ne.mpr c43
          have c43b2 : ¬ (((vq l0_0 x12_1).f1) = []) := fun h_ => c43 (by rw [h_];rfl)
          by_cases c53 : (((vq l0_0 x12_1).f1).length : Int) = 16
          ·rw [if_pos c53] at H
           have c53b0 : ((((vq l0_0 x12_1).f1).length : Int) == 16) = true := beq_iff_eq.mpr c53
           have c53b1 : ((((vq l0_0 x12_1).f1).length : Int) != 16) = false := bne_eq_false_iff_eq.mpr c53
           clear c53
           by_cases c54 : (((vq l0_0 x12_1).f2).length : Int) > 5
           ·rw [if_pos c54] at H
            have c54b0 : decide (5 < (((vq l0_0 x12_1).f2).length : Int)) = true := decide_eq_true c54
            have c54b1 : decide (5 < ((vq l0_0 x12_1).f2).length) = true := decide_eq_true (by omega)
            clear c54
            have H' := qq.mk H
            clear H
            try go_wp2
            have n0_ : qq ((((((w8.setCell ⟨gb103,0,none⟩ (.string ((vq l0_0 x12_1).f0))).setCell ⟨gb103,1,none⟩ (.slice A102_1 ((vq l0_0 x12_1).f1).length c102_1)).setCell ⟨gb103,2,none⟩ (.slice A102_2 ((vq l0_0 x12_1).f2).length c102_2)).setCell ⟨gb103,3,none⟩ (.slice A102_3 ((vq l0_0 x12_1).f3).length c102_3)).setCell ⟨gb103,4,none⟩ (.slice A102_4 ((vq l0_0 x12_1).f4).length c102_4)).heap[gb101]? = some (.cells #[.slice (some ad102) l0_0.length c0_0,.slice A0_1 l0_1.length c0_1,.int .i64 a0_2,.int .i64 a0_3] 45 (0,0))) := ⟨by (with_reducible repeat (first | refine zz ?_ _ | refine zj ?_ | refine zq ?_ _));refine blk_far ?_ NB101_103.out _;(with_reducible repeat (first | refine zz ?_ _ | refine zj ?_ | refine zq ?_ _));refine blk_far ?_ NB101_103.out _;(with_reducible repeat (first | refine zz ?_ _ | refine zj ?_ | refine zq ?_ _));refine blk_far ?_ NB101_103.out _;(with_reducible repeat (first | refine zz ?_ _ | refine zj ?_ | refine zq ?_ _));refine blk_far ?_ NB101_103.out _;(with_reducible repeat (first | refine zz ?_ _ | refine zj ?_ | refine zq ?_ _));refine blk_far ?_ NB101_103.out _;(with_reducible repeat (first | refine zz ?_ _ | refine zj ?_ | refine zq ?_ _));exact BK101.out⟩
            have n1_ : qq ((((((w8.setCell ⟨gb103,0,none⟩ (.string ((vq l0_0 x12_1).f0))).setCell ⟨gb103,1,none⟩ (.slice A102_1 ((vq l0_0 x12_1).f1).length c102_1)).setCell ⟨gb103,2,none⟩ (.slice A102_2 ((vq l0_0 x12_1).f2).length c102_2)).setCell ⟨gb103,3,none⟩ (.slice A102_3 ((vq l0_0 x12_1).f3).length c102_3)).setCell ⟨gb103,4,none⟩ (.slice A102_4 ((vq l0_0 x12_1).f4).length c102_4)).heap[gb103]? = some (.cells #[.string ((vq l0_0 x12_1).f0),.slice A102_1 ((vq l0_0 x12_1).f1).length c102_1,.slice A102_2 ((vq l0_0 x12_1).f2).length c102_2,.slice A102_3 ((vq l0_0 x12_1).f3).length c102_3,.slice A102_4 ((vq l0_0 x12_1).f4).length c102_4] 77 (0,0))) := ⟨by (with_reducible repeat (first | refine zz ?_ _ | refine zj ?_ | refine zq ?_ _));refine blk_put (cs := #[.string ((vq l0_0 x12_1).f0),.slice A102_1 ((vq l0_0 x12_1).f1).length c102_1,.slice A102_2 ((vq l0_0 x12_1).f2).length c102_2,.slice A102_3 ((vq l0_0 x12_1).f3).length c102_3,.slice none 0 0]) ?_ 4 _ rfl;(with_reducible repeat (first | refine zz ?_ _ | refine zj ?_ | refine zq ?_ _));refine blk_put (cs := #[.string ((vq l0_0 x12_1).f0),.slice A102_1 ((vq l0_0 x12_1).f1).length c102_1,.slice A102_2 ((vq l0_0 x12_1).f2).length c102_2,.slice none 0 0,.slice none 0 0]) ?_ 3 _ rfl;(with_reducible repeat (first | refine zz ?_ _ | refine zj ?_ | refine zq ?_ _));refine blk_put (cs := #[.string ((vq l0_0 x12_1).f0),.slice A102_1 ((vq l0_0 x12_1).f1).length c102_1,.slice none 0 0,.slice none 0 0,.slice none 0 0]) ?_ 2 _ rfl;(with_reducible repeat (first | refine zz ?_ _ | refine zj ?_ | refine zq ?_ _));refine blk_put (cs := #[.string ((vq l0_0 x12_1).f0),.slice none 0 0,.slice none 0 0,.slice none 0 0,.slice none 0 0]) ?_ 1 _ rfl;(with_reducible repeat (first | refine zz ?_ _ | refine zj ?_ | refine zq ?_ _));refine blk_put (cs := #[.string (⟨#[]⟩ : ByteArray),.slice none 0 0,.slice none 0 0,.slice none 0 0,.slice none 0 0]) ?_ 0 _ rfl;(with_reducible repeat (first | refine zz ?_ _ | refine zj ?_ | refine zq ?_ _));exact BK103.out⟩
            have n2_ : qq (Below w.heap.size w (((((w8.setCell ⟨gb103,0,none⟩ (.string ((vq l0_0 x12_1).f0))).setCell ⟨gb103,1,none⟩ (.slice A102_1 ((vq l0_0 x12_1).f1).length c102_1)).setCell ⟨gb103,2,none⟩ (.slice A102_2 ((vq l0_0 x12_1).f2).length c102_2)).setCell ⟨gb103,3,none⟩ (.slice A102_3 ((vq l0_0 x12_1).f3).length c102_3)).setCell ⟨gb103,4,none⟩ (.slice A102_4 ((vq l0_0 x12_1).f4).length c102_4))) := ⟨by repeat (first | (with_reducible first | exact HB.out | apply qj | apply qz | apply qk | refine qx ?_ GE101.out | refine qx ?_ GE103.out) | exact HB.out)⟩
            (try clear BK101)
            (try clear BK103)
            (try clear HB)
            generalize (((((w8.setCell ⟨gb103,0,none⟩ (.string ((vq l0_0 x12_1).f0))).setCell ⟨gb103,1,none⟩ (.slice A102_1 ((vq l0_0 x12_1).f1).length c102_1)).setCell ⟨gb103,2,none⟩ (.slice A102_2 ((vq l0_0 x12_1).f2).length c102_2)).setCell ⟨gb103,3,none⟩ (.slice A102_3 ((vq l0_0 x12_1).f3).length c102_3)).setCell ⟨gb103,4,none⟩ (.slice A102_4 ((vq l0_0 x12_1).f4).length c102_4)) = w55 at n0_ n1_ n2_ ⊢
            have BK101 := n0_
            have BK103 := n1_
            have HB := n2_
            clear n0_ n1_ n2_
            have hS_ := (show (fun w' => w'.cell? ⟨gb103,0,none⟩ = some (.string ((vq l0_0 x12_1).f0)) ∧ w'.cell? ⟨gb103,1,none⟩ = some (.slice A102_1 ((vq l0_0 x12_1).f1).length c102_1) ∧ w'.cell? ⟨gb103,2,none⟩ = some (.slice A102_2 ((vq l0_0 x12_1).f2).length c102_2) ∧ w'.cell? ⟨gb103,3,none⟩ = some (.slice A102_3 ((vq l0_0 x12_1).f3).length c102_3) ∧ w'.cell? ⟨gb103,4,none⟩ = some (.slice A102_4 ((vq l0_0 x12_1).f4).length c102_4)) (w55) from ⟨(qw BK103.out 0).trans rfl,(qw BK103.out 1).trans rfl,(qw BK103.out 2).trans rfl,(qw BK103.out 3).trans rfl,(qw BK103.out 4).trans rfl⟩)
            obtain ⟨hS0_,hS1_,hS2_,hS3_,hS4_⟩ := hS_
            go_quiet ((first | (go_at_call 37;exact Calls.quiet_of ((qkj.calls k1 ((vq l0_0 x12_1).f0) true _ A11.out).mono fun _ _ h => ⟨h.1,h.2.out⟩))))
            clear hS0_ hS1_ hS2_ hS3_ hS4_
            have n0_ := qq.mk (zz BK101.out nq)
            have n1_ := qq.mk (zz BK103.out nq)
            have n2_ := qq.mk (qz HB.out nq)
            clear BK101
            clear BK103
            clear HB
            have BK101 := n0_
            have BK103 := n1_
            have HB := n2_
            clear n0_ n1_ n2_
            generalize World.drewN w55 nq = w56 at BK101 BK103 HB ⊢
            try go_wp2
            go_meet
            case rel => exact ⟨_,(true),(by first | rfl | (simp;done) | (simp [*];done)),H',⟨by have := HK1.out;first | omega | exact Nat.le_refl _⟩,⟨by (with_reducible repeat (first | refine zz ?_ _ | refine zj ?_ | refine zq ?_ _));exact BK101.out⟩,⟨by (with_reducible repeat (first | refine zz ?_ _ | refine zj ?_ | refine zq ?_ _));exact BK103.out⟩,⟨by repeat (first | (with_reducible first | exact HB.out | apply qj | apply qz | apply qk | refine qx ?_ GE101.out | refine qx ?_ GE103.out) | exact HB.out)⟩⟩
           ·rw [if_neg c54] at H
            have c54b0 : decide (5 < (((vq l0_0 x12_1).f2).length : Int)) = false := decide_eq_false c54
            have c54b1 : decide (5 < ((vq l0_0 x12_1).f2).length) = false := decide_eq_false (by omega)
            clear c54
            replace H := Option.bind_eq_some_iff.mp H
            obtain ⟨t110,A570,H⟩ := H
            replace H : (if t110 = true then (qjz.j1 k1 l0_0 (l0_0.length : Int) x12_1 (decide ((((vq l0_0 x12_1).f4).length : Int) > 4)) l0_0 l0_1 a0_2 a0_3 ((vq l0_0 x12_1).f0) ((vq l0_0 x12_1).f1) ((vq l0_0 x12_1).f2) ((vq l0_0 x12_1).f3) ((vq l0_0 x12_1).f4)) else (qjz.j1 k1 l0_0 (l0_0.length : Int) x12_1 true l0_0 l0_1 a0_2 a0_3 ((vq l0_0 x12_1).f0) ((vq l0_0 x12_1).f1) ((vq l0_0 x12_1).f2) ((vq l0_0 x12_1).f3) ((vq l0_0 x12_1).f4))) = some r := H
            have A57 := qq.mk A570
            clear A570
            by_cases c58 : t110 = true
            ·subst c58
             have H1 : (qjz.j1 k1 l0_0 (l0_0.length : Int) x12_1 (decide ((((vq l0_0 x12_1).f4).length : Int) > 4)) l0_0 l0_1 a0_2 a0_3 ((vq l0_0 x12_1).f0) ((vq l0_0 x12_1).f1) ((vq l0_0 x12_1).f2) ((vq l0_0 x12_1).f3) ((vq l0_0 x12_1).f4)) = some r := by rw [if_pos rfl] at H;exact H
             clear H
             have H := H1
             clear H1
             have H' := qq.mk H
             clear H
             try go_wp2
             have n0_ : qq ((((((w8.setCell ⟨gb103,0,none⟩ (.string ((vq l0_0 x12_1).f0))).setCell ⟨gb103,1,none⟩ (.slice A102_1 ((vq l0_0 x12_1).f1).length c102_1)).setCell ⟨gb103,2,none⟩ (.slice A102_2 ((vq l0_0 x12_1).f2).length c102_2)).setCell ⟨gb103,3,none⟩ (.slice A102_3 ((vq l0_0 x12_1).f3).length c102_3)).setCell ⟨gb103,4,none⟩ (.slice A102_4 ((vq l0_0 x12_1).f4).length c102_4)).heap[gb101]? = some (.cells #[.slice (some ad102) l0_0.length c0_0,.slice A0_1 l0_1.length c0_1,.int .i64 a0_2,.int .i64 a0_3] 45 (0,0))) := ⟨by (with_reducible repeat (first | refine zz ?_ _ | refine zj ?_ | refine zq ?_ _));refine blk_far ?_ NB101_103.out _;(with_reducible repeat (first | refine zz ?_ _ | refine zj ?_ | refine zq ?_ _));refine blk_far ?_ NB101_103.out _;(with_reducible repeat (first | refine zz ?_ _ | refine zj ?_ | refine zq ?_ _));refine blk_far ?_ NB101_103.out _;(with_reducible repeat (first | refine zz ?_ _ | refine zj ?_ | refine zq ?_ _));refine blk_far ?_ NB101_103.out _;(with_reducible repeat (first | refine zz ?_ _ | refine zj ?_ | refine zq ?_ _));refine blk_far ?_ NB101_103.out _;(with_reducible repeat (first | refine zz ?_ _ | refine zj ?_ | refine zq ?_ _));exact BK101.out⟩
             have n1_ : qq ((((((w8.setCell ⟨gb103,0,none⟩ (.string ((vq l0_0 x12_1).f0))).setCell ⟨gb103,1,none⟩ (.slice A102_1 ((vq l0_0 x12_1).f1).length c102_1)).setCell ⟨gb103,2,none⟩ (.slice A102_2 ((vq l0_0 x12_1).f2).length c102_2)).setCell ⟨gb103,3,none⟩ (.slice A102_3 ((vq l0_0 x12_1).f3).length c102_3)).setCell ⟨gb103,4,none⟩ (.slice A102_4 ((vq l0_0 x12_1).f4).length c102_4)).heap[gb103]? = some (.cells #[.string ((vq l0_0 x12_1).f0),.slice A102_1 ((vq l0_0 x12_1).f1).length c102_1,.slice A102_2 ((vq l0_0 x12_1).f2).length c102_2,.slice A102_3 ((vq l0_0 x12_1).f3).length c102_3,.slice A102_4 ((vq l0_0 x12_1).f4).length c102_4] 77 (0,0))) := ⟨by (with_reducible repeat (first | refine zz ?_ _ | refine zj ?_ | refine zq ?_ _));refine blk_put (cs := #[.string ((vq l0_0 x12_1).f0),.slice A102_1 ((vq l0_0 x12_1).f1).length c102_1,.slice A102_2 ((vq l0_0 x12_1).f2).length c102_2,.slice A102_3 ((vq l0_0 x12_1).f3).length c102_3,.slice none 0 0]) ?_ 4 _ rfl;(with_reducible repeat (first | refine zz ?_ _ | refine zj ?_ | refine zq ?_ _));refine blk_put (cs := #[.string ((vq l0_0 x12_1).f0),.slice A102_1 ((vq l0_0 x12_1).f1).length c102_1,.slice A102_2 ((vq l0_0 x12_1).f2).length c102_2,.slice none 0 0,.slice none 0 0]) ?_ 3 _ rfl;(with_reducible repeat (first | refine zz ?_ _ | refine zj ?_ | refine zq ?_ _));refine blk_put (cs := #[.string ((vq l0_0 x12_1).f0),.slice A102_1 ((vq l0_0 x12_1).f1).length c102_1,.slice none 0 0,.slice none 0 0,.slice none 0 0]) ?_ 2 _ rfl;(with_reducible repeat (first | refine zz ?_ _ | refine zj ?_ | refine zq ?_ _));refine blk_put (cs := #[.string ((vq l0_0 x12_1).f0),.slice none 0 0,.slice none 0 0,.slice none 0 0,.slice none 0 0]) ?_ 1 _ rfl;(with_reducible repeat (first | refine zz ?_ _ | refine zj ?_ | refine zq ?_ _));refine blk_put (cs := #[.string (⟨#[]⟩ : ByteArray),.slice none 0 0,.slice none 0 0,.slice none 0 0,.slice none 0 0]) ?_ 0 _ rfl;(with_reducible repeat (first | refine zz ?_ _ | refine zj ?_ | refine zq ?_ _));exact BK103.out⟩
             have n2_ : qq (Below w.heap.size w (((((w8.setCell ⟨gb103,0,none⟩ (.string ((vq l0_0 x12_1).f0))).setCell ⟨gb103,1,none⟩ (.slice A102_1 ((vq l0_0 x12_1).f1).length c102_1)).setCell ⟨gb103,2,none⟩ (.slice A102_2 ((vq l0_0 x12_1).f2).length c102_2)).setCell ⟨gb103,3,none⟩ (.slice A102_3 ((vq l0_0 x12_1).f3).length c102_3)).setCell ⟨gb103,4,none⟩ (.slice A102_4 ((vq l0_0 x12_1).f4).length c102_4))) := ⟨by repeat (first | (with_reducible first | exact HB.out | apply qj | apply qz | apply qk | refine qx ?_ GE101.out | refine qx ?_ GE103.out) | exact HB.out)⟩
             (try clear BK101)
             (try clear BK103)
             (try clear HB)
             generalize (((((w8.setCell ⟨gb103,0,none⟩ (.string ((vq l0_0 x12_1).f0))).setCell ⟨gb103,1,none⟩ (.slice A102_1 ((vq l0_0 x12_1).f1).length c102_1)).setCell ⟨gb103,2,none⟩ (.slice A102_2 ((vq l0_0 x12_1).f2).length c102_2)).setCell ⟨gb103,3,none⟩ (.slice A102_3 ((vq l0_0 x12_1).f3).length c102_3)).setCell ⟨gb103,4,none⟩ (.slice A102_4 ((vq l0_0 x12_1).f4).length c102_4)) = w59 at n0_ n1_ n2_ ⊢
             have BK101 := n0_
             have BK103 := n1_
             have HB := n2_
             clear n0_ n1_ n2_
             have hS_ := (show (fun w' => w'.cell? ⟨gb103,0,none⟩ = some (.string ((vq l0_0 x12_1).f0)) ∧ w'.cell? ⟨gb103,1,none⟩ = some (.slice A102_1 ((vq l0_0 x12_1).f1).length c102_1) ∧ w'.cell? ⟨gb103,2,none⟩ = some (.slice A102_2 ((vq l0_0 x12_1).f2).length c102_2) ∧ w'.cell? ⟨gb103,3,none⟩ = some (.slice A102_3 ((vq l0_0 x12_1).f3).length c102_3) ∧ w'.cell? ⟨gb103,4,none⟩ = some (.slice A102_4 ((vq l0_0 x12_1).f4).length c102_4)) (w59) from ⟨(qw BK103.out 0).trans rfl,(qw BK103.out 1).trans rfl,(qw BK103.out 2).trans rfl,(qw BK103.out 3).trans rfl,(qw BK103.out 4).trans rfl⟩)
             obtain ⟨hS0_,hS1_,hS2_,hS3_,hS4_⟩ := hS_
             go_quiet ((first | (go_at_call 37;exact Calls.quiet_of ((qkj.calls k1 ((vq l0_0 x12_1).f0) true _ A11.out).mono fun _ _ h => ⟨h.1,h.2.out⟩)) | (go_at_call 44;exact Calls.quiet_of ((qjj.calls k1 _ _ ((vq l0_0 x12_1).f3) true _ (by repeat (first | exact (Kd.C_below HR102_3.out (by repeat (first | (with_reducible first | exact HB.out | apply qj | apply qz | apply qk | refine qx ?_ GE101.out | refine qx ?_ GE103.out) | exact HB.out))) | (with_reducible refine Kd.C_alloc ?_ _) | (with_reducible refine Kd.C_drewN ?_ _) | (with_reducible refine Kd.C_drew ?_))) (by exact HC102_3.out) A57.out).mono fun _ _ h => ⟨h.1,h.2.out⟩))))
             clear hS0_ hS1_ hS2_ hS3_ hS4_
             have n0_ := qq.mk (zz BK101.out nq)
             have n1_ := qq.mk (zz BK103.out nq)
             have n2_ := qq.mk (qz HB.out nq)
             clear BK101
             clear BK103
             clear HB
             have BK101 := n0_
             have BK103 := n1_
             have HB := n2_
             clear n0_ n1_ n2_
             generalize World.drewN w59 nq = w60 at BK101 BK103 HB ⊢
             try go_wp2
             go_meet
             case rel => exact ⟨_,(decide ((((vq l0_0 x12_1).f4).length : Int) > 4)),(by first | rfl | (simp;done) | (simp [*];done)),H',⟨by have := HK1.out;first | omega | exact Nat.le_refl _⟩,⟨by (with_reducible repeat (first | refine zz ?_ _ | refine zj ?_ | refine zq ?_ _));exact BK101.out⟩,⟨by (with_reducible repeat (first | refine zz ?_ _ | refine zj ?_ | refine zq ?_ _));exact BK103.out⟩,⟨by repeat (first | (with_reducible first | exact HB.out | apply qj | apply qz | apply qk | refine qx ?_ GE101.out | refine qx ?_ GE103.out) | exact HB.out)⟩⟩
            ·replace c58 := Bool.eq_false_iff.mpr c58
             subst c58
             have H1 : (qjz.j1 k1 l0_0 (l0_0.length : Int) x12_1 true l0_0 l0_1 a0_2 a0_3 ((vq l0_0 x12_1).f0) ((vq l0_0 x12_1).f1) ((vq l0_0 x12_1).f2) ((vq l0_0 x12_1).f3) ((vq l0_0 x12_1).f4)) = some r := by rw [if_neg (show ¬ (false = true) by decide)] at H;exact H
             clear H
             have H := H1
             clear H1
             have H' := qq.mk H
             clear H
             try go_wp2
             have n0_ : qq ((((((w8.setCell ⟨gb103,0,none⟩ (.string ((vq l0_0 x12_1).f0))).setCell ⟨gb103,1,none⟩ (.slice A102_1 ((vq l0_0 x12_1).f1).length c102_1)).setCell ⟨gb103,2,none⟩ (.slice A102_2 ((vq l0_0 x12_1).f2).length c102_2)).setCell ⟨gb103,3,none⟩ (.slice A102_3 ((vq l0_0 x12_1).f3).length c102_3)).setCell ⟨gb103,4,none⟩ (.slice A102_4 ((vq l0_0 x12_1).f4).length c102_4)).heap[gb101]? = some (.cells #[.slice (some ad102) l0_0.length c0_0,.slice A0_1 l0_1.length c0_1,.int .i64 a0_2,.int .i64 a0_3] 45 (0,0))) := ⟨by (with_reducible repeat (first | refine zz ?_ _ | refine zj ?_ | refine zq ?_ _));refine blk_far ?_ NB101_103.out _;(with_reducible repeat (first | refine zz ?_ _ | refine zj ?_ | refine zq ?_ _));refine blk_far ?_ NB101_103.out _;(with_reducible repeat (first | refine zz ?_ _ | refine zj ?_ | refine zq ?_ _));refine blk_far ?_ NB101_103.out _;(with_reducible repeat (first | refine zz ?_ _ | refine zj ?_ | refine zq ?_ _));refine blk_far ?_ NB101_103.out _;(with_reducible repeat (first | refine zz ?_ _ | refine zj ?_ | refine zq ?_ _));refine blk_far ?_ NB101_103.out _;(with_reducible repeat (first | refine zz ?_ _ | refine zj ?_ | refine zq ?_ _));exact BK101.out⟩
             have n1_ : qq ((((((w8.setCell ⟨gb103,0,none⟩ (.string ((vq l0_0 x12_1).f0))).setCell ⟨gb103,1,none⟩ (.slice A102_1 ((vq l0_0 x12_1).f1).length c102_1)).setCell ⟨gb103,2,none⟩ (.slice A102_2 ((vq l0_0 x12_1).f2).length c102_2)).setCell ⟨gb103,3,none⟩ (.slice A102_3 ((vq l0_0 x12_1).f3).length c102_3)).setCell ⟨gb103,4,none⟩ (.slice A102_4 ((vq l0_0 x12_1).f4).length c102_4)).heap[gb103]? = some (.cells #[.string ((vq l0_0 x12_1).f0),.slice A102_1 ((vq l0_0 x12_1).f1).length c102_1,.slice A102_2 ((vq l0_0 x12_1).f2).length c102_2,.slice A102_3 ((vq l0_0 x12_1).f3).length c102_3,.slice A102_4 ((vq l0_0 x12_1).f4).length c102_4] 77 (0,0))) := ⟨by (with_reducible repeat (first | refine zz ?_ _ | refine zj ?_ | refine zq ?_ _));refine blk_put (cs := #[.string ((vq l0_0 x12_1).f0),.slice A102_1 ((vq l0_0 x12_1).f1).length c102_1,.slice A102_2 ((vq l0_0 x12_1).f2).length c102_2,.slice A102_3 ((vq l0_0 x12_1).f3).length c102_3,.slice none 0 0]) ?_ 4 _ rfl;(with_reducible repeat (first | refine zz ?_ _ | refine zj ?_ | refine zq ?_ _));refine blk_put (cs := #[.string ((vq l0_0 x12_1).f0),.slice A102_1 ((vq l0_0 x12_1).f1).length c102_1,.slice A102_2 ((vq l0_0 x12_1).f2).length c102_2,.slice none 0 0,.slice none 0 0]) ?_ 3 _ rfl;(with_reducible repeat (first | refine zz ?_ _ | refine zj ?_ | refine zq ?_ _));refine blk_put (cs := #[.string ((vq l0_0 x12_1).f0),.slice A102_1 ((vq l0_0 x12_1).f1).length c102_1,.slice none 0 0,.slice none 0 0,.slice none 0 0]) ?_ 2 _ rfl;(with_reducible repeat (first | refine zz ?_ _ | refine zj ?_ | refine zq ?_ _));refine blk_put (cs := #[.string ((vq l0_0 x12_1).f0),.slice none 0 0,.slice none 0 0,.slice none 0 0,.slice none 0 0]) ?_ 1 _ rfl;(with_reducible repeat (first | refine zz ?_ _ | refine zj ?_ | refine zq ?_ _));refine blk_put (cs := #[.string (⟨#[]⟩ : ByteArray),.slice none 0 0,.slice none 0 0,.slice none 0 0,.slice none 0 0]) ?_ 0 _ rfl;(with_reducible repeat (first | refine zz ?_ _ | refine zj ?_ | refine zq ?_ _));exact BK103.out⟩
             have n2_ : qq (Below w.heap.size w (((((w8.setCell ⟨gb103,0,none⟩ (.string ((vq l0_0 x12_1).f0))).setCell ⟨gb103,1,none⟩ (.slice A102_1 ((vq l0_0 x12_1).f1).length c102_1)).setCell ⟨gb103,2,none⟩ (.slice A102_2 ((vq l0_0 x12_1).f2).length c102_2)).setCell ⟨gb103,3,none⟩ (.slice A102_3 ((vq l0_0 x12_1).f3).length c102_3)).setCell ⟨gb103,4,none⟩ (.slice A102_4 ((vq l0_0 x12_1).f4).length c102_4))) := ⟨by repeat (first | (with_reducible first | exact HB.out | apply qj | apply qz | apply qk | refine qx ?_ GE101.out | refine qx ?_ GE103.out) | exact HB.out)⟩
             (try clear BK101)
             (try clear BK103)
             (try clear HB)
             generalize (((((w8.setCell ⟨gb103,0,none⟩ (.string ((vq l0_0 x12_1).f0))).setCell ⟨gb103,1,none⟩ (.slice A102_1 ((vq l0_0 x12_1).f1).length c102_1)).setCell ⟨gb103,2,none⟩ (.slice A102_2 ((vq l0_0 x12_1).f2).length c102_2)).setCell ⟨gb103,3,none⟩ (.slice A102_3 ((vq l0_0 x12_1).f3).length c102_3)).setCell ⟨gb103,4,none⟩ (.slice A102_4 ((vq l0_0 x12_1).f4).length c102_4)) = w61 at n0_ n1_ n2_ ⊢
             have BK101 := n0_
             have BK103 := n1_
             have HB := n2_
             clear n0_ n1_ n2_
             have hS_ := (show (fun w' => w'.cell? ⟨gb103,0,none⟩ = some (.string ((vq l0_0 x12_1).f0)) ∧ w'.cell? ⟨gb103,1,none⟩ = some (.slice A102_1 ((vq l0_0 x12_1).f1).length c102_1) ∧ w'.cell? ⟨gb103,2,none⟩ = some (.slice A102_2 ((vq l0_0 x12_1).f2).length c102_2) ∧ w'.cell? ⟨gb103,3,none⟩ = some (.slice A102_3 ((vq l0_0 x12_1).f3).length c102_3) ∧ w'.cell? ⟨gb103,4,none⟩ = some (.slice A102_4 ((vq l0_0 x12_1).f4).length c102_4)) (w61) from ⟨(qw BK103.out 0).trans rfl,(qw BK103.out 1).trans rfl,(qw BK103.out 2).trans rfl,(qw BK103.out 3).trans rfl,(qw BK103.out 4).trans rfl⟩)
             obtain ⟨hS0_,hS1_,hS2_,hS3_,hS4_⟩ := hS_
             go_quiet ((first | (go_at_call 37;exact Calls.quiet_of ((qkj.calls k1 ((vq l0_0 x12_1).f0) true _ A11.out).mono fun _ _ h => ⟨h.1,h.2.out⟩)) | (go_at_call 44;exact Calls.quiet_of ((qjj.calls k1 _ _ ((vq l0_0 x12_1).f3) false _ (by repeat (first | exact (Kd.C_below HR102_3.out (by repeat (first | (with_reducible first | exact HB.out | apply qj | apply qz | apply qk | refine qx ?_ GE101.out | refine qx ?_ GE103.out) | exact HB.out))) | (with_reducible refine Kd.C_alloc ?_ _) | (with_reducible refine Kd.C_drewN ?_ _) | (with_reducible refine Kd.C_drew ?_))) (by exact HC102_3.out) A57.out).mono fun _ _ h => ⟨h.1,h.2.out⟩))))
             clear hS0_ hS1_ hS2_ hS3_ hS4_
             have n0_ := qq.mk (zz BK101.out nq)
             have n1_ := qq.mk (zz BK103.out nq)
             have n2_ := qq.mk (qz HB.out nq)
             clear BK101
             clear BK103
             clear HB
             have BK101 := n0_
             have BK103 := n1_
             have HB := n2_
             clear n0_ n1_ n2_
             generalize World.drewN w61 nq = w62 at BK101 BK103 HB ⊢
             try go_wp2
             go_meet
             case rel => exact ⟨_,(true),(by first | rfl | (simp;done) | (simp [*];done)),H',⟨by have := HK1.out;first | omega | exact Nat.le_refl _⟩,⟨by (with_reducible repeat (first | refine zz ?_ _ | refine zj ?_ | refine zq ?_ _));exact BK101.out⟩,⟨by (with_reducible repeat (first | refine zz ?_ _ | refine zj ?_ | refine zq ?_ _));exact BK103.out⟩,⟨by repeat (first | (with_reducible first | exact HB.out | apply qj | apply qz | apply qk | refine qx ?_ GE101.out | refine qx ?_ GE103.out) | exact HB.out)⟩⟩
          ·rw [if_neg c53] at H
           have c53b0 : ((((vq l0_0 x12_1).f1).length : Int) == 16) = false := beq_eq_false_iff_ne.mpr c53
           have c53b1 : ((((vq l0_0 x12_1).f1).length : Int) != 16) = true := bne_iff_ne.mpr c53
           have H' := qq.mk H
           clear H
           try go_wp2
           have n0_ : qq ((((((w8.setCell ⟨gb103,0,none⟩ (.string ((vq l0_0 x12_1).f0))).setCell ⟨gb103,1,none⟩ (.slice A102_1 ((vq l0_0 x12_1).f1).length c102_1)).setCell ⟨gb103,2,none⟩ (.slice A102_2 ((vq l0_0 x12_1).f2).length c102_2)).setCell ⟨gb103,3,none⟩ (.slice A102_3 ((vq l0_0 x12_1).f3).length c102_3)).setCell ⟨gb103,4,none⟩ (.slice A102_4 ((vq l0_0 x12_1).f4).length c102_4)).heap[gb101]? = some (.cells #[.slice (some ad102) l0_0.length c0_0,.slice A0_1 l0_1.length c0_1,.int .i64 a0_2,.int .i64 a0_3] 45 (0,0))) := ⟨by (with_reducible repeat (first | refine zz ?_ _ | refine zj ?_ | refine zq ?_ _));refine blk_far ?_ NB101_103.out _;(with_reducible repeat (first | refine zz ?_ _ | refine zj ?_ | refine zq ?_ _));refine blk_far ?_ NB101_103.out _;(with_reducible repeat (first | refine zz ?_ _ | refine zj ?_ | refine zq ?_ _));refine blk_far ?_ NB101_103.out _;(with_reducible repeat (first | refine zz ?_ _ | refine zj ?_ | refine zq ?_ _));refine blk_far ?_ NB101_103.out _;(with_reducible repeat (first | refine zz ?_ _ | refine zj ?_ | refine zq ?_ _));refine blk_far ?_ NB101_103.out _;(with_reducible repeat (first | refine zz ?_ _ | refine zj ?_ | refine zq ?_ _));exact BK101.out⟩
           have n1_ : qq ((((((w8.setCell ⟨gb103,0,none⟩ (.string ((vq l0_0 x12_1).f0))).setCell ⟨gb103,1,none⟩ (.slice A102_1 ((vq l0_0 x12_1).f1).length c102_1)).setCell ⟨gb103,2,none⟩ (.slice A102_2 ((vq l0_0 x12_1).f2).length c102_2)).setCell ⟨gb103,3,none⟩ (.slice A102_3 ((vq l0_0 x12_1).f3).length c102_3)).setCell ⟨gb103,4,none⟩ (.slice A102_4 ((vq l0_0 x12_1).f4).length c102_4)).heap[gb103]? = some (.cells #[.string ((vq l0_0 x12_1).f0),.slice A102_1 ((vq l0_0 x12_1).f1).length c102_1,.slice A102_2 ((vq l0_0 x12_1).f2).length c102_2,.slice A102_3 ((vq l0_0 x12_1).f3).length c102_3,.slice A102_4 ((vq l0_0 x12_1).f4).length c102_4] 77 (0,0))) := ⟨by (with_reducible repeat (first | refine zz ?_ _ | refine zj ?_ | refine zq ?_ _));refine blk_put (cs := #[.string ((vq l0_0 x12_1).f0),.slice A102_1 ((vq l0_0 x12_1).f1).length c102_1,.slice A102_2 ((vq l0_0 x12_1).f2).length c102_2,.slice A102_3 ((vq l0_0 x12_1).f3).length c102_3,.slice none 0 0]) ?_ 4 _ rfl;(with_reducible repeat (first | refine zz ?_ _ | refine zj ?_ | refine zq ?_ _));refine blk_put (cs := #[.string ((vq l0_0 x12_1).f0),.slice A102_1 ((vq l0_0 x12_1).f1).length c102_1,.slice A102_2 ((vq l0_0 x12_1).f2).length c102_2,.slice none 0 0,.slice none 0 0]) ?_ 3 _ rfl;(with_reducible repeat (first | refine zz ?_ _ | refine zj ?_ | refine zq ?_ _));refine blk_put (cs := #[.string ((vq l0_0 x12_1).f0),.slice A102_1 ((vq l0_0 x12_1).f1).length c102_1,.slice none 0 0,.slice none 0 0,.slice none 0 0]) ?_ 2 _ rfl;(with_reducible repeat (first | refine zz ?_ _ | refine zj ?_ | refine zq ?_ _));refine blk_put (cs := #[.string ((vq l0_0 x12_1).f0),.slice none 0 0,.slice none 0 0,.slice none 0 0,.slice none 0 0]) ?_ 1 _ rfl;(with_reducible repeat (first | refine zz ?_ _ | refine zj ?_ | refine zq ?_ _));refine blk_put (cs := #[.string (⟨#[]⟩ : ByteArray),.slice none 0 0,.slice none 0 0,.slice none 0 0,.slice none 0 0]) ?_ 0 _ rfl;(with_reducible repeat (first | refine zz ?_ _ | refine zj ?_ | refine zq ?_ _));exact BK103.out⟩
           have n2_ : qq (Below w.heap.size w (((((w8.setCell ⟨gb103,0,none⟩ (.string ((vq l0_0 x12_1).f0))).setCell ⟨gb103,1,none⟩ (.slice A102_1 ((vq l0_0 x12_1).f1).length c102_1)).setCell ⟨gb103,2,none⟩ (.slice A102_2 ((vq l0_0 x12_1).f2).length c102_2)).setCell ⟨gb103,3,none⟩ (.slice A102_3 ((vq l0_0 x12_1).f3).length c102_3)).setCell ⟨gb103,4,none⟩ (.slice A102_4 ((vq l0_0 x12_1).f4).length c102_4))) := ⟨by repeat (first | (with_reducible first | exact HB.out | apply qj | apply qz | apply qk | refine qx ?_ GE101.out | refine qx ?_ GE103.out) | exact HB.out)⟩
           (try clear BK101)
           (try clear BK103)
           (try clear HB)
           generalize (((((w8.setCell ⟨gb103,0,none⟩ (.string ((vq l0_0 x12_1).f0))).setCell ⟨gb103,1,none⟩ (.slice A102_1 ((vq l0_0 x12_1).f1).length c102_1)).setCell ⟨gb103,2,none⟩ (.slice A102_2 ((vq l0_0 x12_1).f2).length c102_2)).setCell ⟨gb103,3,none⟩ (.slice A102_3 ((vq l0_0 x12_1).f3).length c102_3)).setCell ⟨gb103,4,none⟩ (.slice A102_4 ((vq l0_0 x12_1).f4).length c102_4)) = w63 at n0_ n1_ n2_ ⊢
           have BK101 := n0_
           have BK103 := n1_
           have HB := n2_
           clear n0_ n1_ n2_
           have hS_ := (show (fun w' => w'.cell? ⟨gb103,0,none⟩ = some (.string ((vq l0_0 x12_1).f0)) ∧ w'.cell? ⟨gb103,1,none⟩ = some (.slice A102_1 ((vq l0_0 x12_1).f1).length c102_1) ∧ w'.cell? ⟨gb103,2,none⟩ = some (.slice A102_2 ((vq l0_0 x12_1).f2).length c102_2) ∧ w'.cell? ⟨gb103,3,none⟩ = some (.slice A102_3 ((vq l0_0 x12_1).f3).length c102_3) ∧ w'.cell? ⟨gb103,4,none⟩ = some (.slice A102_4 ((vq l0_0 x12_1).f4).length c102_4)) (w63) from ⟨(qw BK103.out 0).trans rfl,(qw BK103.out 1).trans rfl,(qw BK103.out 2).trans rfl,(qw BK103.out 3).trans rfl,(qw BK103.out 4).trans rfl⟩)
           obtain ⟨hS0_,hS1_,hS2_,hS3_,hS4_⟩ := hS_
           go_quiet ((first | (go_at_call 37;exact Calls.quiet_of ((qkj.calls k1 ((vq l0_0 x12_1).f0) true _ A11.out).mono fun _ _ h => ⟨h.1,h.2.out⟩))))
           clear hS0_ hS1_ hS2_ hS3_ hS4_
           have n0_ := qq.mk (zz BK101.out nq)
           have n1_ := qq.mk (zz BK103.out nq)
           have n2_ := qq.mk (qz HB.out nq)
           clear BK101
           clear BK103
           clear HB
           have BK101 := n0_
           have BK103 := n1_
           have HB := n2_
           clear n0_ n1_ n2_
           generalize World.drewN w63 nq = w64 at BK101 BK103 HB ⊢
           try go_wp2
           go_meet
           case rel => exact ⟨_,(true),(by first | rfl | (simp;done) | (simp [*];done)),H',⟨by have := HK1.out;first | omega | exact Nat.le_refl _⟩,⟨by (with_reducible repeat (first | refine zz ?_ _ | refine zj ?_ | refine zq ?_ _));exact BK101.out⟩,⟨by (with_reducible repeat (first | refine zz ?_ _ | refine zj ?_ | refine zq ?_ _));exact BK103.out⟩,⟨by repeat (first | (with_reducible first | exact HB.out | apply qj | apply qz | apply qk | refine qx ?_ GE101.out | refine qx ?_ GE103.out) | exact HB.out)⟩⟩
       ·replace c12 := Bool.eq_false_iff.mpr c12
        subst c12
        have H1 : (qjz.j1 k1 l0_0 (l0_0.length : Int) x12_1 true l0_0 l0_1 a0_2 a0_3 ((vq l0_0 x12_1).f0) ((vq l0_0 x12_1).f1) ((vq l0_0 x12_1).f2) ((vq l0_0 x12_1).f3) ((vq l0_0 x12_1).f4)) = some r := by rw [if_neg (show ¬ (false = true) by decide)] at H;exact H
        clear H
        have H := H1
        clear H1
        have H' := qq.mk H
        clear H
        try go_wp2
        have n0_ : qq ((((((w8.setCell ⟨gb103,0,none⟩ (.string ((vq l0_0 x12_1).f0))).setCell ⟨gb103,1,none⟩ (.slice A102_1 ((vq l0_0 x12_1).f1).length c102_1)).setCell ⟨gb103,2,none⟩ (.slice A102_2 ((vq l0_0 x12_1).f2).length c102_2)).setCell ⟨gb103,3,none⟩ (.slice A102_3 ((vq l0_0 x12_1).f3).length c102_3)).setCell ⟨gb103,4,none⟩ (.slice A102_4 ((vq l0_0 x12_1).f4).length c102_4)).heap[gb101]? = some (.cells #[.slice (some ad102) l0_0.length c0_0,.slice A0_1 l0_1.length c0_1,.int .i64 a0_2,.int .i64 a0_3] 45 (0,0))) := ⟨by (with_reducible repeat (first | refine zz ?_ _ | refine zj ?_ | refine zq ?_ _));refine blk_far ?_ NB101_103.out _;(with_reducible repeat (first | refine zz ?_ _ | refine zj ?_ | refine zq ?_ _));refine blk_far ?_ NB101_103.out _;(with_reducible repeat (first | refine zz ?_ _ | refine zj ?_ | refine zq ?_ _));refine blk_far ?_ NB101_103.out _;(with_reducible repeat (first | refine zz ?_ _ | refine zj ?_ | refine zq ?_ _));refine blk_far ?_ NB101_103.out _;(with_reducible repeat (first | refine zz ?_ _ | refine zj ?_ | refine zq ?_ _));refine blk_far ?_ NB101_103.out _;(with_reducible repeat (first | refine zz ?_ _ | refine zj ?_ | refine zq ?_ _));exact BK101.out⟩
        have n1_ : qq ((((((w8.setCell ⟨gb103,0,none⟩ (.string ((vq l0_0 x12_1).f0))).setCell ⟨gb103,1,none⟩ (.slice A102_1 ((vq l0_0 x12_1).f1).length c102_1)).setCell ⟨gb103,2,none⟩ (.slice A102_2 ((vq l0_0 x12_1).f2).length c102_2)).setCell ⟨gb103,3,none⟩ (.slice A102_3 ((vq l0_0 x12_1).f3).length c102_3)).setCell ⟨gb103,4,none⟩ (.slice A102_4 ((vq l0_0 x12_1).f4).length c102_4)).heap[gb103]? = some (.cells #[.string ((vq l0_0 x12_1).f0),.slice A102_1 ((vq l0_0 x12_1).f1).length c102_1,.slice A102_2 ((vq l0_0 x12_1).f2).length c102_2,.slice A102_3 ((vq l0_0 x12_1).f3).length c102_3,.slice A102_4 ((vq l0_0 x12_1).f4).length c102_4] 77 (0,0))) := ⟨by (with_reducible repeat (first | refine zz ?_ _ | refine zj ?_ | refine zq ?_ _));refine blk_put (cs := #[.string ((vq l0_0 x12_1).f0),.slice A102_1 ((vq l0_0 x12_1).f1).length c102_1,.slice A102_2 ((vq l0_0 x12_1).f2).length c102_2,.slice A102_3 ((vq l0_0 x12_1).f3).length c102_3,.slice none 0 0]) ?_ 4 _ rfl;(with_reducible repeat (first | refine zz ?_ _ | refine zj ?_ | refine zq ?_ _));refine blk_put (cs := #[.string ((vq l0_0 x12_1).f0),.slice A102_1 ((vq l0_0 x12_1).f1).length c102_1,.slice A102_2 ((vq l0_0 x12_1).f2).length c102_2,.slice none 0 0,.slice none 0 0]) ?_ 3 _ rfl;(with_reducible repeat (first | refine zz ?_ _ | refine zj ?_ | refine zq ?_ _));refine blk_put (cs := #[.string ((vq l0_0 x12_1).f0),.slice A102_1 ((vq l0_0 x12_1).f1).length c102_1,.slice none 0 0,.slice none 0 0,.slice none 0 0]) ?_ 2 _ rfl;(with_reducible repeat (first | refine zz ?_ _ | refine zj ?_ | refine zq ?_ _));refine blk_put (cs := #[.string ((vq l0_0 x12_1).f0),.slice none 0 0,.slice none 0 0,.slice none 0 0,.slice none 0 0]) ?_ 1 _ rfl;(with_reducible repeat (first | refine zz ?_ _ | refine zj ?_ | refine zq ?_ _));refine blk_put (cs := #[.string (⟨#[]⟩ : ByteArray),.slice none 0 0,.slice none 0 0,.slice none 0 0,.slice none 0 0]) ?_ 0 _ rfl;(with_reducible repeat (first | refine zz ?_ _ | refine zj ?_ | refine zq ?_ _));exact BK103.out⟩
        have n2_ : qq (Below w.heap.size w (((((w8.setCell ⟨gb103,0,none⟩ (.string ((vq l0_0 x12_1).f0))).setCell ⟨gb103,1,none⟩ (.slice A102_1 ((vq l0_0 x12_1).f1).length c102_1)).setCell ⟨gb103,2,none⟩ (.slice A102_2 ((vq l0_0 x12_1).f2).length c102_2)).setCell ⟨gb103,3,none⟩ (.slice A102_3 ((vq l0_0 x12_1).f3).length c102_3)).setCell ⟨gb103,4,none⟩ (.slice A102_4 ((vq l0_0 x12_1).f4).length c102_4))) := ⟨by repeat (first | (with_reducible first | exact HB.out | apply qj | apply qz | apply qk | refine qx ?_ GE101.out | refine qx ?_ GE103.out) | exact HB.out)⟩
        (try clear BK101)
        (try clear BK103)
        (try clear HB)
        generalize (((((w8.setCell ⟨gb103,0,none⟩ (.string ((vq l0_0 x12_1).f0))).setCell ⟨gb103,1,none⟩ (.slice A102_1 ((vq l0_0 x12_1).f1).length c102_1)).setCell ⟨gb103,2,none⟩ (.slice A102_2 ((vq l0_0 x12_1).f2).length c102_2)).setCell ⟨gb103,3,none⟩ (.slice A102_3 ((vq l0_0 x12_1).f3).length c102_3)).setCell ⟨gb103,4,none⟩ (.slice A102_4 ((vq l0_0 x12_1).f4).length c102_4)) = w65 at n0_ n1_ n2_ ⊢
        have BK101 := n0_
        have BK103 := n1_
        have HB := n2_
        clear n0_ n1_ n2_
        have hS_ := (show (fun w' => w'.cell? ⟨gb103,0,none⟩ = some (.string ((vq l0_0 x12_1).f0)) ∧ w'.cell? ⟨gb103,1,none⟩ = some (.slice A102_1 ((vq l0_0 x12_1).f1).length c102_1) ∧ w'.cell? ⟨gb103,2,none⟩ = some (.slice A102_2 ((vq l0_0 x12_1).f2).length c102_2) ∧ w'.cell? ⟨gb103,3,none⟩ = some (.slice A102_3 ((vq l0_0 x12_1).f3).length c102_3) ∧ w'.cell? ⟨gb103,4,none⟩ = some (.slice A102_4 ((vq l0_0 x12_1).f4).length c102_4)) (w65) from ⟨(qw BK103.out 0).trans rfl,(qw BK103.out 1).trans rfl,(qw BK103.out 2).trans rfl,(qw BK103.out 3).trans rfl,(qw BK103.out 4).trans rfl⟩)
        obtain ⟨hS0_,hS1_,hS2_,hS3_,hS4_⟩ := hS_
        go_quiet ((first | (go_at_call 37;exact Calls.quiet_of ((qkj.calls k1 ((vq l0_0 x12_1).f0) false _ A11.out).mono fun _ _ h => ⟨h.1,h.2.out⟩))))
        clear hS0_ hS1_ hS2_ hS3_ hS4_
        have n0_ := qq.mk (zz BK101.out nq)
        have n1_ := qq.mk (zz BK103.out nq)
        have n2_ := qq.mk (qz HB.out nq)
        clear BK101
        clear BK103
        clear HB
        have BK101 := n0_
        have BK103 := n1_
        have HB := n2_
        clear n0_ n1_ n2_
        generalize World.drewN w65 nq = w66 at BK101 BK103 HB ⊢
        try go_wp2
        go_meet
        case rel => exact ⟨_,(true),(by first | rfl | (simp;done) | (simp [*];done)),H',⟨by have := HK1.out;first | omega | exact Nat.le_refl _⟩,⟨by (with_reducible repeat (first | refine zz ?_ _ | refine zj ?_ | refine zq ?_ _));exact BK101.out⟩,⟨by (with_reducible repeat (first | refine zz ?_ _ | refine zj ?_ | refine zq ?_ _));exact BK103.out⟩,⟨by repeat (first | (with_reducible first | exact HB.out | apply qj | apply qz | apply qk | refine qx ?_ GE101.out | refine qx ?_ GE103.out) | exact HB.out)⟩⟩
      case rest =>
       clear HC7
       try clear c1
       try clear p2
       try clear c3
       try clear c10
       try clear c12
       try clear c37
       obtain ⟨kq,x67_6,rfl,HA,HJ6,BK101,BK103,HB⟩ := hcut
       cases kq with
       | zero => exact absurd HA.out (by simp [qjz.j1])
       | succ kj6 =>
        have H := HA.out
        clear HA
        simp only [qjz.j1] at H
        by_cases c67 : x67_6 = true
        ·subst c67
         have H1 : (some false) = some r := by rw [if_pos rfl] at H;exact H
         clear H
         have H := H1
         clear H1
         obtain rfl := Option.some.inj H
         go_wp2
         go_ret
         exact ⟨by first | rfl | (simp [*,jk,jj] <;> rfl),by repeat (first | (with_reducible first | exact HB.out | apply qj | apply qz | apply qk | refine qx ?_ GE101.out | refine qx ?_ GE103.out) | exact HB.out)⟩
        ·replace c67 := Bool.eq_false_iff.mpr c67
         subst c67
         have H1 : (qjz.l1 kj6 l0_0 (l0_0.length : Int) x12_1 ((vq l0_0 x12_1).f2) (((vq l0_0 x12_1).f2).length : Int) 0 l0_0 l0_1 a0_2 a0_3 ((vq l0_0 x12_1).f0) ((vq l0_0 x12_1).f1) ((vq l0_0 x12_1).f2) ((vq l0_0 x12_1).f3) ((vq l0_0 x12_1).f4)) = some r := by rw [if_neg (show ¬ (false = true) by decide)] at H;exact H
         clear H
         have H := H1
         clear H1
         have H' := qq.mk H
         clear H
         have hnb68 := NB103_101.out
         have hnc68 := NB101_103.out
         have hcz69_0 : wc.cell? ⟨gb103,0,none⟩ = some (.string ((vq l0_0 x12_1).f0)) := (qw BK103.out 0).trans rfl
         have hcz69_1 : wc.cell? ⟨gb103,1,none⟩ = some (.slice A102_1 ((vq l0_0 x12_1).f1).length c102_1) := (qw BK103.out 1).trans rfl
         have hcz69_2 : wc.cell? ⟨gb103,2,none⟩ = some (.slice A102_2 ((vq l0_0 x12_1).f2).length c102_2) := (qw BK103.out 2).trans rfl
         have hcz69_3 : wc.cell? ⟨gb103,3,none⟩ = some (.slice A102_3 ((vq l0_0 x12_1).f3).length c102_3) := (qw BK103.out 3).trans rfl
         have hcz69_4 : wc.cell? ⟨gb103,4,none⟩ = some (.slice A102_4 ((vq l0_0 x12_1).f4).length c102_4) := (qw BK103.out 4).trans rfl
         have hfz69_0 := qv BK103.out 0
         have hfz69_1 := qv BK103.out 1
         have hfz69_2 := qv BK103.out 2
         have hfz69_3 := qv BK103.out 3
         have hfz69_4 := qv BK103.out 4
         go_wp2
         go_loopg [71] kj6 (fun kq v71 w' => ∃ (x71_3 : Int),v71 = .int .i64 x71_3 ∧ qq (qjz.l1 kq l0_0 (l0_0.length : Int) x12_1 ((vq l0_0 x12_1).f2) (((vq l0_0 x12_1).f2).length : Int) x71_3 l0_0 l0_1 a0_2 a0_3 ((vq l0_0 x12_1).f0) ((vq l0_0 x12_1).f1) ((vq l0_0 x12_1).f2) ((vq l0_0 x12_1).f3) ((vq l0_0 x12_1).f4) = some r) ∧ qq (kq ≤ kj6) ∧ qq (w'.heap[gb101]? = some (.cells #[(.slice (some ad102) l0_0.length c0_0),(.slice A0_1 l0_1.length c0_1),.int .i64 a0_2,.int .i64 a0_3] 45 (0,0))) ∧ qq (w'.heap[gb103]? = some (.cells #[.string ((vq l0_0 x12_1).f0),(.slice A102_1 ((vq l0_0 x12_1).f1).length c102_1),(.slice A102_2 ((vq l0_0 x12_1).f2).length c102_2),(.slice A102_3 ((vq l0_0 x12_1).f3).length c102_3),(.slice A102_4 ((vq l0_0 x12_1).f4).length c102_4)] 77 (0,0))) ∧ qq (Below w.heap.size w w'))
         case atStart => exact ⟨(0),(by first | rfl | (simp;done) | (simp [*];done)),H',⟨Nat.le_refl _⟩,⟨by (with_reducible repeat (first | refine zz ?_ _ | refine zj ?_ | refine zq ?_ _));exact BK101.out⟩,⟨by (with_reducible repeat (first | refine zz ?_ _ | refine zj ?_ | refine zq ?_ _));exact BK103.out⟩,⟨by repeat (first | (with_reducible first | exact HB.out | apply qj | apply qz | apply qk | refine qx ?_ GE101.out | refine qx ?_ GE103.out) | exact HB.out)⟩⟩
         case round =>
          clear H'
          try clear c1
          try clear p2
          try clear c3
          try clear c6
          try clear c10
          try clear c12
          try clear c37
          try clear c67
          try clear c68
          try clear hcz69_0
          try clear hcz69_1
          try clear hcz69_2
          try clear hcz69_3
          try clear hcz69_4
          try clear hfz69_0
          try clear hfz69_1
          try clear hfz69_2
          try clear hfz69_3
          try clear hfz69_4
          try clear p2
          obtain ⟨x71_3,rfl,HA,HK3,BK101,BK103,HB⟩ := hrel
          cases gk with
          | zero => exact absurd HA.out (by simp [qjz.l1])
          | succ k3 =>
           have H := HA.out
           clear HA
           simp only [qjz.l1] at H
           by_cases c70 : x71_3 < (((vq l0_0 x12_1).f2).length : Int)
           ·rw [if_pos c70] at H
            have c70b0 : decide (x71_3 < (((vq l0_0 x12_1).f2).length : Int)) = true := decide_eq_true c70
            clear c70
            by_cases c71 : 0 ≤ x71_3
            ·rw [if_pos c71] at H
             have c71b0 : decide (0 ≤ x71_3) = true := decide_eq_true c71
             clear c71
             by_cases c72 : x71_3 < (((vq l0_0 x12_1).f2).length : Int)
             ·rw [if_pos c72] at H
              have c72b0 : decide (x71_3 < (((vq l0_0 x12_1).f2).length : Int)) = true := decide_eq_true c72
              clear c72
              by_cases c73 : ((rdOf ByteArray.empty ((vq l0_0 x12_1).f2) x71_3).size : Int) < 1
              ·rw [if_pos c73] at H
               have c73b0 : decide (((rdOf ByteArray.empty ((vq l0_0 x12_1).f2) x71_3).size : Int) < 1) = true := decide_eq_true c73
               have c73b1 : decide ((rdOf ByteArray.empty ((vq l0_0 x12_1).f2) x71_3).size < 1) = true := decide_eq_true (by omega)
               clear c73
               obtain rfl := Option.some.inj H
               have p111 : 0 ≤ (x71_3 : Int) := of_decide_eq_true (by assumption)
               have q111 : x71_3 < (((vq l0_0 x12_1).f2).length : Int) := of_decide_eq_true (by assumption)
               obtain ⟨ad111,e111,hx111_0⟩ := Kd.at_string HR102_2.out x71_3 p111 q111
               cases e111
               replace hx111_0 := (HB.out.cell (World.block_lt_of_cell? w _ hx111_0)).trans hx111_0
               replace p111 := eq_true p111
               replace q111 := eq_true q111
               go_wp2
               go_ret
               exact ⟨by first | rfl | (simp [*,jk,jj] <;> rfl),by repeat (first | (with_reducible first | exact HB.out | apply qj | apply qz | apply qk | refine qx ?_ GE101.out | refine qx ?_ GE103.out) | exact HB.out)⟩
              ·rw [if_neg c73] at H
               have c73b0 : decide (((rdOf ByteArray.empty ((vq l0_0 x12_1).f2) x71_3).size : Int) < 1) = false := decide_eq_false c73
               have c73b1 : decide ((rdOf ByteArray.empty ((vq l0_0 x12_1).f2) x71_3).size < 1) = false := decide_eq_false (by omega)
               clear c73
               by_cases c74 : ((rdOf ByteArray.empty ((vq l0_0 x12_1).f2) x71_3).size : Int) > 200
               ·rw [if_pos c74] at H
                have c74b0 : decide (200 < ((rdOf ByteArray.empty ((vq l0_0 x12_1).f2) x71_3).size : Int)) = true := decide_eq_true c74
                have c74b1 : decide (200 < (rdOf ByteArray.empty ((vq l0_0 x12_1).f2) x71_3).size) = true := decide_eq_true (by omega)
                clear c74
                obtain rfl := Option.some.inj H
                have p111 : 0 ≤ (x71_3 : Int) := of_decide_eq_true (by assumption)
                have q111 : x71_3 < (((vq l0_0 x12_1).f2).length : Int) := of_decide_eq_true (by assumption)
                obtain ⟨ad111,e111,hx111_0⟩ := Kd.at_string HR102_2.out x71_3 p111 q111
                cases e111
                replace hx111_0 := (HB.out.cell (World.block_lt_of_cell? w _ hx111_0)).trans hx111_0
                replace p111 := eq_true p111
                replace q111 := eq_true q111
                go_wp2
                go_ret
                exact ⟨by first | rfl | (simp [*,jk,jj] <;> rfl),by repeat (first | (with_reducible first | exact HB.out | apply qj | apply qz | apply qk | refine qx ?_ GE101.out | refine qx ?_ GE103.out) | exact HB.out)⟩
               ·rw [if_neg c74] at H
                have c74b0 : decide (200 < ((rdOf ByteArray.empty ((vq l0_0 x12_1).f2) x71_3).size : Int)) = false := decide_eq_false c74
                have c74b1 : decide (200 < (rdOf ByteArray.empty ((vq l0_0 x12_1).f2) x71_3).size) = false := decide_eq_false (by omega)
                clear c74
                replace H := Option.bind_eq_some_iff.mp H
                obtain ⟨t112,A750,H⟩ := H
                replace H : (if t112 = true then (qjz.l1 k3 l0_0 (l0_0.length : Int) x12_1 ((vq l0_0 x12_1).f2) (((vq l0_0 x12_1).f2).length : Int) (wrap64 (x71_3 + 1)) l0_0 l0_1 a0_2 a0_3 ((vq l0_0 x12_1).f0) ((vq l0_0 x12_1).f1) ((vq l0_0 x12_1).f2) ((vq l0_0 x12_1).f3) ((vq l0_0 x12_1).f4)) else (some false)) = some r := H
                have A75 := qq.mk A750
                clear A750
                by_cases c76 : t112 = true
                ·subst c76
                 have H1 : (qjz.l1 k3 l0_0 (l0_0.length : Int) x12_1 ((vq l0_0 x12_1).f2) (((vq l0_0 x12_1).f2).length : Int) (wrap64 (x71_3 + 1)) l0_0 l0_1 a0_2 a0_3 ((vq l0_0 x12_1).f0) ((vq l0_0 x12_1).f1) ((vq l0_0 x12_1).f2) ((vq l0_0 x12_1).f3) ((vq l0_0 x12_1).f4)) = some r := by rw [if_pos rfl] at H;exact H
                 clear H
                 have H := H1
                 clear H1
                 have H' := qq.mk H
                 clear H
                 have p111 : 0 ≤ (x71_3 : Int) := of_decide_eq_true (by assumption)
                 have q111 : x71_3 < (((vq l0_0 x12_1).f2).length : Int) := of_decide_eq_true (by assumption)
                 obtain ⟨ad111,e111,hx111_0⟩ := Kd.at_string HR102_2.out x71_3 p111 q111
                 cases e111
                 replace hx111_0 := (HB.out.cell (World.block_lt_of_cell? w _ hx111_0)).trans hx111_0
                 replace p111 := eq_true p111
                 replace q111 := eq_true q111
                 go_wp2_with (first | (go_at_call 45;(with_reducible refine (qkq.calls k3 (rdOf ByteArray.empty ((vq l0_0 x12_1).f2) x71_3) true _ A75.out).mono ?_);rintro e w' ⟨rfl,⟨nd,rfl⟩⟩))
                 go_roundg k3
                 case measure => have := HK1.out;have := HJ6.out;have := HK3.out;omega
                 case rel => exact ⟨(wrap64 (x71_3 + 1)),(by first | rfl | (simp;done) | (simp [*];done)),H',⟨by have := HK1.out;have := HJ6.out;have := HK3.out;omega⟩,⟨by (with_reducible repeat (first | refine zz ?_ _ | refine zj ?_ | refine zq ?_ _));exact BK101.out⟩,⟨by (with_reducible repeat (first | refine zz ?_ _ | refine zj ?_ | refine zq ?_ _));exact BK103.out⟩,⟨by repeat (first | (with_reducible first | exact HB.out | apply qj | apply qz | apply qk | refine qx ?_ GE101.out | refine qx ?_ GE103.out) | exact HB.out)⟩⟩
                ·replace c76 := Bool.eq_false_iff.mpr c76
                 subst c76
                 have H1 : (some false) = some r := by rw [if_neg (show ¬ (false = true) by decide)] at H;exact H
                 clear H
                 have H := H1
                 clear H1
                 obtain rfl := Option.some.inj H
                 have p111 : 0 ≤ (x71_3 : Int) := of_decide_eq_true (by assumption)
                 have q111 : x71_3 < (((vq l0_0 x12_1).f2).length : Int) := of_decide_eq_true (by assumption)
                 obtain ⟨ad111,e111,hx111_0⟩ := Kd.at_string HR102_2.out x71_3 p111 q111
                 cases e111
                 replace hx111_0 := (HB.out.cell (World.block_lt_of_cell? w _ hx111_0)).trans hx111_0
                 replace p111 := eq_true p111
                 replace q111 := eq_true q111
                 go_wp2_with (first | (go_at_call 45;(with_reducible refine (qkq.calls k3 (rdOf ByteArray.empty ((vq l0_0 x12_1).f2) x71_3) false _ A75.out).mono ?_);rintro e w' ⟨rfl,⟨nd,rfl⟩⟩))
                 go_ret
                 exact ⟨by first | rfl | (simp [*,jk,jj] <;> rfl),by repeat (first | (with_reducible first | exact HB.out | apply qj | apply qz | apply qk | refine qx ?_ GE101.out | refine qx ?_ GE103.out) | exact HB.out)⟩
             ·rw [if_neg c72] at H
              exact absurd H (by simp)
            ·rw [if_neg c71] at H
             exact absurd H (by simp)
           ·rw [if_neg c70] at H
            have c70b0 : decide (x71_3 < (((vq l0_0 x12_1).f2).length : Int)) = false := decide_eq_false c70
            clear c70
            have H' := qq.mk H
            clear H
            have hnb77 := NB103_101.out
            have hnc77 := NB101_103.out
            have hcz78_0 : wr.cell? ⟨gb103,0,none⟩ = some (.string ((vq l0_0 x12_1).f0)) := (qw BK103.out 0).trans rfl
            have hcz78_1 : wr.cell? ⟨gb103,1,none⟩ = some (.slice A102_1 ((vq l0_0 x12_1).f1).length c102_1) := (qw BK103.out 1).trans rfl
            have hcz78_2 : wr.cell? ⟨gb103,2,none⟩ = some (.slice A102_2 ((vq l0_0 x12_1).f2).length c102_2) := (qw BK103.out 2).trans rfl
            have hcz78_3 : wr.cell? ⟨gb103,3,none⟩ = some (.slice A102_3 ((vq l0_0 x12_1).f3).length c102_3) := (qw BK103.out 3).trans rfl
            have hcz78_4 : wr.cell? ⟨gb103,4,none⟩ = some (.slice A102_4 ((vq l0_0 x12_1).f4).length c102_4) := (qw BK103.out 4).trans rfl
            have hfz78_0 := qv BK103.out 0
            have hfz78_1 := qv BK103.out 1
            have hfz78_2 := qv BK103.out 2
            have hfz78_3 := qv BK103.out 3
            have hfz78_4 := qv BK103.out 4
            go_wp2
            go_loopg [92] k3 (fun kq v92 w' => ∃ (x92_4 : Int),v92 = .int .i64 x92_4 ∧ qq (qjz.l2 kq l0_0 (l0_0.length : Int) x12_1 ((vq l0_0 x12_1).f4) (((vq l0_0 x12_1).f4).length : Int) x92_4 l0_0 l0_1 a0_2 a0_3 = some r) ∧ qq (kq ≤ k3) ∧ qq (w'.heap[gb101]? = some (.cells #[(.slice (some ad102) l0_0.length c0_0),(.slice A0_1 l0_1.length c0_1),.int .i64 a0_2,.int .i64 a0_3] 45 (0,0))) ∧ qq (w'.heap[gb103]? = some (.cells #[.string ((vq l0_0 x12_1).f0),(.slice A102_1 ((vq l0_0 x12_1).f1).length c102_1),(.slice A102_2 ((vq l0_0 x12_1).f2).length c102_2),(.slice A102_3 ((vq l0_0 x12_1).f3).length c102_3),(.slice A102_4 ((vq l0_0 x12_1).f4).length c102_4)] 77 (0,0))) ∧ qq (Below w.heap.size w w'))
            case atStart => exact ⟨(0),(by first | rfl | (simp;done) | (simp [*];done)),H',⟨Nat.le_refl _⟩,⟨by (with_reducible repeat (first | refine zz ?_ _ | refine zj ?_ | refine zq ?_ _));exact BK101.out⟩,⟨by (with_reducible repeat (first | refine zz ?_ _ | refine zj ?_ | refine zq ?_ _));exact BK103.out⟩,⟨by repeat (first | (with_reducible first | exact HB.out | apply qj | apply qz | apply qk | refine qx ?_ GE101.out | refine qx ?_ GE103.out) | exact HB.out)⟩⟩
            case round =>
             clear H'
             try clear c1
             try clear p1
             try clear q1
             try clear hx1
             try clear p2
             try clear c3
             try clear c6
             try clear p6
             try clear c7
             try clear c10
             try clear p11
             try clear q11
             try clear hx11
             try clear c12
             try clear c37
             try clear p64
             try clear c67
             try clear c68
             try clear c70
             try clear c70b0
             try clear c71
             try clear c71b0
             try clear c72
             try clear c72b0
             try clear c73
             try clear c73b0
             try clear c73b1
             try clear c74
             try clear c74b0
             try clear c74b1
             try clear c76
             try clear c77
             try clear hcz69_0
             try clear hcz69_1
             try clear hcz69_2
             try clear hcz69_3
             try clear hcz69_4
             try clear hcz78_0
             try clear hcz78_1
             try clear hcz78_2
             try clear hcz78_3
             try clear hcz78_4
             try clear hfz69_0
             try clear hfz69_1
             try clear hfz69_2
             try clear hfz69_3
             try clear hfz69_4
             try clear hfz78_0
             try clear hfz78_1
             try clear hfz78_2
             try clear hfz78_3
             try clear hfz78_4
             try clear hx111_0
             try clear p111
             try clear p2
             try clear q111
             obtain ⟨x92_4,rfl,HA,HK4,BK101,BK103,HB⟩ := hrel
             cases gk with
             | zero => exact absurd HA.out (by simp [qjz.l2])
             | succ k4 =>
              have H := HA.out
              clear HA
              simp only [qjz.l2] at H
              by_cases c79 : x92_4 < (((vq l0_0 x12_1).f4).length : Int)
              ·rw [if_pos c79] at H
               have c79b0 : decide (x92_4 < (((vq l0_0 x12_1).f4).length : Int)) = true := decide_eq_true c79
               clear c79
               by_cases c80 : 0 ≤ x92_4
               ·rw [if_pos c80] at H
                have c80b0 : decide (0 ≤ x92_4) = true := decide_eq_true c80
                clear c80
                by_cases c81 : x92_4 < (((vq l0_0 x12_1).f4).length : Int)
                ·rw [if_pos c81] at H
                 have c81b0 : decide (x92_4 < (((vq l0_0 x12_1).f4).length : Int)) = true := decide_eq_true c81
                 clear c81
                 by_cases c82 : (rd ((vq l0_0 x12_1).f4) x92_4) < 1
                 ·rw [if_pos c82] at H
                  have c82b0 : decide ((rd ((vq l0_0 x12_1).f4) x92_4) < 1) = true := decide_eq_true c82
                  clear c82
                  obtain rfl := Option.some.inj H
                  have p113 : 0 ≤ (x92_4 : Int) := of_decide_eq_true (by assumption)
                  have q113 : x92_4 < (((vq l0_0 x12_1).f4).length : Int) := of_decide_eq_true (by assumption)
                  obtain ⟨ad113,e113,hx113_0⟩ := Kd.at_int HR102_4.out x92_4 p113 q113
                  cases e113
                  replace hx113_0 := (HB.out.cell (World.block_lt_of_cell? w _ hx113_0)).trans hx113_0
                  replace p113 := eq_true p113
                  replace q113 := eq_true q113
                  go_wp2
                  go_ret
                  exact ⟨by first | rfl | (simp [*,jk,jj] <;> rfl),by repeat (first | (with_reducible first | exact HB.out | apply qj | apply qz | apply qk | refine qx ?_ GE101.out | refine qx ?_ GE103.out) | exact HB.out)⟩
                 ·rw [if_neg c82] at H
                  have c82b0 : decide ((rd ((vq l0_0 x12_1).f4) x92_4) < 1) = false := decide_eq_false c82
                  clear c82
                  by_cases c83 : (rd ((vq l0_0 x12_1).f4) x92_4) > 4
                  ·rw [if_pos c83] at H
                   have c83b0 : decide (4 < (rd ((vq l0_0 x12_1).f4) x92_4)) = true := decide_eq_true c83
                   clear c83
                   obtain rfl := Option.some.inj H
                   have p113 : 0 ≤ (x92_4 : Int) := of_decide_eq_true (by assumption)
                   have q113 : x92_4 < (((vq l0_0 x12_1).f4).length : Int) := of_decide_eq_true (by assumption)
                   obtain ⟨ad113,e113,hx113_0⟩ := Kd.at_int HR102_4.out x92_4 p113 q113
                   cases e113
                   replace hx113_0 := (HB.out.cell (World.block_lt_of_cell? w _ hx113_0)).trans hx113_0
                   replace p113 := eq_true p113
                   replace q113 := eq_true q113
                   go_wp2
                   go_ret
                   exact ⟨by first | rfl | (simp [*,jk,jj] <;> rfl),by repeat (first | (with_reducible first | exact HB.out | apply qj | apply qz | apply qk | refine qx ?_ GE101.out | refine qx ?_ GE103.out) | exact HB.out)⟩
                  ·rw [if_neg c83] at H
                   have c83b0 : decide (4 < (rd ((vq l0_0 x12_1).f4) x92_4)) = false := decide_eq_false c83
                   clear c83
                   have H' := qq.mk H
                   clear H
                   have p113 : 0 ≤ (x92_4 : Int) := of_decide_eq_true (by assumption)
                   have q113 : x92_4 < (((vq l0_0 x12_1).f4).length : Int) := of_decide_eq_true (by assumption)
                   obtain ⟨ad113,e113,hx113_0⟩ := Kd.at_int HR102_4.out x92_4 p113 q113
                   cases e113
                   replace hx113_0 := (HB.out.cell (World.block_lt_of_cell? w _ hx113_0)).trans hx113_0
                   replace p113 := eq_true p113
                   replace q113 := eq_true q113
                   go_wp2
                   go_roundg k4
                   case measure => have := HK1.out;have := HJ6.out;have := HK3.out;have := HK4.out;omega
                   case rel => exact ⟨(wrap64 (x92_4 + 1)),(by first | rfl | (simp;done) | (simp [*];done)),H',⟨by have := HK1.out;have := HJ6.out;have := HK3.out;have := HK4.out;omega⟩,⟨by (with_reducible repeat (first | refine zz ?_ _ | refine zj ?_ | refine zq ?_ _));exact BK101.out⟩,⟨by (with_reducible repeat (first | refine zz ?_ _ | refine zj ?_ | refine zq ?_ _));exact BK103.out⟩,⟨by repeat (first | (with_reducible first | exact HB.out | apply qj | apply qz | apply qk | refine qx ?_ GE101.out | refine qx ?_ GE103.out) | exact HB.out)⟩⟩
                ·rw [if_neg c81] at H
                 exact absurd H (by simp)
               ·rw [if_neg c80] at H
                exact absurd H (by simp)
              ·rw [if_neg c79] at H
               have c79b0 : decide (x92_4 < (((vq l0_0 x12_1).f4).length : Int)) = false := decide_eq_false c79
               clear c79
               have H' := qq.mk H
               clear H
               go_wp2
               go_roundg k4
               case measure => have := HK1.out;have := HJ6.out;have := HK3.out;have := HK4.out;omega
               case rel => exact ⟨(wrap64 (x12_1 + 1)),(by first | rfl | (simp;done) | (simp [*];done)),H',⟨by have := HK1.out;have := HJ6.out;have := HK3.out;have := HK4.out;omega⟩,⟨by (with_reducible repeat (first | refine zz ?_ _ | refine zj ?_ | refine zq ?_ _));exact BK101.out⟩,⟨by repeat (first | (with_reducible first | exact HB.out | apply qj | apply qz | apply qk | refine qx ?_ GE101.out | refine qx ?_ GE103.out) | exact HB.out)⟩⟩
     ·rw [if_neg c6] at H
      exact absurd H (by simp)
    ·rw [if_neg c5] at H
     exact absurd H (by simp)
   ·rw [if_neg c4] at H
    have c4b0 : decide (x12_1 < (l0_0.length : Int)) = false := decide_eq_false c4
    clear c4
    by_cases c84 : (l0_0.length : Int) ≤ 20
    ·rw [if_pos c84] at H
     have c84b0 : decide ((l0_0.length : Int) ≤ 20) = true := decide_eq_true c84
     have c84b1 : decide (l0_0.length ≤ 20) = true := decide_eq_true (by omega)
     clear c84
     by_cases c85 : (l0_1.length : Int) ≤ 64
     ·rw [if_pos c85] at H
      have c85b0 : decide ((l0_1.length : Int) ≤ 64) = true := decide_eq_true c85
      have c85b1 : decide (l0_1.length ≤ 64) = true := decide_eq_true (by omega)
      clear c85
      by_cases c86 : a0_2 ≥ 1
      ·rw [if_pos c86] at H
       have c86b0 : decide (1 ≤ a0_2) = true := decide_eq_true c86
       clear c86
       by_cases c87 : a0_2 ≤ 1000000
       ·rw [if_pos c87] at H
        have c87b0 : decide (a0_2 ≤ 1000000) = true := decide_eq_true c87
        clear c87
        by_cases c88 : a0_3 ≥ 1
        ·rw [if_pos c88] at H
         have c88b0 : decide (1 ≤ a0_3) = true := decide_eq_true c88
         clear c88
         obtain rfl := Option.some.inj H
         have hcz89_0 : wr.cell? ⟨gb101,0,none⟩ = some (.slice A0_0 l0_0.length c0_0) := (qw BK101.out 0).trans rfl
         have hcz89_1 : wr.cell? ⟨gb101,1,none⟩ = some (.slice A0_1 l0_1.length c0_1) := (qw BK101.out 1).trans rfl
         have hcz89_2 : wr.cell? ⟨gb101,2,none⟩ = some (.int .i64 a0_2) := (qw BK101.out 2).trans rfl
         have hcz89_3 : wr.cell? ⟨gb101,3,none⟩ = some (.int .i64 a0_3) := (qw BK101.out 3).trans rfl
         have hfz89_0 := qv BK101.out 0
         have hfz89_1 := qv BK101.out 1
         have hfz89_2 := qv BK101.out 2
         have hfz89_3 := qv BK101.out 3
         go_wp2
         go_ret
         exact ⟨by first | rfl | (simp [*,jk,jj] <;> rfl),by repeat (first | (with_reducible first | exact HB.out | apply qj | apply qz | apply qk | refine qx ?_ GE101.out) | exact HB.out)⟩
        ·rw [if_neg c88] at H
         have c88b0 : decide (1 ≤ a0_3) = false := decide_eq_false c88
         clear c88
         obtain rfl := Option.some.inj H
         have hcz90_0 : wr.cell? ⟨gb101,0,none⟩ = some (.slice A0_0 l0_0.length c0_0) := (qw BK101.out 0).trans rfl
         have hcz90_1 : wr.cell? ⟨gb101,1,none⟩ = some (.slice A0_1 l0_1.length c0_1) := (qw BK101.out 1).trans rfl
         have hcz90_2 : wr.cell? ⟨gb101,2,none⟩ = some (.int .i64 a0_2) := (qw BK101.out 2).trans rfl
         have hcz90_3 : wr.cell? ⟨gb101,3,none⟩ = some (.int .i64 a0_3) := (qw BK101.out 3).trans rfl
         have hfz90_0 := qv BK101.out 0
         have hfz90_1 := qv BK101.out 1
         have hfz90_2 := qv BK101.out 2
         have hfz90_3 := qv BK101.out 3
         go_wp2
         go_ret
         exact ⟨by first | rfl | (simp [*,jk,jj] <;> rfl),by repeat (first | (with_reducible first | exact HB.out | apply qj | apply qz | apply qk | refine qx ?_ GE101.out) | exact HB.out)⟩
       ·rw [if_neg c87] at H
        have c87b0 : decide (a0_2 ≤ 1000000) = false := decide_eq_false c87
        clear c87
        obtain rfl := Option.some.inj H
        have hcz91_0 : wr.cell? ⟨gb101,0,none⟩ = some (.slice A0_0 l0_0.length c0_0) := (qw BK101.out 0).trans rfl
        have hcz91_1 : wr.cell? ⟨gb101,1,none⟩ = some (.slice A0_1 l0_1.length c0_1) := (qw BK101.out 1).trans rfl
        have hcz91_2 : wr.cell? ⟨gb101,2,none⟩ = some (.int .i64 a0_2) := (qw BK101.out 2).trans rfl
        have hcz91_3 : wr.cell? ⟨gb101,3,none⟩ = some (.int .i64 a0_3) := (qw BK101.out 3).trans rfl
        have hfz91_0 := qv BK101.out 0
        have hfz91_1 := qv BK101.out 1
        have hfz91_2 := qv BK101.out 2
        have hfz91_3 := qv BK101.out 3
        go_wp2
        go_ret
        exact ⟨by first | rfl | (simp [*,jk,jj] <;> rfl),by repeat (first | (with_reducible first | exact HB.out | apply qj | apply qz | apply qk | refine qx ?_ GE101.out) | exact HB.out)⟩
      ·rw [if_neg c86] at H
       have c86b0 : decide (1 ≤ a0_2) = false := decide_eq_false c86
       clear c86
       obtain rfl := Option.some.inj H
       have hcz92_0 : wr.cell? ⟨gb101,0,none⟩ = some (.slice A0_0 l0_0.length c0_0) := (qw BK101.out 0).trans rfl
       have hcz92_1 : wr.cell? ⟨gb101,1,none⟩ = some (.slice A0_1 l0_1.length c0_1) := (qw BK101.out 1).trans rfl
       have hcz92_2 : wr.cell? ⟨gb101,2,none⟩ = some (.int .i64 a0_2) := (qw BK101.out 2).trans rfl
       have hcz92_3 : wr.cell? ⟨gb101,3,none⟩ = some (.int .i64 a0_3) := (qw BK101.out 3).trans rfl
       have hfz92_0 := qv BK101.out 0
       have hfz92_1 := qv BK101.out 1
       have hfz92_2 := qv BK101.out 2
       have hfz92_3 := qv BK101.out 3
       go_wp2
       go_ret
       exact ⟨by first | rfl | (simp [*,jk,jj] <;> rfl),by repeat (first | (with_reducible first | exact HB.out | apply qj | apply qz | apply qk | refine qx ?_ GE101.out) | exact HB.out)⟩
     ·rw [if_neg c85] at H
      have c85b0 : decide ((l0_1.length : Int) ≤ 64) = false := decide_eq_false c85
      have c85b1 : decide (l0_1.length ≤ 64) = false := decide_eq_false (by omega)
      clear c85
      obtain rfl := Option.some.inj H
      have hcz93_0 : wr.cell? ⟨gb101,0,none⟩ = some (.slice A0_0 l0_0.length c0_0) := (qw BK101.out 0).trans rfl
      have hcz93_1 : wr.cell? ⟨gb101,1,none⟩ = some (.slice A0_1 l0_1.length c0_1) := (qw BK101.out 1).trans rfl
      have hcz93_2 : wr.cell? ⟨gb101,2,none⟩ = some (.int .i64 a0_2) := (qw BK101.out 2).trans rfl
      have hcz93_3 : wr.cell? ⟨gb101,3,none⟩ = some (.int .i64 a0_3) := (qw BK101.out 3).trans rfl
      have hfz93_0 := qv BK101.out 0
      have hfz93_1 := qv BK101.out 1
      have hfz93_2 := qv BK101.out 2
      have hfz93_3 := qv BK101.out 3
      go_wp2
      go_ret
      exact ⟨by first | rfl | (simp [*,jk,jj] <;> rfl),by repeat (first | (with_reducible first | exact HB.out | apply qj | apply qz | apply qk | refine qx ?_ GE101.out) | exact HB.out)⟩
    ·rw [if_neg c84] at H
     have c84b0 : decide ((l0_0.length : Int) ≤ 20) = false := decide_eq_false c84
     have c84b1 : decide (l0_0.length ≤ 20) = false := decide_eq_false (by omega)
     clear c84
     obtain rfl := Option.some.inj H
     have hcz94_0 : wr.cell? ⟨gb101,0,none⟩ = some (.slice A0_0 l0_0.length c0_0) := (qw BK101.out 0).trans rfl
     have hcz94_1 : wr.cell? ⟨gb101,1,none⟩ = some (.slice A0_1 l0_1.length c0_1) := (qw BK101.out 1).trans rfl
     have hcz94_2 : wr.cell? ⟨gb101,2,none⟩ = some (.int .i64 a0_2) := (qw BK101.out 2).trans rfl
     have hcz94_3 : wr.cell? ⟨gb101,3,none⟩ = some (.int .i64 a0_3) := (qw BK101.out 3).trans rfl
     have hfz94_0 := qv BK101.out 0
     have hfz94_1 := qv BK101.out 1
     have hfz94_2 := qv BK101.out 2
     have hfz94_3 := qv BK101.out 3
     go_wp2
     go_ret
     exact ⟨by first | rfl | (simp [*,jk,jj] <;> rfl),by repeat (first | (with_reducible first | exact HB.out | apply qj | apply qz | apply qk | refine qx ?_ GE101.out) | exact HB.out)⟩
end Go.Proofs.Ytakocdkcfjkmdaa.Pr
namespace Go.Proofs.Ytakocdkcfjkmdaa.Pr
open Go.RowKit Go.Proofs.YtakocdkcfjkmdaaW.PrintWords Go.Proofs.YtakocdkcfjkmdaaW.PrintLast Go.Proofs.YtakocdkcfjkmdaaW.PrintMore
def anyO {α : Type} (p : α → Option Bool) : List α → Option Bool
 | [] => some false
 | x :: xs => (p x).bind fun b => if b = true then some true else anyO p xs
theorem anyO_mono {α : Type} {p q : α → Option Bool} (h : ∀ x,LeO (p x) (q x)) : ∀ l : List α,LeO (anyO p l) (anyO q l)
 | [] => LeO.refl _
 | x :: xs => LeO.bind (h x) (fun _ => LeO.ite (LeO.refl _) (anyO_mono h xs))
theorem anyO_drop {α : Type} {p : α → Option Bool} {l : List α} {k : Nat} {r : Bool} (hk : k < l.length) (h : anyO p (l.drop k) = some r) : ∃ b,p l[k] = some b ∧ (b = true → r = true) ∧ (b = false → anyO p (l.drop (k + 1)) = some r) := by
 rw [List.drop_eq_getElem_cons hk] at h
 obtain ⟨b,hb,h2⟩ := Option.bind_eq_some_iff.1 h
 refine ⟨b,hb,fun e => ?_,fun e => ?_⟩
 ·subst e;simpa using h2.symm
 ·subst e;simpa using h2
end Go.Proofs.Ytakocdkcfjkmdaa.Pr
namespace Go.Proofs.Ytakocdkcfjkmdaa.Pr
open Go.RowKit Go.Proofs.YtakocdkcfjkmdaaW.PrintWords Go.Proofs.YtakocdkcfjkmdaaW.PrintLast Go.Proofs.YtakocdkcfjkmdaaW.PrintMore
set_option linter.unusedVariables false
set_option linter.unusedSimpArgs false
set_option maxHeartbeats 1000000 in
set_option maxRecDepth 100000 in
theorem indexInt_calls (fn : Nat) (p : Int → Option Bool) (eg : Enters Try.prog fn) (hp : ∀ (x : Int) (b : Bool) (W : World),p x = some b → Calls Try.prog fn #[.int .i64 x] W fun e w' => e = .returned (.bool b) ∧ Drawn0 W w')
  (A0 : Option Addr) (c0 : Nat) (l0 : List Int) (r : Bool) (w : World) (hr0 : Kd.C (Kd.int .i64) w A0 l0.length l0) (h : anyO p l0 = some r) :
  Calls Try.prog 79 #[.slice A0 l0.length c0,.func (.func fn) #[] #[]] w fun e w' => ∃ i : Int,e = .returned (.int .i64 i) ∧ decide (0 ≤ i) = r ∧ Drawn0 w w' := by
 have hmax := Kd.C_max hr0
 have HR0 := qq.mk hr0
 have HM := qq.mk hmax
 have HP := qq.mk hp
 have HH := qq.mk h
 clear hr0 hmax hp h
 have e1 : ∀ (args : Array Value) (w : World),(callFunc fn args).run Try.prog w = .ok (.enter fn args) w := eg
 go_enter Try.func79,Try.ntmps79
 go_wp2
 go_loopw [5,8] (fun v5 i W => ∃ k : Nat,k ≤ l0.length ∧ i = .int .i64 k ∧ qq (anyO p (l0.drop k) = some r ∧ Drawn0 w W)) (fun _ i _ => l0.length - (intOf i).toNat)
 case atStart => exact ⟨0,by omega,rfl,⟨HH.out,Drawn0.refl _⟩⟩
 case round =>
  obtain ⟨k,hk,rfl,HW⟩ := hrel
  have hmax := HM.out
  by_cases hlt : k < l0.length
  ·obtain ⟨ad,rfl,hcell⟩ := Kd.at_int HR0.out k (by omega) (by omega)
   rw [Int.toNat_natCast] at hcell
   obtain ⟨b,hb,h1,h2⟩ := anyO_drop hlt HW.out.1
   have hcell2 : wr.cell? (ad.add k) = some (.int .i64 (l0[k])) := by
    obtain ⟨⟨nd,e⟩⟩ := HW.out.2
    rw [e]
    refine hcell.trans ?_
    simp [rd,rdOf,List.getD_eq_getElem?_getD,List.getElem?_eq_getElem hlt]
   clear hcell
   have HC := qq.mk (fun W => HP.out l0[k] b W hb)
   clear hb
   obtain ⟨x,hx⟩ : ∃ x,x = l0[k] := ⟨_,rfl⟩
   rw [← hx] at hcell2 HC
   clear hx
   cases b with
   | false =>
    have HB := qq.mk (h2 rfl)
    clear h1 h2
    go_wp2_with (go_at_fn fn;refine (HC.out _).mono ?_;rintro e w' ⟨rfl,⟨⟨nd,rfl⟩⟩⟩)
    go_roundw
    case rel => exact ⟨k + 1,by omega,by go_num,⟨HB.out,by repeat (first | exact HW.out.2 | apply Drawn0.step)⟩⟩
    case measure => simp [intOf];omega
   | true =>
    have HB := qq.mk (h1 rfl)
    clear h1 h2
    go_wp2_with (go_at_fn fn;refine (HC.out _).mono ?_;rintro e w' ⟨rfl,⟨⟨nd,rfl⟩⟩⟩)
    go_ret
    exact ⟨k,rfl,by rw [HB.out];exact decide_eq_true (by omega),by repeat (first | exact HW.out.2 | apply Drawn0.step)⟩
  ·obtain rfl : k = l0.length := by omega
   rw [List.drop_length] at HW
   go_wp2
   go_ret
   exact ⟨-1,rfl,by have := Option.some.inj HW.out.1;rw [← this];rfl,HW.out.2⟩
theorem containsInt_calls (fn : Nat) (p : Int → Option Bool) (eg : Enters Try.prog fn) (hp : ∀ (x : Int) (b : Bool) (W : World),p x = some b → Calls Try.prog fn #[.int .i64 x] W fun e w' => e = .returned (.bool b) ∧ Drawn0 W w')
  (A0 : Option Addr) (c0 : Nat) (l0 : List Int) (r : Bool) (w : World) (hr0 : Kd.C (Kd.int .i64) w A0 l0.length l0) (h : anyO p l0 = some r) :
  Calls Try.prog 51 #[.slice A0 l0.length c0,.func (.func fn) #[] #[]] w fun e w' => e = .returned (.bool r) ∧ Drawn0 w w' := by
 have C1 := qq.mk (fun W (hW : Kd.C (Kd.int .i64) W A0 l0.length l0) => indexInt_calls fn p eg hp A0 c0 l0 r W hW h)
 have HR0 := qq.mk hr0
 clear hr0 hp h eg
 go_enter Try.func51,Try.ntmps51
 go_wp2_with (go_at_call 79;refine (C1.out _ HR0.out).mono ?_;rintro e w' ⟨i,rfl,hi,⟨⟨nd,rfl⟩⟩⟩)
 go_ret
 exact ⟨by simp only [← hi];rfl,⟨⟨_,rfl⟩⟩⟩
end Go.Proofs.Ytakocdkcfjkmdaa.Pr
namespace Go.Proofs.Ytakocdkcfjkmdaa.Pr
open Go.RowKit Go.Proofs.YtakocdkcfjkmdaaW.PrintWords Go.Proofs.YtakocdkcfjkmdaaW.PrintLast Go.Proofs.YtakocdkcfjkmdaaW.PrintMore
set_option linter.unusedVariables false
set_option linter.unusedSimpArgs false
set_option maxHeartbeats 1000000 in
set_option maxRecDepth 100000 in
theorem indexStr_calls (fn : Nat) (p : ByteArray → Option Bool) (eg : Enters Try.prog fn) (hp : ∀ (x : ByteArray) (b : Bool) (W : World),p x = some b → Calls Try.prog fn #[.string x] W fun e w' => e = .returned (.bool b) ∧ Drawn0 W w')
  (A0 : Option Addr) (c0 : Nat) (l0 : List ByteArray) (r : Bool) (w : World) (hr0 : Kd.C Kd.string w A0 l0.length l0) (h : anyO p l0 = some r) :
  Calls Try.prog 78 #[.slice A0 l0.length c0,.func (.func fn) #[] #[]] w fun e w' => ∃ i : Int,e = .returned (.int .i64 i) ∧ decide (0 ≤ i) = r ∧ Drawn0 w w' := by
 have hmax := Kd.C_max hr0
 have HR0 := qq.mk hr0
 have HM := qq.mk hmax
 have HP := qq.mk hp
 have HH := qq.mk h
 clear hr0 hmax hp h
 have e1 : ∀ (args : Array Value) (w : World),(callFunc fn args).run Try.prog w = .ok (.enter fn args) w := eg
 go_enter Try.func78,Try.ntmps78
 go_wp2
 go_loopw [5,8] (fun v5 i W => ∃ k : Nat,k ≤ l0.length ∧ i = .int .i64 k ∧ qq (anyO p (l0.drop k) = some r ∧ Drawn0 w W)) (fun _ i _ => l0.length - (intOf i).toNat)
 case atStart => exact ⟨0,by omega,rfl,⟨HH.out,Drawn0.refl _⟩⟩
 case round =>
  obtain ⟨k,hk,rfl,HW⟩ := hrel
  have hmax := HM.out
  by_cases hlt : k < l0.length
  ·obtain ⟨ad,rfl,hcell⟩ := Kd.at_string HR0.out k (by omega) (by omega)
   rw [Int.toNat_natCast] at hcell
   obtain ⟨b,hb,h1,h2⟩ := anyO_drop hlt HW.out.1
   have hcell2 : wr.cell? (ad.add k) = some (.string (l0[k])) := by
    obtain ⟨⟨nd,e⟩⟩ := HW.out.2
    rw [e]
    refine hcell.trans ?_
    simp [rd,rdOf,List.getD_eq_getElem?_getD,List.getElem?_eq_getElem hlt]
   clear hcell
   have HC := qq.mk (fun W => HP.out l0[k] b W hb)
   clear hb
   obtain ⟨x,hx⟩ : ∃ x,x = l0[k] := ⟨_,rfl⟩
   rw [← hx] at hcell2 HC
   clear hx
   cases b with
   | false =>
    have HB := qq.mk (h2 rfl)
    clear h1 h2
    go_wp2_with (go_at_fn fn;refine (HC.out _).mono ?_;rintro e w' ⟨rfl,⟨⟨nd,rfl⟩⟩⟩)
    go_roundw
    case rel => exact ⟨k + 1,by omega,by go_num,⟨HB.out,by repeat (first | exact HW.out.2 | apply Drawn0.step)⟩⟩
    case measure => simp [intOf];omega
   | true =>
    have HB := qq.mk (h1 rfl)
    clear h1 h2
    go_wp2_with (go_at_fn fn;refine (HC.out _).mono ?_;rintro e w' ⟨rfl,⟨⟨nd,rfl⟩⟩⟩)
    go_ret
    exact ⟨k,rfl,by rw [HB.out];exact decide_eq_true (by omega),by repeat (first | exact HW.out.2 | apply Drawn0.step)⟩
  ·obtain rfl : k = l0.length := by omega
   rw [List.drop_length] at HW
   go_wp2
   go_ret
   exact ⟨-1,rfl,by have := Option.some.inj HW.out.1;rw [← this];rfl,HW.out.2⟩
theorem containsStr_calls (fn : Nat) (p : ByteArray → Option Bool) (eg : Enters Try.prog fn) (hp : ∀ (x : ByteArray) (b : Bool) (W : World),p x = some b → Calls Try.prog fn #[.string x] W fun e w' => e = .returned (.bool b) ∧ Drawn0 W w')
  (A0 : Option Addr) (c0 : Nat) (l0 : List ByteArray) (r : Bool) (w : World) (hr0 : Kd.C Kd.string w A0 l0.length l0) (h : anyO p l0 = some r) :
  Calls Try.prog 48 #[.slice A0 l0.length c0,.func (.func fn) #[] #[]] w fun e w' => e = .returned (.bool r) ∧ Drawn0 w w' := by
 have C1 := qq.mk (fun W (hW : Kd.C Kd.string W A0 l0.length l0) => indexStr_calls fn p eg hp A0 c0 l0 r W hW h)
 have HR0 := qq.mk hr0
 clear hr0 hp h eg
 go_enter Try.func48,Try.ntmps48
 go_wp2_with (go_at_call 78;refine (C1.out _ HR0.out).mono ?_;rintro e w' ⟨i,rfl,hi,⟨⟨nd,rfl⟩⟩⟩)
 go_ret
 exact ⟨by simp only [← hi];rfl,⟨⟨_,rfl⟩⟩⟩
end Go.Proofs.Ytakocdkcfjkmdaa.Pr
namespace Go.Proofs.Ytakocdkcfjkmdaa.Pr
open Go.RowKit Go.Proofs.YtakocdkcfjkmdaaW.PrintWords Go.Proofs.YtakocdkcfjkmdaaW.PrintLast Go.Proofs.YtakocdkcfjkmdaaW.PrintMore
attribute [local go_sem] max2_int min2_int max_two min_two max_three min_three max_four min_four
set_option linter.unusedVariables false
set_option linter.unusedSimpArgs false
mutual
def wx.j0 : Nat → ByteArray → Bool → Option (Bool)
 | 0,_,_ => none
 | k + 1,x0,x17 => if x17 = true then (some false) else (wx.l0 k x0 (x0.size : Int) 0)
def wx.l0 : Nat → ByteArray → Int → Int → Option (Bool)
 | 0,_,_,_ => none
 | k + 1,x0,x19,x20 => if x20 < x19 then (if 0 ≤ x20 then (if x20 < (x0.size : Int) then (if (bt x0 x20) < 32 then (some false) else (if (bt x0 x20) > 126 then (some false) else (wx.l0 k x0 x19 (wrap64 (x20 + 1))))) else (none)) else (none)) else (some true)
end
def wx.f (k : Nat) (a0 : ByteArray) (a1 : Int) (a2 : Int) : Option (Bool) := if (a0.size : Int) < a1 then (wx.j0 k a0 true) else (wx.j0 k a0 (decide ((a0.size : Int) > a2)))
theorem wx.mono_l : ∀ k,(∀ y0 y1,LeO (wx.j0 k y0 y1) (wx.j0 (k + 1) y0 y1)) ∧ (∀ y0 y1 y2,LeO (wx.l0 k y0 y1 y2) (wx.l0 (k + 1) y0 y1 y2))
 | 0 => ⟨fun _ _ r h => by simp [wx.j0] at h,fun _ _ _ r h => by simp [wx.l0] at h⟩
 | k + 1 => by
  obtain ⟨ih0,ih1⟩ := wx.mono_l k
  refine ⟨?_,?_⟩
  ·intro y0 y1
   unfold wx.j0
   repeat' first
   | (with_reducible exact ih0 _ _)
   | (with_reducible exact ih1 _ _ _)
   | (with_reducible exact LeO.refl _)
   | (with_reducible exact LeO.none _)
   | (with_reducible refine LeO.ite ?_ ?_)
   | (with_reducible refine LeO.bind ?_ (fun _ => ?_))
   | exact ih0 _ _
   | exact ih1 _ _ _
   | exact LeO.none _
   | refine LeO.ite ?_ ?_
   | refine LeO.bind ?_ (fun _ => ?_)
  ·intro y0 y1 y2
   unfold wx.l0
   repeat' first
   | (with_reducible exact ih0 _ _)
   | (with_reducible exact ih1 _ _ _)
   | (with_reducible exact LeO.refl _)
   | (with_reducible exact LeO.none _)
   | (with_reducible refine LeO.ite ?_ ?_)
   | (with_reducible refine LeO.bind ?_ (fun _ => ?_))
   | exact ih0 _ _
   | exact ih1 _ _ _
   | exact LeO.none _
   | refine LeO.ite ?_ ?_
   | refine LeO.bind ?_ (fun _ => ?_)
theorem wx.mono : ∀ a0 a1 a2 k,LeO (wx.f k a0 a1 a2) (wx.f (k + 1) a0 a1 a2) := by
 intro a0 a1 a2 k
 obtain ⟨ih0,ih1⟩ := wx.mono_l k
 unfold wx.f
 repeat' first
   | (with_reducible exact ih0 _ _)
   | (with_reducible exact ih1 _ _ _)
   | (with_reducible exact LeO.refl _)
   | (with_reducible exact LeO.none _)
   | (with_reducible refine LeO.ite ?_ ?_)
   | (with_reducible refine LeO.bind ?_ (fun _ => ?_))
   | exact ih0 _ _
   | exact ih1 _ _ _
   | exact LeO.none _
   | refine LeO.ite ?_ ?_
   | refine LeO.bind ?_ (fun _ => ?_)
set_option maxHeartbeats 8000000 in
set_option maxRecDepth 100000 in
theorem wx.calls (k : Nat) (a0 : ByteArray) (a1 : Int) (a2 : Int) (r : Bool) (w : World) (h : wx.f k a0 a1 a2 = some r) :
  Calls Try.prog 50 #[.string a0,.int .i64 a1,.int .i64 a2] w fun e w' => e = .returned (.bool r) ∧ Drawn0 w w' := by
 have H : (if (a0.size : Int) < a1 then (wx.j0 k a0 true) else (wx.j0 k a0 (decide ((a0.size : Int) > a2)))) = some r := h
 clear h
 have HC4 := qq.mk H
 clear H
 go_enter Try.func50,Try.ntmps50
 go_upto_region 1 with (fail)
 go_cut [17] (fun v17 wc => ∃ (kq : Nat) (x17_3 : Bool),v17 = .bool x17_3 ∧ qq (wx.j0 kq a0 x17_3 = some r) ∧ qq (kq ≤ k) ∧ Drawn0 w wc)
 case first =>
  have H := HC4.out
  clear HC4
  by_cases c5 : (a0.size : Int) < a1
  ·rw [if_pos c5] at H
   have c5b0 : decide ((a0.size : Int) < a1) = true := decide_eq_true c5
   clear c5
   (first | rw [c5b0] | (simp only [i64_w,i32_w];rw [c5b0]) | skip)
   have H' := qq.mk H
   clear H
   go_wp2
   go_meet
   case rel => exact ⟨_,(true),(by first | rfl | (simp;done) | (simp [*];done)),H',⟨by first | omega | exact Nat.le_refl _⟩,by repeat (first | exact Drawn0.refl _ | apply Drawn0.step)⟩
  ·rw [if_neg c5] at H
   have c5b0 : decide ((a0.size : Int) < a1) = false := decide_eq_false c5
   clear c5
   (first | rw [c5b0] | (simp only [i64_w,i32_w];rw [c5b0]) | skip)
   have H' := qq.mk H
   clear H
   go_wp2
   go_meet
   case rel => exact ⟨_,(decide ((a0.size : Int) > a2)),(by first | rfl | (simp;done) | (simp [*];done)),H',⟨by first | omega | exact Nat.le_refl _⟩,by repeat (first | exact Drawn0.refl _ | apply Drawn0.step)⟩
 case rest =>
  clear HC4
  try clear p2
  try clear c5
  try clear c5b0
  obtain ⟨kq,x17_3,rfl,HA,HJ3,⟨mc3,rfl⟩⟩ := hcut
  cases kq with
  | zero => exact absurd HA.out (by simp [wx.j0])
  | succ kj3 =>
   have H := HA.out
   clear HA
   simp only [wx.j0] at H
   by_cases c6 : x17_3 = true
   ·subst c6
    have H1 : (some false) = some r := by rw [if_pos rfl] at H;exact H
    clear H
    have H := H1
    clear H1
    obtain rfl := Option.some.inj H
    go_wp2
    go_ret
    exact ⟨by first | rfl | (simp;done) | (simp [*];done),by repeat (first | exact Drawn0.refl _ | apply Drawn0.step)⟩
   ·replace c6 := Bool.eq_false_iff.mpr c6
    subst c6
    have H1 : (wx.l0 kj3 a0 (a0.size : Int) 0) = some r := by rw [if_neg (show ¬ (false = true) by decide)] at H;exact H
    clear H
    have H := H1
    clear H1
    have H' := qq.mk H
    clear H
    go_wp2
    go_loopg [20] kj3 (fun kq v20 w' => ∃ (x20_2 : Int),v20 = .int .i64 x20_2 ∧ qq (wx.l0 kq a0 (a0.size : Int) x20_2 = some r) ∧ qq (kq ≤ kj3) ∧ Drawn0 w w')
    case atStart => exact ⟨(0),(by first | rfl | (simp;done) | (simp [*];done)),H',⟨Nat.le_refl _⟩,by repeat (first | exact Drawn0.refl _ | apply Drawn0.step)⟩
    case round =>
     clear H'
     try clear p2
     try clear c3
     try clear c5
     try clear c5b0
     try clear c6
     try clear p2
     obtain ⟨x20_2,rfl,HA,HK2,⟨m2,rfl⟩⟩ := hrel
     cases gk with
     | zero => exact absurd HA.out (by simp [wx.l0])
     | succ k2 =>
      have H := HA.out
      clear HA
      simp only [wx.l0] at H
      by_cases c7 : x20_2 < (a0.size : Int)
      ·rw [if_pos c7] at H
       have c7b0 : decide (x20_2 < (a0.size : Int)) = true := decide_eq_true c7
       clear c7
       by_cases c8 : 0 ≤ x20_2
       ·rw [if_pos c8] at H
        have c8b0 : decide (0 ≤ x20_2) = true := decide_eq_true c8
        clear c8
        by_cases c9 : x20_2 < (a0.size : Int)
        ·rw [if_pos c9] at H
         have c9b0 : decide (x20_2 < (a0.size : Int)) = true := decide_eq_true c9
         clear c9
         by_cases c11 : (bt a0 x20_2) < 32
         ·rw [if_pos c11] at H
          have c11b0 : decide ((bt a0 x20_2) < 32) = true := decide_eq_true c11
          clear c11
          obtain rfl := Option.some.inj H
          have p10 : 0 ≤ (x20_2 : Int) := of_decide_eq_true (by assumption)
          have q10 : x20_2 < (a0.size : Int) := of_decide_eq_true (by assumption)
          have hx10 := bt_at a0 x20_2
          replace p10 := eq_true p10
          replace q10 := eq_true q10
          go_wp2
          go_ret
          exact ⟨by first | rfl | (simp;done) | (simp [*];done),by repeat (first | exact Drawn0.refl _ | apply Drawn0.step)⟩
         ·rw [if_neg c11] at H
          have c11b0 : decide ((bt a0 x20_2) < 32) = false := decide_eq_false c11
          clear c11
          by_cases c13 : (bt a0 x20_2) > 126
          ·rw [if_pos c13] at H
           have c13b0 : decide (126 < (bt a0 x20_2)) = true := decide_eq_true c13
           clear c13
           obtain rfl := Option.some.inj H
           have p10 : 0 ≤ (x20_2 : Int) := of_decide_eq_true (by assumption)
           have q10 : x20_2 < (a0.size : Int) := of_decide_eq_true (by assumption)
           have hx10 := bt_at a0 x20_2
           replace p10 := eq_true p10
           replace q10 := eq_true q10
           have p12 : 0 ≤ (x20_2 : Int) := of_decide_eq_true (by assumption)
           have q12 : x20_2 < (a0.size : Int) := of_decide_eq_true (by assumption)
           have hx12 := bt_at a0 x20_2
           replace p12 := eq_true p12
           replace q12 := eq_true q12
           go_wp2
           go_ret
           exact ⟨by first | rfl | (simp;done) | (simp [*];done),by repeat (first | exact Drawn0.refl _ | apply Drawn0.step)⟩
          ·rw [if_neg c13] at H
           have c13b0 : decide (126 < (bt a0 x20_2)) = false := decide_eq_false c13
           clear c13
           have H' := qq.mk H
           clear H
           have p10 : 0 ≤ (x20_2 : Int) := of_decide_eq_true (by assumption)
           have q10 : x20_2 < (a0.size : Int) := of_decide_eq_true (by assumption)
           have hx10 := bt_at a0 x20_2
           replace p10 := eq_true p10
           replace q10 := eq_true q10
           have p12 : 0 ≤ (x20_2 : Int) := of_decide_eq_true (by assumption)
           have q12 : x20_2 < (a0.size : Int) := of_decide_eq_true (by assumption)
           have hx12 := bt_at a0 x20_2
           replace p12 := eq_true p12
           replace q12 := eq_true q12
           go_wp2
           go_roundg k2
           case measure => have := HJ3.out;have := HK2.out;omega
           case rel => exact ⟨(wrap64 (x20_2 + 1)),(by first | rfl | (simp;done) | (simp [*];done)),H',⟨by have := HJ3.out;have := HK2.out;omega⟩,by repeat (first | exact Drawn0.refl _ | apply Drawn0.step)⟩
        ·rw [if_neg c9] at H
         exact absurd H (by simp)
       ·rw [if_neg c8] at H
        exact absurd H (by simp)
      ·rw [if_neg c7] at H
       have c7b0 : decide (x20_2 < (a0.size : Int)) = false := decide_eq_false c7
       clear c7
       obtain rfl := Option.some.inj H
       go_wp2
       go_ret
       exact ⟨by first | rfl | (simp;done) | (simp [*];done),by repeat (first | exact Drawn0.refl _ | apply Drawn0.step)⟩
end Go.Proofs.Ytakocdkcfjkmdaa.Pr
namespace Go.Proofs.Ytakocdkcfjkmdaa.Pr
open Go.RowKit Go.Proofs.YtakocdkcfjkmdaaW.PrintWords Go.Proofs.YtakocdkcfjkmdaaW.PrintLast Go.Proofs.YtakocdkcfjkmdaaW.PrintMore
attribute [local go_sem] max2_int min2_int max_two min_two max_three min_three max_four min_four
set_option linter.unusedVariables false
set_option linter.unusedSimpArgs false
def vw.f (k : Nat) (a0 : ByteArray) : Option (Bool) := (wx.f k a0 1 200).bind fun t101 => (some (!t101))
theorem vw.mono : ∀ a0 k,LeO (vw.f k a0) (vw.f (k + 1) a0) := by
 intro a0 k
 unfold vw.f
 repeat' first
   | (with_reducible exact wx.mono _ _ _ _)
   | (with_reducible exact LeO.refl _)
   | (with_reducible exact LeO.none _)
   | (with_reducible refine LeO.ite ?_ ?_)
   | (with_reducible refine LeO.bind ?_ (fun _ => ?_))
   | exact wx.mono _ _ _ _
   | exact LeO.none _
   | refine LeO.ite ?_ ?_
   | refine LeO.bind ?_ (fun _ => ?_)
set_option maxHeartbeats 8000000 in
set_option maxRecDepth 100000 in
theorem vw.calls (k : Nat) (a0 : ByteArray) (r : Bool) (w : World) (h : vw.f k a0 = some r) :
  Calls Try.prog 49 #[.string a0] w fun e w' => e = .returned (.bool r) ∧ Drawn0 w w' := by
 have H : ((wx.f k a0 1 200).bind fun t101 => (some (!t101))) = some r := h
 clear h
 replace H := Option.bind_eq_some_iff.mp H
 obtain ⟨t101,A20,H⟩ := H
 replace H : (some (!t101)) = some r := H
 have A2 := qq.mk A20
 clear A20
 obtain rfl := Option.some.inj H
 go_enter Try.func49,Try.ntmps49
 go_wp2_with (first | ((with_reducible refine jv (f := 50) rfl ?_);refine goesL_ (some 4) rfl rfl Try.func50 (by kernel_rfl) rfl #[.string a0,.int .i64 1,.int .i64 200] rfl (by (try simp only [List.map_toArray,List.map_cons,List.map_nil]);first | done | rfl | (simp only [List.length_drop,List.length_take];rfl)) ?_;(with_reducible refine (wx.calls k a0 1 200 t101 _ A2.out).mono ?_);rintro e w' ⟨rfl,⟨nd,rfl⟩⟩;refine ⟨_,rfl,?_⟩))
 go_ret
 exact ⟨by first | rfl | (simp;done) | (simp [*];done),by repeat (first | exact Drawn0.refl _ | apply Drawn0.step)⟩
end Go.Proofs.Ytakocdkcfjkmdaa.Pr
namespace Go.Proofs.Ytakocdkcfjkmdaa.Pr
open Go.RowKit Go.Proofs.YtakocdkcfjkmdaaW.PrintWords Go.Proofs.YtakocdkcfjkmdaaW.PrintLast Go.Proofs.YtakocdkcfjkmdaaW.PrintMore
attribute [local go_sem] max2_int min2_int max_two min_two max_three min_three max_four min_four
set_option linter.unusedVariables false
set_option linter.unusedSimpArgs false
def vx.f (a0 : Int) : Option (Bool) := if a0 < 1 then (some true) else (some (decide (a0 > 4)))
set_option maxHeartbeats 8000000 in
set_option maxRecDepth 100000 in
theorem vx.calls (a0 : Int) (r : Bool) (w : World) (h : vx.f a0 = some r) :
  Calls Try.prog 52 #[.int .i64 a0] w fun e w' => e = .returned (.bool r) ∧ Drawn0 w w' := by
 have H : (if a0 < 1 then (some true) else (some (decide (a0 > 4)))) = some r := h
 clear h
 by_cases c2 : a0 < 1
 ·rw [if_pos c2] at H
  have c2b0 : decide (a0 < 1) = true := decide_eq_true c2
  clear c2
  obtain rfl := Option.some.inj H
  go_enter Try.func52,Try.ntmps52
  go_wp2
  go_ret
  exact ⟨by first | rfl | (simp;done) | (simp [*];done),by repeat (first | exact Drawn0.refl _ | apply Drawn0.step)⟩
 ·rw [if_neg c2] at H
  have c2b0 : decide (a0 < 1) = false := decide_eq_false c2
  clear c2
  obtain rfl := Option.some.inj H
  go_enter Try.func52,Try.ntmps52
  go_wp2
  go_ret
  exact ⟨by first | rfl | (simp;done) | (simp [*];done),by repeat (first | exact Drawn0.refl _ | apply Drawn0.step)⟩
end Go.Proofs.Ytakocdkcfjkmdaa.Pr
namespace Go.Proofs.Ytakocdkcfjkmdaa.Pr
open Go.RowKit Go.Proofs.YtakocdkcfjkmdaaW.PrintWords Go.Proofs.YtakocdkcfjkmdaaW.PrintLast Go.Proofs.YtakocdkcfjkmdaaW.PrintMore
attribute [local go_sem] max2_int min2_int max_two min_two max_three min_three max_four min_four
set_option linter.unusedVariables false
set_option linter.unusedSimpArgs false
def ww.f (a0 : Int) : Option (Bool) := if a0 ≥ 97 then (if a0 ≤ 122 then (some true) else (if a0 ≥ 65 then (some (decide (a0 ≤ 90))) else (some false))) else (if a0 ≥ 65 then (some (decide (a0 ≤ 90))) else (some false))
set_option maxHeartbeats 8000000 in
set_option maxRecDepth 100000 in
theorem ww.calls (a0 : Int) (r : Bool) (w : World) (h : ww.f a0 = some r) :
  Calls Try.prog 90 #[.int .u8 a0] w fun e w' => e = .returned (.bool r) ∧ Drawn0 w w' := by
 have H : (if a0 ≥ 97 then (if a0 ≤ 122 then (some true) else (if a0 ≥ 65 then (some (decide (a0 ≤ 90))) else (some false))) else (if a0 ≥ 65 then (some (decide (a0 ≤ 90))) else (some false))) = some r := h
 clear h
 by_cases c2 : a0 ≥ 97
 ·rw [if_pos c2] at H
  have c2b0 : decide (97 ≤ a0) = true := decide_eq_true c2
  clear c2
  by_cases c3 : a0 ≤ 122
  ·rw [if_pos c3] at H
   have c3b0 : decide (a0 ≤ 122) = true := decide_eq_true c3
   clear c3
   obtain rfl := Option.some.inj H
   go_enter Try.func90,Try.ntmps90
   go_wp2
   go_ret
   exact ⟨by first | rfl | (simp;done) | (simp [*];done),by repeat (first | exact Drawn0.refl _ | apply Drawn0.step)⟩
  ·rw [if_neg c3] at H
   have c3b0 : decide (a0 ≤ 122) = false := decide_eq_false c3
   clear c3
   by_cases c4 : a0 ≥ 65
   ·rw [if_pos c4] at H
    have c4b0 : decide (65 ≤ a0) = true := decide_eq_true c4
    clear c4
    obtain rfl := Option.some.inj H
    go_enter Try.func90,Try.ntmps90
    go_wp2
    go_ret
    exact ⟨by first | rfl | (simp;done) | (simp [*];done),by repeat (first | exact Drawn0.refl _ | apply Drawn0.step)⟩
   ·rw [if_neg c4] at H
    have c4b0 : decide (65 ≤ a0) = false := decide_eq_false c4
    clear c4
    obtain rfl := Option.some.inj H
    go_enter Try.func90,Try.ntmps90
    go_wp2
    go_ret
    exact ⟨by first | rfl | (simp;done) | (simp [*];done),by repeat (first | exact Drawn0.refl _ | apply Drawn0.step)⟩
 ·rw [if_neg c2] at H
  have c2b0 : decide (97 ≤ a0) = false := decide_eq_false c2
  clear c2
  by_cases c5 : a0 ≥ 65
  ·rw [if_pos c5] at H
   have c5b0 : decide (65 ≤ a0) = true := decide_eq_true c5
   clear c5
   obtain rfl := Option.some.inj H
   go_enter Try.func90,Try.ntmps90
   go_wp2
   go_ret
   exact ⟨by first | rfl | (simp;done) | (simp [*];done),by repeat (first | exact Drawn0.refl _ | apply Drawn0.step)⟩
  ·rw [if_neg c5] at H
   have c5b0 : decide (65 ≤ a0) = false := decide_eq_false c5
   clear c5
   obtain rfl := Option.some.inj H
   go_enter Try.func90,Try.ntmps90
   go_wp2
   go_ret
   exact ⟨by first | rfl | (simp;done) | (simp [*];done),by repeat (first | exact Drawn0.refl _ | apply Drawn0.step)⟩
end Go.Proofs.Ytakocdkcfjkmdaa.Pr
namespace Go.Proofs.Ytakocdkcfjkmdaa.Pr
open Go.RowKit Go.Proofs.YtakocdkcfjkmdaaW.PrintWords Go.Proofs.YtakocdkcfjkmdaaW.PrintLast Go.Proofs.YtakocdkcfjkmdaaW.PrintMore
attribute [local go_sem] max2_int min2_int max_two min_two max_three min_three max_four min_four
set_option linter.unusedVariables false
set_option linter.unusedSimpArgs false
def wj.f (a0 : Int) : Option (Bool) := if a0 ≥ 48 then (some (decide (a0 ≤ 57))) else (some false)
set_option maxHeartbeats 8000000 in
set_option maxRecDepth 100000 in
theorem wj.calls (a0 : Int) (r : Bool) (w : World) (h : wj.f a0 = some r) :
  Calls Try.prog 91 #[.int .u8 a0] w fun e w' => e = .returned (.bool r) ∧ Drawn0 w w' := by
 have H : (if a0 ≥ 48 then (some (decide (a0 ≤ 57))) else (some false)) = some r := h
 clear h
 by_cases c2 : a0 ≥ 48
 ·rw [if_pos c2] at H
  have c2b0 : decide (48 ≤ a0) = true := decide_eq_true c2
  clear c2
  obtain rfl := Option.some.inj H
  go_enter Try.func91,Try.ntmps91
  go_wp2
  go_ret
  exact ⟨by first | rfl | (simp;done) | (simp [*];done),by repeat (first | exact Drawn0.refl _ | apply Drawn0.step)⟩
 ·rw [if_neg c2] at H
  have c2b0 : decide (48 ≤ a0) = false := decide_eq_false c2
  clear c2
  obtain rfl := Option.some.inj H
  go_enter Try.func91,Try.ntmps91
  go_wp2
  go_ret
  exact ⟨by first | rfl | (simp;done) | (simp [*];done),by repeat (first | exact Drawn0.refl _ | apply Drawn0.step)⟩
end Go.Proofs.Ytakocdkcfjkmdaa.Pr
namespace Go.Proofs.Ytakocdkcfjkmdaa.Pr
open Go.RowKit Go.Proofs.YtakocdkcfjkmdaaW.PrintWords Go.Proofs.YtakocdkcfjkmdaaW.PrintLast Go.Proofs.YtakocdkcfjkmdaaW.PrintMore
attribute [local go_sem] max2_int min2_int max_two min_two max_three min_three max_four min_four
set_option linter.unusedVariables false
set_option linter.unusedSimpArgs false
def xz.f (a0 : Int) : Option (Bool) := (ww.f a0).bind fun t101 => (if t101 = true then (some true) else ((wj.f a0).bind fun t102 => (if t102 = true then (some true) else (some (a0 == 95)))))
set_option maxHeartbeats 8000000 in
set_option maxRecDepth 100000 in
theorem xz.calls (a0 : Int) (r : Bool) (w : World) (h : xz.f a0 = some r) :
  Calls Try.prog 70 #[.int .u8 a0] w fun e w' => e = .returned (.bool r) ∧ Drawn0 w w' := by
 have H : ((ww.f a0).bind fun t101 => (if t101 = true then (some true) else ((wj.f a0).bind fun t102 => (if t102 = true then (some true) else (some (a0 == 95)))))) = some r := h
 clear h
 replace H := Option.bind_eq_some_iff.mp H
 obtain ⟨t101,A20,H⟩ := H
 replace H : (if t101 = true then (some true) else ((wj.f a0).bind fun t102 => (if t102 = true then (some true) else (some (a0 == 95))))) = some r := H
 have A2 := qq.mk A20
 clear A20
 by_cases c3 : t101 = true
 ·subst c3
  have H1 : (some true) = some r := by rw [if_pos rfl] at H;exact H
  clear H
  have H := H1
  clear H1
  obtain rfl := Option.some.inj H
  go_enter Try.func70,Try.ntmps70
  go_wp2_with (first | ((with_reducible refine jv (f := 90) rfl ?_);refine goesL_ (some 4) rfl rfl Try.func90 (by kernel_rfl) rfl #[.int .u8 a0] rfl (by (try simp only [List.map_toArray,List.map_cons,List.map_nil]);first | done | rfl | (simp only [List.length_drop,List.length_take];rfl)) ?_;(with_reducible refine (ww.calls a0 true _ A2.out).mono ?_);rintro e w' ⟨rfl,⟨nd,rfl⟩⟩;refine ⟨_,rfl,?_⟩))
  go_ret
  exact ⟨by first | rfl | (simp;done) | (simp [*];done),by repeat (first | exact Drawn0.refl _ | apply Drawn0.step)⟩
 ·replace c3 := Bool.eq_false_iff.mpr c3
  subst c3
  have H1 : ((wj.f a0).bind fun t102 => (if t102 = true then (some true) else (some (a0 == 95)))) = some r := by rw [if_neg (show ¬ (false = true) by decide)] at H;exact H
  clear H
  have H := H1
  clear H1
  replace H := Option.bind_eq_some_iff.mp H
  obtain ⟨t102,A40,H⟩ := H
  replace H : (if t102 = true then (some true) else (some (a0 == 95))) = some r := H
  have A4 := qq.mk A40
  clear A40
  by_cases c5 : t102 = true
  ·subst c5
   have H1 : (some true) = some r := by rw [if_pos rfl] at H;exact H
   clear H
   have H := H1
   clear H1
   obtain rfl := Option.some.inj H
   go_enter Try.func70,Try.ntmps70
   go_wp2_with (first | ((with_reducible refine jv (f := 90) rfl ?_);refine goesL_ (some 4) rfl rfl Try.func90 (by kernel_rfl) rfl #[.int .u8 a0] rfl (by (try simp only [List.map_toArray,List.map_cons,List.map_nil]);first | done | rfl | (simp only [List.length_drop,List.length_take];rfl)) ?_;(with_reducible refine (ww.calls a0 false _ A2.out).mono ?_);rintro e w' ⟨rfl,⟨nd,rfl⟩⟩;refine ⟨_,rfl,?_⟩) | (go_at_call 91;(with_reducible refine (wj.calls a0 true _ A4.out).mono ?_);rintro e w' ⟨rfl,⟨nd,rfl⟩⟩))
   go_ret
   exact ⟨by first | rfl | (simp;done) | (simp [*];done),by repeat (first | exact Drawn0.refl _ | apply Drawn0.step)⟩
  ·replace c5 := Bool.eq_false_iff.mpr c5
   subst c5
   have H1 : (some (a0 == 95)) = some r := by rw [if_neg (show ¬ (false = true) by decide)] at H;exact H
   clear H
   have H := H1
   clear H1
   obtain rfl := Option.some.inj H
   go_enter Try.func70,Try.ntmps70
   go_wp2_with (first | ((with_reducible refine jv (f := 90) rfl ?_);refine goesL_ (some 4) rfl rfl Try.func90 (by kernel_rfl) rfl #[.int .u8 a0] rfl (by (try simp only [List.map_toArray,List.map_cons,List.map_nil]);first | done | rfl | (simp only [List.length_drop,List.length_take];rfl)) ?_;(with_reducible refine (ww.calls a0 false _ A2.out).mono ?_);rintro e w' ⟨rfl,⟨nd,rfl⟩⟩;refine ⟨_,rfl,?_⟩) | (go_at_call 91;(with_reducible refine (wj.calls a0 false _ A4.out).mono ?_);rintro e w' ⟨rfl,⟨nd,rfl⟩⟩))
   go_ret
   exact ⟨by first | rfl | (simp;done) | (simp [*];done),by repeat (first | exact Drawn0.refl _ | apply Drawn0.step)⟩
end Go.Proofs.Ytakocdkcfjkmdaa.Pr
namespace Go.Proofs.Ytakocdkcfjkmdaa.Pr
open Go.RowKit Go.Proofs.YtakocdkcfjkmdaaW.PrintWords Go.Proofs.YtakocdkcfjkmdaaW.PrintLast Go.Proofs.YtakocdkcfjkmdaaW.PrintMore
attribute [local go_sem] max2_int min2_int max_two min_two max_three min_three max_four min_four
set_option linter.unusedVariables false
set_option linter.unusedSimpArgs false
mutual
def vk.j0 : Nat → ByteArray → Bool → Option (Bool)
 | 0,_,_ => none
 | k + 1,x0,x15 => if x15 = true then (some false) else (vk.l0 k x0 (x0.size : Int) 0)
def vk.l0 : Nat → ByteArray → Int → Int → Option (Bool)
 | 0,_,_,_ => none
 | k + 1,x0,x17,x18 => if x18 < x17 then (if 0 ≤ x18 then (if x18 < (x0.size : Int) then ((xz.f (bt x0 x18)).bind fun t102 => (if t102 = true then (vk.l0 k x0 x17 (wrap64 (x18 + 1))) else (some false))) else (none)) else (none)) else (some true)
end
def vk.f (k : Nat) (a0 : ByteArray) : Option (Bool) := if a0.toList = ([] : List UInt8) then (vk.j0 k a0 true) else (if (a0.size : Int) > 30 then (vk.j0 k a0 true) else (if 0 < (a0.size : Int) then ((wj.f (bt a0 0)).bind fun t101 => (vk.j0 k a0 t101)) else (none)))
theorem vk.mono_l : ∀ k,(∀ y0 y1,LeO (vk.j0 k y0 y1) (vk.j0 (k + 1) y0 y1)) ∧ (∀ y0 y1 y2,LeO (vk.l0 k y0 y1 y2) (vk.l0 (k + 1) y0 y1 y2))
 | 0 => ⟨fun _ _ r h => by simp [vk.j0] at h,fun _ _ _ r h => by simp [vk.l0] at h⟩
 | k + 1 => by
  obtain ⟨ih0,ih1⟩ := vk.mono_l k
  refine ⟨?_,?_⟩
  ·intro y0 y1
   unfold vk.j0
   repeat' first
   | (with_reducible exact ih0 _ _)
   | (with_reducible exact ih1 _ _ _)
   | (with_reducible exact LeO.refl _)
   | (with_reducible exact LeO.none _)
   | (with_reducible refine LeO.ite ?_ ?_)
   | (with_reducible refine LeO.bind ?_ (fun _ => ?_))
   | exact ih0 _ _
   | exact ih1 _ _ _
   | exact LeO.none _
   | refine LeO.ite ?_ ?_
   | refine LeO.bind ?_ (fun _ => ?_)
  ·intro y0 y1 y2
   unfold vk.l0
   repeat' first
   | (with_reducible exact ih0 _ _)
   | (with_reducible exact ih1 _ _ _)
   | (with_reducible exact LeO.refl _)
   | (with_reducible exact LeO.none _)
   | (with_reducible refine LeO.ite ?_ ?_)
   | (with_reducible refine LeO.bind ?_ (fun _ => ?_))
   | exact ih0 _ _
   | exact ih1 _ _ _
   | exact LeO.none _
   | refine LeO.ite ?_ ?_
   | refine LeO.bind ?_ (fun _ => ?_)
theorem vk.mono : ∀ a0 k,LeO (vk.f k a0) (vk.f (k + 1) a0) := by
 intro a0 k
 obtain ⟨ih0,ih1⟩ := vk.mono_l k
 unfold vk.f
 repeat' first
   | (with_reducible exact ih0 _ _)
   | (with_reducible exact ih1 _ _ _)
   | (with_reducible exact LeO.refl _)
   | (with_reducible exact LeO.none _)
   | (with_reducible refine LeO.ite ?_ ?_)
   | (with_reducible refine LeO.bind ?_ (fun _ => ?_))
   | exact ih0 _ _
   | exact ih1 _ _ _
   | exact LeO.none _
   | refine LeO.ite ?_ ?_
   | refine LeO.bind ?_ (fun _ => ?_)
set_option maxHeartbeats 8000000 in
set_option maxRecDepth 100000 in
theorem vk.calls (k : Nat) (a0 : ByteArray) (r : Bool) (w : World) (h : vk.f k a0 = some r) :
  Calls Try.prog 97 #[.string a0] w fun e w' => e = .returned (.bool r) ∧ Drawn0 w w' := by
 have H : (if a0.toList = ([] : List UInt8) then (vk.j0 k a0 true) else (if (a0.size : Int) > 30 then (vk.j0 k a0 true) else (if 0 < (a0.size : Int) then ((wj.f (bt a0 0)).bind fun t101 => (vk.j0 k a0 t101)) else (none)))) = some r := h
 clear h
 have HC2 := qq.mk H
 clear H
 go_enter Try.func97,Try.ntmps97
 go_upto_region 1 with (fail)
 go_cut [15] (fun v15 wc => ∃ (kq : Nat) (x15_1 : Bool),v15 = .bool x15_1 ∧ qq (vk.j0 kq a0 x15_1 = some r) ∧ qq (kq ≤ k) ∧ Drawn0 w wc)
 case first =>
  have H := HC2.out
  clear HC2
  by_cases c3 : a0.toList = ([] : List UInt8)
  ·rw [if_pos c3] at H
   have c3b0 : (a0.toList == ([] : List UInt8)) = true := beq_iff_eq.mpr c3
   have c3b1 : (a0.toList != ([] : List UInt8)) = false := bne_eq_false_iff_eq.mpr c3
   clear c3
   (first | rw [c3b0] | (simp only [i64_w,i32_w];rw [c3b0]) | skip)
   have H' := qq.mk H
   clear H
   go_wp2
   go_meet
   case rel => exact ⟨_,(true),(by first | rfl | (simp;done) | (simp [*];done) | (generalize ByteArray.toList _ = l_;cases l_ <;> first | rfl | (simp;done))),H',⟨by first | omega | exact Nat.le_refl _⟩,by repeat (first | exact Drawn0.refl _ | apply Drawn0.step)⟩
  ·rw [if_neg c3] at H
   have c3b0 : (a0.toList == ([] : List UInt8)) = false := beq_eq_false_iff_ne.mpr c3
   have c3b1 : (a0.toList != ([] : List UInt8)) = true := bne_iff_ne.mpr c3
   (first | rw [c3b0] | (simp only [i64_w,i32_w];rw [c3b0]) | skip)
   by_cases c4 : (a0.size : Int) > 30
   ·rw [if_pos c4] at H
    have c4b0 : decide (30 < (a0.size : Int)) = true := decide_eq_true c4
    have c4b1 : decide (30 < a0.size) = true := decide_eq_true (by omega)
    clear c4
    have H' := qq.mk H
    clear H
    go_wp2
    go_meet
    case rel => exact ⟨_,(true),(by first | rfl | (simp;done) | (simp [*];done) | (generalize ByteArray.toList _ = l_;cases l_ <;> first | rfl | (simp;done))),H',⟨by first | omega | exact Nat.le_refl _⟩,by repeat (first | exact Drawn0.refl _ | apply Drawn0.step)⟩
   ·rw [if_neg c4] at H
    have c4b0 : decide (30 < (a0.size : Int)) = false := decide_eq_false c4
    have c4b1 : decide (30 < a0.size) = false := decide_eq_false (by omega)
    clear c4
    by_cases c5 : 0 < (a0.size : Int)
    ·rw [if_pos c5] at H
     have c5b0 : decide (0 < (a0.size : Int)) = true := decide_eq_true c5
     have c5b1 : decide (0 < a0.size) = true := decide_eq_true (by omega)
     clear c5
     replace H := Option.bind_eq_some_iff.mp H
     obtain ⟨t101,A70,H⟩ := H
     replace H : (vk.j0 k a0 t101) = some r := H
     have A7 := qq.mk A70
     clear A70
     have H' := qq.mk H
     clear H
     have p6 : 0 ≤ (0 : Int) := (by omega)
     have q6 : 0 < a0.size := (by have : (0 : Int) < (a0.size : Int) := of_decide_eq_true (by assumption);omega)
     have hx6 : ∀ h : 0 < a0.size,((a0[0]'h).toNat : Int) = bt a0 0 := bt_at a0 0
     clear p6
     have qi6 : (0 < (a0.size : Int)) = True := eq_true (of_decide_eq_true (by assumption))
     replace q6 := eq_true q6
     go_wp2_with (first | (go_at_call 91;(with_reducible refine (wj.calls (bt a0 0) t101 _ A7.out).mono ?_);rintro e w' ⟨rfl,⟨nd,rfl⟩⟩))
     go_meet
     case rel => exact ⟨_,(t101),(by first | rfl | (simp;done) | (simp [*];done) | (generalize ByteArray.toList _ = l_;cases l_ <;> first | rfl | (simp;done))),H',⟨by first | omega | exact Nat.le_refl _⟩,by repeat (first | exact Drawn0.refl _ | apply Drawn0.step)⟩
    ·rw [if_neg c5] at H
     exact absurd H (by simp)
 case rest =>
  clear HC2
  try clear p2
  try clear c3
  try clear c3b0
  try clear c3b1
  try clear c4
  try clear c4b0
  try clear c4b1
  try clear c5
  try clear c5b0
  try clear c5b1
  try clear p6
  try clear q6
  try clear hx6
  try clear qi6
  try clear p6
  try clear q6
  obtain ⟨kq,x15_1,rfl,HA,HJ1,⟨mc1,rfl⟩⟩ := hcut
  cases kq with
  | zero => exact absurd HA.out (by simp [vk.j0])
  | succ kj1 =>
   have H := HA.out
   clear HA
   simp only [vk.j0] at H
   by_cases c8 : x15_1 = true
   ·subst c8
    have H1 : (some false) = some r := by rw [if_pos rfl] at H;exact H
    clear H
    have H := H1
    clear H1
    obtain rfl := Option.some.inj H
    go_wp2
    go_ret
    exact ⟨by first | rfl | (simp;done) | (simp [*];done),by repeat (first | exact Drawn0.refl _ | apply Drawn0.step)⟩
   ·replace c8 := Bool.eq_false_iff.mpr c8
    subst c8
    have H1 : (vk.l0 kj1 a0 (a0.size : Int) 0) = some r := by rw [if_neg (show ¬ (false = true) by decide)] at H;exact H
    clear H
    have H := H1
    clear H1
    have H' := qq.mk H
    clear H
    go_wp2
    go_loopg [18] kj1 (fun kq v18 w' => ∃ (x18_2 : Int),v18 = .int .i64 x18_2 ∧ qq (vk.l0 kq a0 (a0.size : Int) x18_2 = some r) ∧ qq (kq ≤ kj1) ∧ Drawn0 w w')
    case atStart => exact ⟨(0),(by first | rfl | (simp;done) | (simp [*];done) | (generalize ByteArray.toList _ = l_;cases l_ <;> first | rfl | (simp;done))),H',⟨Nat.le_refl _⟩,by repeat (first | exact Drawn0.refl _ | apply Drawn0.step)⟩
    case round =>
     clear H'
     try clear c1
     try clear p2
     try clear c3
     try clear c3b0
     try clear c3b1
     try clear c4
     try clear c4b0
     try clear c4b1
     try clear c5
     try clear c5b0
     try clear c5b1
     try clear p6
     try clear q6
     try clear hx6
     try clear qi6
     try clear c8
     try clear p2
     try clear p6
     try clear q6
     obtain ⟨x18_2,rfl,HA,HK2,⟨m2,rfl⟩⟩ := hrel
     cases gk with
     | zero => exact absurd HA.out (by simp [vk.l0])
     | succ k2 =>
      have H := HA.out
      clear HA
      simp only [vk.l0] at H
      by_cases c9 : x18_2 < (a0.size : Int)
      ·rw [if_pos c9] at H
       have c9b0 : decide (x18_2 < (a0.size : Int)) = true := decide_eq_true c9
       clear c9
       by_cases c10 : 0 ≤ x18_2
       ·rw [if_pos c10] at H
        have c10b0 : decide (0 ≤ x18_2) = true := decide_eq_true c10
        clear c10
        by_cases c11 : x18_2 < (a0.size : Int)
        ·rw [if_pos c11] at H
         have c11b0 : decide (x18_2 < (a0.size : Int)) = true := decide_eq_true c11
         clear c11
         replace H := Option.bind_eq_some_iff.mp H
         obtain ⟨t102,A130,H⟩ := H
         replace H : (if t102 = true then (vk.l0 k2 a0 (a0.size : Int) (wrap64 (x18_2 + 1))) else (some false)) = some r := H
         have A13 := qq.mk A130
         clear A130
         by_cases c14 : t102 = true
         ·subst c14
          have H1 : (vk.l0 k2 a0 (a0.size : Int) (wrap64 (x18_2 + 1))) = some r := by rw [if_pos rfl] at H;exact H
          clear H
          have H := H1
          clear H1
          have H' := qq.mk H
          clear H
          have p12 : 0 ≤ (x18_2 : Int) := of_decide_eq_true (by assumption)
          have q12 : x18_2 < (a0.size : Int) := of_decide_eq_true (by assumption)
          have hx12 := bt_at a0 x18_2
          replace p12 := eq_true p12
          replace q12 := eq_true q12
          go_wp2_with (first | ((with_reducible refine jv (f := 70) rfl ?_);refine goesL_ (some 24) rfl rfl Try.func70 (by kernel_rfl) rfl #[.int .u8 (bt a0 x18_2)] rfl (by (try simp only [List.map_toArray,List.map_cons,List.map_nil]);first | done | rfl | (simp only [List.length_drop,List.length_take];rfl)) ?_;(with_reducible refine (xz.calls (bt a0 x18_2) true _ A13.out).mono ?_);rintro e w' ⟨rfl,⟨nd,rfl⟩⟩;refine ⟨_,rfl,?_⟩))
          go_roundg k2
          case measure => have := HJ1.out;have := HK2.out;omega
          case rel => exact ⟨(wrap64 (x18_2 + 1)),(by first | rfl | (simp;done) | (simp [*];done) | (generalize ByteArray.toList _ = l_;cases l_ <;> first | rfl | (simp;done))),H',⟨by have := HJ1.out;have := HK2.out;omega⟩,by repeat (first | exact Drawn0.refl _ | apply Drawn0.step)⟩
         ·replace c14 := Bool.eq_false_iff.mpr c14
          subst c14
          have H1 : (some false) = some r := by rw [if_neg (show ¬ (false = true) by decide)] at H;exact H
          clear H
          have H := H1
          clear H1
          obtain rfl := Option.some.inj H
          have p12 : 0 ≤ (x18_2 : Int) := of_decide_eq_true (by assumption)
          have q12 : x18_2 < (a0.size : Int) := of_decide_eq_true (by assumption)
          have hx12 := bt_at a0 x18_2
          replace p12 := eq_true p12
          replace q12 := eq_true q12
          go_wp2_with (first | ((with_reducible refine jv (f := 70) rfl ?_);refine goesL_ (some 24) rfl rfl Try.func70 (by kernel_rfl) rfl #[.int .u8 (bt a0 x18_2)] rfl (by (try simp only [List.map_toArray,List.map_cons,List.map_nil]);first | done | rfl | (simp only [List.length_drop,List.length_take];rfl)) ?_;(with_reducible refine (xz.calls (bt a0 x18_2) false _ A13.out).mono ?_);rintro e w' ⟨rfl,⟨nd,rfl⟩⟩;refine ⟨_,rfl,?_⟩))
          go_ret
          exact ⟨by first | rfl | (simp;done) | (simp [*];done),by repeat (first | exact Drawn0.refl _ | apply Drawn0.step)⟩
        ·rw [if_neg c11] at H
         exact absurd H (by simp)
       ·rw [if_neg c10] at H
        exact absurd H (by simp)
      ·rw [if_neg c9] at H
       have c9b0 : decide (x18_2 < (a0.size : Int)) = false := decide_eq_false c9
       clear c9
       obtain rfl := Option.some.inj H
       go_wp2
       go_ret
       exact ⟨by first | rfl | (simp;done) | (simp [*];done),by repeat (first | exact Drawn0.refl _ | apply Drawn0.step)⟩
end Go.Proofs.Ytakocdkcfjkmdaa.Pr
namespace Go.Proofs.Ytakocdkcfjkmdaa.Pr
open Go.RowKit Go.Proofs.YtakocdkcfjkmdaaW.PrintWords Go.Proofs.YtakocdkcfjkmdaaW.PrintLast Go.Proofs.YtakocdkcfjkmdaaW.PrintMore
attribute [local go_sem] max2_int min2_int max_two min_two max_three min_three max_four min_four
set_option linter.unusedVariables false
set_option linter.unusedSimpArgs false
def wz.f (k : Nat) (a0 : ByteArray) : Option (Bool) := (vk.f k a0).bind fun t101 => (some (!t101))
theorem wz.mono : ∀ a0 k,LeO (wz.f k a0) (wz.f (k + 1) a0) := by
 intro a0 k
 unfold wz.f
 repeat' first
   | (with_reducible exact vk.mono _ _)
   | (with_reducible exact LeO.refl _)
   | (with_reducible exact LeO.none _)
   | (with_reducible refine LeO.ite ?_ ?_)
   | (with_reducible refine LeO.bind ?_ (fun _ => ?_))
   | exact vk.mono _ _
   | exact LeO.none _
   | refine LeO.ite ?_ ?_
   | refine LeO.bind ?_ (fun _ => ?_)
set_option maxHeartbeats 8000000 in
set_option maxRecDepth 100000 in
theorem wz.calls (k : Nat) (a0 : ByteArray) (r : Bool) (w : World) (h : wz.f k a0 = some r) :
  Calls Try.prog 96 #[.string a0] w fun e w' => e = .returned (.bool r) ∧ Drawn0 w w' := by
 have H : ((vk.f k a0).bind fun t101 => (some (!t101))) = some r := h
 clear h
 replace H := Option.bind_eq_some_iff.mp H
 obtain ⟨t101,A20,H⟩ := H
 replace H : (some (!t101)) = some r := H
 have A2 := qq.mk A20
 clear A20
 obtain rfl := Option.some.inj H
 go_enter Try.func96,Try.ntmps96
 go_wp2_with (first | ((with_reducible refine jv (f := 97) rfl ?_);refine goesL_ (some 4) rfl rfl Try.func97 (by kernel_rfl) rfl #[.string a0] rfl (by (try simp only [List.map_toArray,List.map_cons,List.map_nil]);first | done | rfl | (simp only [List.length_drop,List.length_take];rfl)) ?_;(with_reducible refine (vk.calls k a0 t101 _ A2.out).mono ?_);rintro e w' ⟨rfl,⟨nd,rfl⟩⟩;refine ⟨_,rfl,?_⟩))
 go_ret
 exact ⟨by first | rfl | (simp;done) | (simp [*];done),by repeat (first | exact Drawn0.refl _ | apply Drawn0.step)⟩
end Go.Proofs.Ytakocdkcfjkmdaa.Pr
namespace Go.Proofs.Ytakocdkcfjkmdaa.Pr
open Go.RowKit Go.Proofs.YtakocdkcfjkmdaaW.PrintWords Go.Proofs.YtakocdkcfjkmdaaW.PrintLast Go.Proofs.YtakocdkcfjkmdaaW.PrintMore
set_option linter.unusedVariables false
def has_impl_yallNames_1.f (k : Nat) (l : List ByteArray) : Option Bool := anyO (wz.f k) l
theorem has_impl_yallNames_1.mono (l : List ByteArray) (k : Nat) : LeO (has_impl_yallNames_1.f k l) (has_impl_yallNames_1.f (k + 1) l) := anyO_mono (fun x => wz.mono x k) l
theorem has_impl_yallNames_1.calls (k : Nat) (A0 : Option Addr) (c0 : Nat) (l0 : List ByteArray) (r : Bool) (w : World) (hr0 : Kd.C Kd.string w A0 l0.length l0) (hc0 : l0.length ≤ c0) (h : has_impl_yallNames_1.f k l0 = some r) :
  Calls Try.prog 48 #[.slice A0 l0.length c0,.func (.func 96) #[] #[]] w fun e w' => e = .returned (.bool r) ∧ Drawn0 w w' :=
 containsStr_calls 96 (wz.f k) (enters_of Try.func96 (by kernel_rfl) rfl) (fun x b W hb => wz.calls k x b W hb) A0 c0 l0 r w hr0 h
def has_impl_GoodServer_1.f (k : Nat) (l : List ByteArray) : Option Bool := anyO (vw.f k) l
theorem has_impl_GoodServer_1.mono (l : List ByteArray) (k : Nat) : LeO (has_impl_GoodServer_1.f k l) (has_impl_GoodServer_1.f (k + 1) l) := anyO_mono (fun x => vw.mono x k) l
theorem has_impl_GoodServer_1.calls (k : Nat) (A0 : Option Addr) (c0 : Nat) (l0 : List ByteArray) (r : Bool) (w : World) (hr0 : Kd.C Kd.string w A0 l0.length l0) (hc0 : l0.length ≤ c0) (h : has_impl_GoodServer_1.f k l0 = some r) :
  Calls Try.prog 48 #[.slice A0 l0.length c0,.func (.func 49) #[] #[]] w fun e w' => e = .returned (.bool r) ∧ Drawn0 w w' :=
 containsStr_calls 49 (vw.f k) (enters_of Try.func49 (by kernel_rfl) rfl) (fun x b W hb => vw.calls k x b W hb) A0 c0 l0 r w hr0 h
def has_impl_GoodServer_2.f (k : Nat) (l : List Int) : Option Bool := anyO (vx.f) l
theorem has_impl_GoodServer_2.mono (l : List Int) (k : Nat) : LeO (has_impl_GoodServer_2.f k l) (has_impl_GoodServer_2.f (k + 1) l) := anyO_mono (fun x => LeO.refl _) l
theorem has_impl_GoodServer_2.calls (k : Nat) (A0 : Option Addr) (c0 : Nat) (l0 : List Int) (r : Bool) (w : World) (hr0 : Kd.C (Kd.int .i64) w A0 l0.length l0) (hc0 : l0.length ≤ c0) (h : has_impl_GoodServer_2.f k l0 = some r) :
  Calls Try.prog 51 #[.slice A0 l0.length c0,.func (.func 52) #[] #[]] w fun e w' => e = .returned (.bool r) ∧ Drawn0 w w' :=
 containsInt_calls 52 (vx.f) (enters_of Try.func52 (by kernel_rfl) rfl) (fun x b W hb => vx.calls x b W hb) A0 c0 l0 r w hr0 h
end Go.Proofs.Ytakocdkcfjkmdaa.Pr
namespace Go.Proofs.Ytakocdkcfjkmdaa.Pr
open Go.RowKit Go.Proofs.YtakocdkcfjkmdaaW.PrintWords Go.Proofs.YtakocdkcfjkmdaaW.PrintLast Go.Proofs.YtakocdkcfjkmdaaW.PrintMore
attribute [local go_sem] max2_int min2_int max_two min_two max_three min_three max_four min_four
set_option linter.unusedVariables false
set_option linter.unusedSimpArgs false
mutual
def wv.j0 : Nat → ByteArray → Bool → Option (Bool)
 | 0,_,_ => none
 | k + 1,x0,x11 => if x11 = true then (some false) else (wv.l0 k x0 (x0.size : Int) 0)
def wv.l0 : Nat → ByteArray → Int → Int → Option (Bool)
 | 0,_,_,_ => none
 | k + 1,x0,x13,x14 => if x14 < x13 then (if 0 ≤ x14 then (if x14 < (x0.size : Int) then ((xz.f (bt x0 x14)).bind fun t101 => (if t101 = true then (wv.l0 k x0 x13 (wrap64 (x14 + 1))) else (if (bt x0 x14) = 45 then (wv.l0 k x0 x13 (wrap64 (x14 + 1))) else (if (bt x0 x14) = 46 then (wv.l0 k x0 x13 (wrap64 (x14 + 1))) else (some false))))) else (none)) else (none)) else (some true)
end
def wv.f (k : Nat) (a0 : ByteArray) : Option (Bool) := if (a0.size : Int) < 1 then (wv.j0 k a0 true) else (wv.j0 k a0 (decide ((a0.size : Int) > 40)))
set_option maxHeartbeats 8000000 in
set_option maxRecDepth 100000 in
theorem wv.calls (k : Nat) (a0 : ByteArray) (r : Bool) (w : World) (h : wv.f k a0 = some r) :
  Calls Try.prog 40 #[.string a0] w fun e w' => e = .returned (.bool r) ∧ Drawn0 w w' := by
 have H : (if (a0.size : Int) < 1 then (wv.j0 k a0 true) else (wv.j0 k a0 (decide ((a0.size : Int) > 40)))) = some r := h
 clear h
 have HC2 := qq.mk H
 clear H
 go_enter Try.func40,Try.ntmps40
 go_upto_region 1 with (fail)
 go_cut [11] (fun v11 wc => ∃ (kq : Nat) (x11_1 : Bool),v11 = .bool x11_1 ∧ qq (wv.j0 kq a0 x11_1 = some r) ∧ qq (kq ≤ k) ∧ Drawn0 w wc)
 case first =>
  have H := HC2.out
  clear HC2
  by_cases c3 : (a0.size : Int) < 1
  ·rw [if_pos c3] at H
   have c3b0 : decide ((a0.size : Int) < 1) = true := decide_eq_true c3
   have c3b1 : decide (a0.size < 1) = true := decide_eq_true (by omega)
   clear c3
   (first | rw [c3b0] | (simp only [i64_w,i32_w];rw [c3b0]) | skip)
   have H' := qq.mk H
   clear H
   go_wp2
   go_meet
   case rel => exact ⟨_,(true),(by first | rfl | (simp;done) | (simp [*];done)),H',⟨by first | omega | exact Nat.le_refl _⟩,by repeat (first | exact Drawn0.refl _ | apply Drawn0.step)⟩
  ·rw [if_neg c3] at H
   have c3b0 : decide ((a0.size : Int) < 1) = false := decide_eq_false c3
   have c3b1 : decide (a0.size < 1) = false := decide_eq_false (by omega)
   clear c3
   (first | rw [c3b0] | (simp only [i64_w,i32_w];rw [c3b0]) | skip)
   have H' := qq.mk H
   clear H
   go_wp2
   go_meet
   case rel => exact ⟨_,(decide ((a0.size : Int) > 40)),(by first | rfl | (simp;done) | (simp [*];done)),H',⟨by first | omega | exact Nat.le_refl _⟩,by repeat (first | exact Drawn0.refl _ | apply Drawn0.step)⟩
 case rest =>
  clear HC2
  try clear p2
  try clear c3
  try clear c3b0
  try clear c3b1
  obtain ⟨kq,x11_1,rfl,HA,HJ1,⟨mc1,rfl⟩⟩ := hcut
  cases kq with
  | zero => exact absurd HA.out (by simp [wv.j0])
  | succ kj1 =>
   have H := HA.out
   clear HA
   simp only [wv.j0] at H
   by_cases c4 : x11_1 = true
   ·subst c4
    have H1 : (some false) = some r := by rw [if_pos rfl] at H;exact H
    clear H
    have H := H1
    clear H1
    obtain rfl := Option.some.inj H
    go_wp2
    go_ret
    exact ⟨by first | rfl | (simp;done) | (simp [*];done),by repeat (first | exact Drawn0.refl _ | apply Drawn0.step)⟩
   ·replace c4 := Bool.eq_false_iff.mpr c4
    subst c4
    have H1 : (wv.l0 kj1 a0 (a0.size : Int) 0) = some r := by rw [if_neg (show ¬ (false = true) by decide)] at H;exact H
    clear H
    have H := H1
    clear H1
    have H' := qq.mk H
    clear H
    go_wp2
    go_loopg [14] kj1 (fun kq v14 w' => ∃ (x14_2 : Int),v14 = .int .i64 x14_2 ∧ qq (wv.l0 kq a0 (a0.size : Int) x14_2 = some r) ∧ qq (kq ≤ kj1) ∧ Drawn0 w w')
    case atStart => exact ⟨(0),(by first | rfl | (simp;done) | (simp [*];done)),H',⟨Nat.le_refl _⟩,by repeat (first | exact Drawn0.refl _ | apply Drawn0.step)⟩
    case round =>
     clear H'
     try clear c1
     try clear p2
     try clear c3
     try clear c3b0
     try clear c3b1
     try clear c4
     try clear p2
     obtain ⟨x14_2,rfl,HA,HK2,⟨m2,rfl⟩⟩ := hrel
     cases gk with
     | zero => exact absurd HA.out (by simp [wv.l0])
     | succ k2 =>
      have H := HA.out
      clear HA
      simp only [wv.l0] at H
      by_cases c5 : x14_2 < (a0.size : Int)
      ·rw [if_pos c5] at H
       have c5b0 : decide (x14_2 < (a0.size : Int)) = true := decide_eq_true c5
       clear c5
       by_cases c6 : 0 ≤ x14_2
       ·rw [if_pos c6] at H
        have c6b0 : decide (0 ≤ x14_2) = true := decide_eq_true c6
        clear c6
        by_cases c7 : x14_2 < (a0.size : Int)
        ·rw [if_pos c7] at H
         have c7b0 : decide (x14_2 < (a0.size : Int)) = true := decide_eq_true c7
         clear c7
         replace H := Option.bind_eq_some_iff.mp H
         obtain ⟨t101,A90,H⟩ := H
         replace H : (if t101 = true then (wv.l0 k2 a0 (a0.size : Int) (wrap64 (x14_2 + 1))) else (if (bt a0 x14_2) = 45 then (wv.l0 k2 a0 (a0.size : Int) (wrap64 (x14_2 + 1))) else (if (bt a0 x14_2) = 46 then (wv.l0 k2 a0 (a0.size : Int) (wrap64 (x14_2 + 1))) else (some false)))) = some r := H
         have A9 := qq.mk A90
         clear A90
         by_cases c10 : t101 = true
         ·subst c10
          have H1 : (wv.l0 k2 a0 (a0.size : Int) (wrap64 (x14_2 + 1))) = some r := by rw [if_pos rfl] at H;exact H
          clear H
          have H := H1
          clear H1
          have H' := qq.mk H
          clear H
          have p8 : 0 ≤ (x14_2 : Int) := of_decide_eq_true (by assumption)
          have q8 : x14_2 < (a0.size : Int) := of_decide_eq_true (by assumption)
          have hx8 := bt_at a0 x14_2
          replace p8 := eq_true p8
          replace q8 := eq_true q8
          go_wp2_with (first | ((with_reducible refine jv (f := 70) rfl ?_);refine goesL_ (some 20) rfl rfl Try.func70 (by kernel_rfl) rfl #[.int .u8 (bt a0 x14_2)] rfl (by (try simp only [List.map_toArray,List.map_cons,List.map_nil]);first | done | rfl | (simp only [List.length_drop,List.length_take];rfl)) ?_;(with_reducible refine (xz.calls (bt a0 x14_2) true _ A9.out).mono ?_);rintro e w' ⟨rfl,⟨nd,rfl⟩⟩;refine ⟨_,rfl,?_⟩))
          go_roundg k2
          case measure => have := HJ1.out;have := HK2.out;omega
          case rel => exact ⟨(wrap64 (x14_2 + 1)),(by first | rfl | (simp;done) | (simp [*];done)),H',⟨by have := HJ1.out;have := HK2.out;omega⟩,by repeat (first | exact Drawn0.refl _ | apply Drawn0.step)⟩
         ·replace c10 := Bool.eq_false_iff.mpr c10
          subst c10
          have H1 : (if (bt a0 x14_2) = 45 then (wv.l0 k2 a0 (a0.size : Int) (wrap64 (x14_2 + 1))) else (if (bt a0 x14_2) = 46 then (wv.l0 k2 a0 (a0.size : Int) (wrap64 (x14_2 + 1))) else (some false))) = some r := by rw [if_neg (show ¬ (false = true) by decide)] at H;exact H
          clear H
          have H := H1
          clear H1
          by_cases c12 : (bt a0 x14_2) = 45
          ·rw [if_pos c12] at H
           have c12b0 : ((bt a0 x14_2) == 45) = true := beq_iff_eq.mpr c12
           have c12b1 : ((bt a0 x14_2) != 45) = false := bne_eq_false_iff_eq.mpr c12
           clear c12
           have H' := qq.mk H
           clear H
           have p8 : 0 ≤ (x14_2 : Int) := of_decide_eq_true (by assumption)
           have q8 : x14_2 < (a0.size : Int) := of_decide_eq_true (by assumption)
           have hx8 := bt_at a0 x14_2
           replace p8 := eq_true p8
           replace q8 := eq_true q8
           go_wp2_with (first | ((with_reducible refine jv (f := 70) rfl ?_);refine goesL_ (some 20) rfl rfl Try.func70 (by kernel_rfl) rfl #[.int .u8 (bt a0 x14_2)] rfl (by (try simp only [List.map_toArray,List.map_cons,List.map_nil]);first | done | rfl | (simp only [List.length_drop,List.length_take];rfl)) ?_;(with_reducible refine (xz.calls (bt a0 x14_2) false _ A9.out).mono ?_);rintro e w' ⟨rfl,⟨nd,rfl⟩⟩;refine ⟨_,rfl,?_⟩;have p11 : 0 ≤ (x14_2 : Int) := of_decide_eq_true (by assumption);have q11 : x14_2 < (a0.size : Int) := of_decide_eq_true (by assumption);have hx11 := bt_at a0 x14_2;replace p11 := eq_true p11;replace q11 := eq_true q11))
           go_roundg k2
           case measure => have := HJ1.out;have := HK2.out;omega
           case rel => exact ⟨(wrap64 (x14_2 + 1)),(by first | rfl | (simp;done) | (simp [*];done)),H',⟨by have := HJ1.out;have := HK2.out;omega⟩,by repeat (first | exact Drawn0.refl _ | apply Drawn0.step)⟩
          ·rw [if_neg c12] at H
           have c12b0 : ((bt a0 x14_2) == 45) = false := beq_eq_false_iff_ne.mpr c12
           have c12b1 : ((bt a0 x14_2) != 45) = true := bne_iff_ne.mpr c12
           by_cases c14 : (bt a0 x14_2) = 46
           ·rw [if_pos c14] at H
            have c14b0 : ((bt a0 x14_2) == 46) = true := beq_iff_eq.mpr c14
            have c14b1 : ((bt a0 x14_2) != 46) = false := bne_eq_false_iff_eq.mpr c14
            clear c14
            have H' := qq.mk H
            clear H
            have p8 : 0 ≤ (x14_2 : Int) := of_decide_eq_true (by assumption)
            have q8 : x14_2 < (a0.size : Int) := of_decide_eq_true (by assumption)
            have hx8 := bt_at a0 x14_2
            replace p8 := eq_true p8
            replace q8 := eq_true q8
            go_wp2_with (first | ((with_reducible refine jv (f := 70) rfl ?_);refine goesL_ (some 20) rfl rfl Try.func70 (by kernel_rfl) rfl #[.int .u8 (bt a0 x14_2)] rfl (by (try simp only [List.map_toArray,List.map_cons,List.map_nil]);first | done | rfl | (simp only [List.length_drop,List.length_take];rfl)) ?_;(with_reducible refine (xz.calls (bt a0 x14_2) false _ A9.out).mono ?_);rintro e w' ⟨rfl,⟨nd,rfl⟩⟩;refine ⟨_,rfl,?_⟩;have p11 : 0 ≤ (x14_2 : Int) := of_decide_eq_true (by assumption);have q11 : x14_2 < (a0.size : Int) := of_decide_eq_true (by assumption);have hx11 := bt_at a0 x14_2;replace p11 := eq_true p11;replace q11 := eq_true q11;have p13 : 0 ≤ (x14_2 : Int) := of_decide_eq_true (by assumption);have q13 : x14_2 < (a0.size : Int) := of_decide_eq_true (by assumption);have hx13 := bt_at a0 x14_2;replace p13 := eq_true p13;replace q13 := eq_true q13))
            go_roundg k2
            case measure => have := HJ1.out;have := HK2.out;omega
            case rel => exact ⟨(wrap64 (x14_2 + 1)),(by first | rfl | (simp;done) | (simp [*];done)),H',⟨by have := HJ1.out;have := HK2.out;omega⟩,by repeat (first | exact Drawn0.refl _ | apply Drawn0.step)⟩
           ·rw [if_neg c14] at H
            have c14b0 : ((bt a0 x14_2) == 46) = false := beq_eq_false_iff_ne.mpr c14
            have c14b1 : ((bt a0 x14_2) != 46) = true := bne_iff_ne.mpr c14
            obtain rfl := Option.some.inj H
            have p8 : 0 ≤ (x14_2 : Int) := of_decide_eq_true (by assumption)
            have q8 : x14_2 < (a0.size : Int) := of_decide_eq_true (by assumption)
            have hx8 := bt_at a0 x14_2
            replace p8 := eq_true p8
            replace q8 := eq_true q8
            go_wp2_with (first | ((with_reducible refine jv (f := 70) rfl ?_);refine goesL_ (some 20) rfl rfl Try.func70 (by kernel_rfl) rfl #[.int .u8 (bt a0 x14_2)] rfl (by (try simp only [List.map_toArray,List.map_cons,List.map_nil]);first | done | rfl | (simp only [List.length_drop,List.length_take];rfl)) ?_;(with_reducible refine (xz.calls (bt a0 x14_2) false _ A9.out).mono ?_);rintro e w' ⟨rfl,⟨nd,rfl⟩⟩;refine ⟨_,rfl,?_⟩;have p11 : 0 ≤ (x14_2 : Int) := of_decide_eq_true (by assumption);have q11 : x14_2 < (a0.size : Int) := of_decide_eq_true (by assumption);have hx11 := bt_at a0 x14_2;replace p11 := eq_true p11;replace q11 := eq_true q11;have p13 : 0 ≤ (x14_2 : Int) := of_decide_eq_true (by assumption);have q13 : x14_2 < (a0.size : Int) := of_decide_eq_true (by assumption);have hx13 := bt_at a0 x14_2;replace p13 := eq_true p13;replace q13 := eq_true q13))
            go_ret
            exact ⟨by first | rfl | (simp;done) | (simp [*];done),by repeat (first | exact Drawn0.refl _ | apply Drawn0.step)⟩
        ·rw [if_neg c7] at H
         exact absurd H (by simp)
       ·rw [if_neg c6] at H
        exact absurd H (by simp)
      ·rw [if_neg c5] at H
       have c5b0 : decide (x14_2 < (a0.size : Int)) = false := decide_eq_false c5
       clear c5
       obtain rfl := Option.some.inj H
       go_wp2
       go_ret
       exact ⟨by first | rfl | (simp;done) | (simp [*];done),by repeat (first | exact Drawn0.refl _ | apply Drawn0.step)⟩
end Go.Proofs.Ytakocdkcfjkmdaa.Pr
namespace Go.Proofs.Ytakocdkcfjkmdaa.Pr
open Go.RowKit Go.Proofs.YtakocdkcfjkmdaaW.PrintWords Go.Proofs.YtakocdkcfjkmdaaW.PrintLast Go.Proofs.YtakocdkcfjkmdaaW.PrintMore
attribute [local go_sem] max2_int min2_int max_two min_two max_three min_three max_four min_four
set_option linter.unusedVariables false
set_option linter.unusedSimpArgs false
def xq.l0 : Nat → List ByteArray → List ByteArray → Int → Int → Option (Bool)
 | 0,_,_,_,_ => none
 | k + 1,x0,x5,x6,x7 => if x7 < x6 then (if 0 ≤ x7 then (if x7 < (x5.length : Int) then (if x7 > 0 then (if 0 ≤ (wrap64 (x7 - 1)) then (if (wrap64 (x7 - 1)) < (x0.length : Int) then (if ((Op.bytesLess ((rdOf ByteArray.empty x0 (wrap64 (x7 - 1))).toList) ((rdOf ByteArray.empty x5 x7).toList)) = true) then (xq.l0 k x0 x5 x6 (wrap64 (x7 + 1))) else (some false)) else (none)) else (none)) else (xq.l0 k x0 x5 x6 (wrap64 (x7 + 1)))) else (none)) else (none)) else (some true)
def xq.f (k : Nat) (l0 : List ByteArray) : Option (Bool) := xq.l0 k l0 l0 (l0.length : Int) 0
set_option maxHeartbeats 8000000 in
set_option maxRecDepth 100000 in
theorem xq.calls (k : Nat) (A0 : Option Addr) (c0 : Nat) (l0 : List ByteArray) (r : Bool) (w : World) (hr0 : Kd.C Kd.string w A0 l0.length l0) (hc0 : l0.length ≤ c0) (h : xq.f k l0 = some r) :
  Calls Try.prog 76 #[.slice A0 l0.length c0] w fun e w' => e = .returned (.bool r) ∧ Drawn0 w w' := by
 have HR0 := qq.mk hr0
 have HC0 := qq.mk hc0
 clear hr0 hc0
 have H : (xq.l0 k l0 l0 (l0.length : Int) 0) = some r := h
 clear h
 have H' := qq.mk H
 clear H
 go_enter Try.func76,Try.ntmps76
 go_wp2
 go_loopg [7] k (fun kq v7 w' => ∃ (x7_1 : Int),v7 = .int .i64 x7_1 ∧ qq (xq.l0 kq l0 l0 (l0.length : Int) x7_1 = some r) ∧ qq (kq ≤ k) ∧ Drawn0 w w')
 case atStart => exact ⟨(0),(by first | rfl | (simp;done) | (simp [*];done)),H',⟨Nat.le_refl _⟩,by repeat (first | exact Drawn0.refl _ | apply Drawn0.step)⟩
 case round =>
  clear H'
  obtain ⟨x7_1,rfl,HA,HK1,⟨m1,rfl⟩⟩ := hrel
  cases gk with
  | zero => exact absurd HA.out (by simp [xq.l0])
  | succ k1 =>
   have H := HA.out
   clear HA
   simp only [xq.l0] at H
   by_cases c2 : x7_1 < (l0.length : Int)
   ·rw [if_pos c2] at H
    have c2b0 : decide (x7_1 < (l0.length : Int)) = true := decide_eq_true c2
    clear c2
    by_cases c3 : 0 ≤ x7_1
    ·rw [if_pos c3] at H
     have c3b0 : decide (0 ≤ x7_1) = true := decide_eq_true c3
     clear c3
     by_cases c4 : x7_1 < (l0.length : Int)
     ·rw [if_pos c4] at H
      have c4b0 : decide (x7_1 < (l0.length : Int)) = true := decide_eq_true c4
      clear c4
      by_cases c5 : x7_1 > 0
      ·rw [if_pos c5] at H
       have c5b0 : decide (0 < x7_1) = true := decide_eq_true c5
       clear c5
       obtain ⟨ji6,hji6⟩ : ∃ j_ : Int,(wrap64 (x7_1 - 1)) = j_ := ⟨_,rfl⟩
       replace H : (if 0 ≤ (ji6) then (if (ji6) < (l0.length : Int) then (if ((Op.bytesLess ((rdOf ByteArray.empty l0 (ji6)).toList) ((rdOf ByteArray.empty l0 x7_1).toList)) = true) then (xq.l0 k1 l0 l0 (l0.length : Int) (wrap64 (x7_1 + 1))) else (some false)) else (none)) else (none)) = some r := by first | (rw [hji6] at H;exact H) | (simp only [hji6] at H ⊢;exact H)
       have hji6w : (IntKind.i64.wrap (x7_1 - 1)) = ji6 := (i64_w _).trans hji6
       by_cases c7 : 0 ≤ (ji6)
       ·rw [if_pos c7] at H
        have c7b0 : decide (0 ≤ (ji6)) = true := decide_eq_true c7
        clear c7
        by_cases c8 : (ji6) < (l0.length : Int)
        ·rw [if_pos c8] at H
         have c8b0 : decide ((ji6) < (l0.length : Int)) = true := decide_eq_true c8
         clear c8
         by_cases c9 : ((Op.bytesLess ((rdOf ByteArray.empty l0 (ji6)).toList) ((rdOf ByteArray.empty l0 x7_1).toList)) = true)
         ·rw [if_pos c9] at H
          have c9b0 : (Op.bytesLess ((rdOf ByteArray.empty l0 (ji6)).toList) ((rdOf ByteArray.empty l0 x7_1).toList)) = true := c9
          clear c9
          have H' := qq.mk H
          clear H
          have p101 : 0 ≤ (x7_1 : Int) := of_decide_eq_true (by assumption)
          have q101 : x7_1 < (l0.length : Int) := of_decide_eq_true (by assumption)
          obtain ⟨ad101,e101,hx101_0⟩ := Kd.at_string HR0.out x7_1 p101 q101
          cases e101
          replace p101 := eq_true p101
          replace q101 := eq_true q101
          have p102 : 0 ≤ ((ji6) : Int) := of_decide_eq_true (by assumption)
          have q102 : (ji6) < (l0.length : Int) := of_decide_eq_true (by assumption)
          obtain ⟨ad102,e102,hx102_0⟩ := Kd.at_string HR0.out (ji6) p102 q102
          obtain rfl : ad101 = ad102 := (by injection e102)
          replace p102 := eq_true p102
          replace q102 := eq_true q102
          go_wp2
          go_roundg k1
          case measure => have := HK1.out;omega
          case rel => exact ⟨(wrap64 (x7_1 + 1)),(by first | rfl | (simp;done) | (simp [*];done)),H',⟨by have := HK1.out;omega⟩,by repeat (first | exact Drawn0.refl _ | apply Drawn0.step)⟩
         ·rw [if_neg c9] at H
          have c9b0 : (Op.bytesLess ((rdOf ByteArray.empty l0 (ji6)).toList) ((rdOf ByteArray.empty l0 x7_1).toList)) = false := by simpa using c9
          clear c9
          obtain rfl := Option.some.inj H
          have p101 : 0 ≤ (x7_1 : Int) := of_decide_eq_true (by assumption)
          have q101 : x7_1 < (l0.length : Int) := of_decide_eq_true (by assumption)
          obtain ⟨ad101,e101,hx101_0⟩ := Kd.at_string HR0.out x7_1 p101 q101
          cases e101
          replace p101 := eq_true p101
          replace q101 := eq_true q101
          have p102 : 0 ≤ ((ji6) : Int) := of_decide_eq_true (by assumption)
          have q102 : (ji6) < (l0.length : Int) := of_decide_eq_true (by assumption)
          obtain ⟨ad102,e102,hx102_0⟩ := Kd.at_string HR0.out (ji6) p102 q102
          obtain rfl : ad101 = ad102 := (by injection e102)
          replace p102 := eq_true p102
          replace q102 := eq_true q102
          go_wp2
          go_ret
          exact ⟨by first | rfl | (simp;done) | (simp only [← hji6] <;> (first | rfl | simp)) | (simp [*];done),by repeat (first | exact Drawn0.refl _ | apply Drawn0.step)⟩
        ·rw [if_neg c8] at H
         exact absurd H (by simp)
       ·rw [if_neg c7] at H
        exact absurd H (by simp)
      ·rw [if_neg c5] at H
       have c5b0 : decide (0 < x7_1) = false := decide_eq_false c5
       clear c5
       have H' := qq.mk H
       clear H
       have p101 : 0 ≤ (x7_1 : Int) := of_decide_eq_true (by assumption)
       have q101 : x7_1 < (l0.length : Int) := of_decide_eq_true (by assumption)
       obtain ⟨ad101,e101,hx101_0⟩ := Kd.at_string HR0.out x7_1 p101 q101
       cases e101
       replace p101 := eq_true p101
       replace q101 := eq_true q101
       go_wp2
       go_roundg k1
       case measure => have := HK1.out;omega
       case rel => exact ⟨(wrap64 (x7_1 + 1)),(by first | rfl | (simp;done) | (simp [*];done)),H',⟨by have := HK1.out;omega⟩,by repeat (first | exact Drawn0.refl _ | apply Drawn0.step)⟩
     ·rw [if_neg c4] at H
      exact absurd H (by simp)
    ·rw [if_neg c3] at H
     exact absurd H (by simp)
   ·rw [if_neg c2] at H
    have c2b0 : decide (x7_1 < (l0.length : Int)) = false := decide_eq_false c2
    clear c2
    obtain rfl := Option.some.inj H
    go_wp2
    go_ret
    exact ⟨by first | rfl | (simp;done) | (simp [*];done),by repeat (first | exact Drawn0.refl _ | apply Drawn0.step)⟩
end Go.Proofs.Ytakocdkcfjkmdaa.Pr
namespace Go.Proofs.Ytakocdkcfjkmdaa.Pr
open Go.RowKit Go.Proofs.YtakocdkcfjkmdaaW.PrintWords Go.Proofs.YtakocdkcfjkmdaaW.PrintLast Go.Proofs.YtakocdkcfjkmdaaW.PrintMore
attribute [local go_sem] max2_int min2_int max_two min_two max_three min_three max_four min_four
set_option linter.unusedVariables false
set_option linter.unusedSimpArgs false
def wq.f (k : Nat) (l0 : List ByteArray) : Option (Bool) := (has_impl_yallNames_1.f k l0).bind fun t101 => (some (!t101))
set_option maxHeartbeats 8000000 in
set_option maxRecDepth 100000 in
theorem wq.calls (k : Nat) (A0 : Option Addr) (c0 : Nat) (l0 : List ByteArray) (r : Bool) (w : World) (hr0 : Kd.C Kd.string w A0 l0.length l0) (hc0 : l0.length ≤ c0) (h : wq.f k l0 = some r) :
  Calls Try.prog 77 #[.slice A0 l0.length c0] w fun e w' => e = .returned (.bool r) ∧ Drawn0 w w' := by
 have HR0 := qq.mk hr0
 have HC0 := qq.mk hc0
 clear hr0 hc0
 have H : ((has_impl_yallNames_1.f k l0).bind fun t101 => (some (!t101))) = some r := h
 clear h
 replace H := Option.bind_eq_some_iff.mp H
 obtain ⟨t101,A20,H⟩ := H
 replace H : (some (!t101)) = some r := H
 have A2 := qq.mk A20
 clear A20
 obtain rfl := Option.some.inj H
 go_enter Try.func77,Try.ntmps77
 go_wp2_with (first | ((with_reducible refine jv (f := 48) rfl ?_);refine goesL_ (some 4) rfl rfl Try.func48 (by kernel_rfl) rfl #[.slice A0 l0.length c0,.func (.func 96) #[] #[]] rfl (by (try simp only [List.map_toArray,List.map_cons,List.map_nil]);first | done | rfl | (simp only [List.length_drop,List.length_take];rfl)) ?_;(with_reducible refine (has_impl_yallNames_1.calls k _ _ l0 t101 _ ?side1 ?side2 A2.out).mono ?_);(case side1 => repeat (first | exact HR0.out | (with_reducible refine Kd.C_alloc ?_ _) | (with_reducible refine Kd.C_drewN ?_ _) | (with_reducible refine Kd.C_drew ?_)));(case side2 => exact HC0.out);rintro e w' ⟨rfl,⟨nd,rfl⟩⟩;refine ⟨_,rfl,?_⟩))
 go_ret
 exact ⟨by first | rfl | (simp;done) | (simp [*];done),by repeat (first | exact Drawn0.refl _ | apply Drawn0.step)⟩
end Go.Proofs.Ytakocdkcfjkmdaa.Pr
namespace Go.Proofs.Ytakocdkcfjkmdaa.Pr
open Go.RowKit Go.Proofs.YtakocdkcfjkmdaaW.PrintWords Go.Proofs.YtakocdkcfjkmdaaW.PrintLast Go.Proofs.YtakocdkcfjkmdaaW.PrintMore
attribute [local go_sem] max2_int min2_int max_two min_two max_three min_three max_four min_four
set_option linter.unusedVariables false
set_option linter.unusedSimpArgs false
def wk.f (k : Nat) (l0 : List ByteArray) : Option (Bool) := if (l0.length : Int) ≤ 20 then ((xq.f k l0).bind fun t101 => (if t101 = true then ((wq.f k l0).bind fun t102 => (some t102)) else (some false))) else (some false)
set_option maxHeartbeats 8000000 in
set_option maxRecDepth 100000 in
theorem wk.calls (k : Nat) (A0 : Option Addr) (c0 : Nat) (l0 : List ByteArray) (r : Bool) (w : World) (hr0 : Kd.C Kd.string w A0 l0.length l0) (hc0 : l0.length ≤ c0) (h : wk.f k l0 = some r) :
  Calls Try.prog 47 #[.slice A0 l0.length c0] w fun e w' => e = .returned (.bool r) ∧ Drawn0 w w' := by
 have HR0 := qq.mk hr0
 have HC0 := qq.mk hc0
 clear hr0 hc0
 have H : (if (l0.length : Int) ≤ 20 then ((xq.f k l0).bind fun t101 => (if t101 = true then ((wq.f k l0).bind fun t102 => (some t102)) else (some false))) else (some false)) = some r := h
 clear h
 by_cases c2 : (l0.length : Int) ≤ 20
 ·rw [if_pos c2] at H
  have c2b0 : decide ((l0.length : Int) ≤ 20) = true := decide_eq_true c2
  have c2b1 : decide (l0.length ≤ 20) = true := decide_eq_true (by omega)
  clear c2
  replace H := Option.bind_eq_some_iff.mp H
  obtain ⟨t101,A30,H⟩ := H
  replace H : (if t101 = true then ((wq.f k l0).bind fun t102 => (some t102)) else (some false)) = some r := H
  have A3 := qq.mk A30
  clear A30
  by_cases c4 : t101 = true
  ·subst c4
   have H1 : ((wq.f k l0).bind fun t102 => (some t102)) = some r := by rw [if_pos rfl] at H;exact H
   clear H
   have H := H1
   clear H1
   replace H := Option.bind_eq_some_iff.mp H
   obtain ⟨t102,A50,H⟩ := H
   replace H : (some t102) = some r := H
   have A5 := qq.mk A50
   clear A50
   obtain rfl := Option.some.inj H
   go_enter Try.func47,Try.ntmps47
   go_wp2_with (first | (go_at_call 76;(with_reducible refine (xq.calls k _ _ l0 true _ ?side1 ?side2 A3.out).mono ?_);(case side1 => repeat (first | exact HR0.out | (with_reducible refine Kd.C_alloc ?_ _) | (with_reducible refine Kd.C_drewN ?_ _) | (with_reducible refine Kd.C_drew ?_)));(case side2 => exact HC0.out);rintro e w' ⟨rfl,⟨nd,rfl⟩⟩) | (go_at_call 77;(with_reducible refine (wq.calls k _ _ l0 t102 _ ?side1 ?side2 A5.out).mono ?_);(case side1 => repeat (first | exact HR0.out | (with_reducible refine Kd.C_alloc ?_ _) | (with_reducible refine Kd.C_drewN ?_ _) | (with_reducible refine Kd.C_drew ?_)));(case side2 => exact HC0.out);rintro e w' ⟨rfl,⟨nd,rfl⟩⟩))
   go_ret
   exact ⟨by first | rfl | (simp;done) | (simp [*];done),by repeat (first | exact Drawn0.refl _ | apply Drawn0.step)⟩
  ·replace c4 := Bool.eq_false_iff.mpr c4
   subst c4
   have H1 : (some false) = some r := by rw [if_neg (show ¬ (false = true) by decide)] at H;exact H
   clear H
   have H := H1
   clear H1
   obtain rfl := Option.some.inj H
   go_enter Try.func47,Try.ntmps47
   go_wp2_with (first | (go_at_call 76;(with_reducible refine (xq.calls k _ _ l0 false _ ?side1 ?side2 A3.out).mono ?_);(case side1 => repeat (first | exact HR0.out | (with_reducible refine Kd.C_alloc ?_ _) | (with_reducible refine Kd.C_drewN ?_ _) | (with_reducible refine Kd.C_drew ?_)));(case side2 => exact HC0.out);rintro e w' ⟨rfl,⟨nd,rfl⟩⟩))
   go_ret
   exact ⟨by first | rfl | (simp;done) | (simp [*];done),by repeat (first | exact Drawn0.refl _ | apply Drawn0.step)⟩
 ·rw [if_neg c2] at H
  have c2b0 : decide ((l0.length : Int) ≤ 20) = false := decide_eq_false c2
  have c2b1 : decide (l0.length ≤ 20) = false := decide_eq_false (by omega)
  clear c2
  obtain rfl := Option.some.inj H
  go_enter Try.func47,Try.ntmps47
  go_wp2
  go_ret
  exact ⟨by first | rfl | (simp;done) | (simp [*];done),by repeat (first | exact Drawn0.refl _ | apply Drawn0.step)⟩
end Go.Proofs.Ytakocdkcfjkmdaa.Pr
