/- Printed texts, walks and plain facts that the law FnNames leans on, joined. -/
import Derived.Test.YtccbjchlcelkgaaFullFnNamesC
import Derived.Deep.QuietTactic
import Derived.BigQuiet
import Derived.Laws.Cover1
import Derived.Laws.Strings
import Derived.Lib.IndexLaws
import Derived.StillTailTactics
namespace Go.Proofs.Ytccbjchlcelkgaa.Pr
open Go.RowKit Go.Proofs.YtccbjchlcelkgaaW.PrintWords Go.Proofs.YtccbjchlcelkgaaW.PrintLast Go.Proofs.YtccbjchlcelkgaaW.PrintMore
attribute [local go_sem] max2_int min2_int max_two min_two max_three min_three max_four min_four
set_option linter.unusedVariables false
set_option linter.unusedSimpArgs false
mutual
def qjj.l0 : Nat → ByteArray → ByteArray → Int → List Int → Int → Int → Option (ByteArray × Int × Int)
 | 0,_,_,_,_,_,_ => none
 | k + 1,x1,x2,x7,x1000,x1001,x1002 => if x7 > 0 then (qjj.j1 k x1 x2 x7 (decide ((x1.size : Int) > 0)) x1000 x1001 x1002) else (qjj.j1 k x1 x2 x7 false x1000 x1001 x1002)
def qjj.j1 : Nat → ByteArray → ByteArray → Int → Bool → List Int → Int → Int → Option (ByteArray × Int × Int)
 | 0,_,_,_,_,_,_,_ => none
 | k + 1,x1,x2,x7,x18,x1000,x1001,x1002 => if x18 = true then ((qjz.f x1000 x1001 x1002 (x1.size : Int)).bind fun bt104 => ((qjz.f x1000 bt104.2.1 bt104.2.2 (x2.size : Int)).bind fun bt107 => (if 0 ≤ bt107.1 then (if bt107.1 < (x2.size : Int) then ((some (([bt x2 bt107.1] : List Int) : List Int)).bind fun y110 => ((qjz.f x1000 bt107.2.1 bt107.2.2 3).bind fun bt113 => (if bt113.1 = 0 then (if 0 ≤ bt104.1 then (if bt104.1 ≤ (x1.size : Int) then (if (x1.extract 0 (bt104.1 : Int).toNat).size + (strOfNums y110).size ≤ 9223372036854775807 then (if ((x1.extract 0 (bt104.1 : Int).toNat) ++ (strOfNums y110)).size + (x1.extract (bt104.1 : Int).toNat x1.size).size ≤ 9223372036854775807 then (qjj.l0 k (((x1.extract 0 (bt104.1 : Int).toNat) ++ (strOfNums y110)) ++ (x1.extract (bt104.1 : Int).toNat x1.size)) x2 (wrap64 (x7 - 1)) x1000 bt113.2.1 bt113.2.2) else (none)) else (none)) else (none)) else (none)) else (if bt113.1 = 1 then (if 0 ≤ bt104.1 then (if bt104.1 ≤ (x1.size : Int) then (if (x1.extract 0 (bt104.1 : Int).toNat).size + (strOfNums y110).size ≤ 9223372036854775807 then (if 0 ≤ (wrap64 (bt104.1 + 1)) then (if (wrap64 (bt104.1 + 1)) ≤ (x1.size : Int) then (if ((x1.extract 0 (bt104.1 : Int).toNat) ++ (strOfNums y110)).size + (x1.extract ((wrap64 (bt104.1 + 1)) : Int).toNat x1.size).size ≤ 9223372036854775807 then (qjj.l0 k (((x1.extract 0 (bt104.1 : Int).toNat) ++ (strOfNums y110)) ++ (x1.extract ((wrap64 (bt104.1 + 1)) : Int).toNat x1.size)) x2 (wrap64 (x7 - 1)) x1000 bt113.2.1 bt113.2.2) else (none)) else (none)) else (none)) else (none)) else (none)) else (none)) else (if 0 ≤ bt104.1 then (if bt104.1 ≤ (x1.size : Int) then (if 0 ≤ (wrap64 (bt104.1 + 1)) then (if (wrap64 (bt104.1 + 1)) ≤ (x1.size : Int) then (if (x1.extract 0 (bt104.1 : Int).toNat).size + (x1.extract ((wrap64 (bt104.1 + 1)) : Int).toNat x1.size).size ≤ 9223372036854775807 then (qjj.l0 k ((x1.extract 0 (bt104.1 : Int).toNat) ++ (x1.extract ((wrap64 (bt104.1 + 1)) : Int).toNat x1.size)) x2 (wrap64 (x7 - 1)) x1000 bt113.2.1 bt113.2.2) else (none)) else (none)) else (none)) else (none)) else (none)))))) else (none)) else (none)))) else (some (x1,x1001,x1002))
end
def qjj.f (k : Nat) (s0_0 : List Int) (s0_1 : Int) (s0_2 : Int) (a1 : ByteArray) (a2 : ByteArray) : Option (ByteArray × Int × Int) := (qjz.f s0_0 s0_1 s0_2 3).bind fun bt101 => (qjj.l0 k a1 a2 bt101.1 s0_0 bt101.2.1 bt101.2.2)
set_option maxHeartbeats 8000000 in
set_option maxRecDepth 100000 in
theorem qjj.calls (k : Nat) (g : Nat) (s0_0 : List Int) (s0_1 : Int) (s0_2 : Int) (a1 : ByteArray) (a2 : ByteArray) (r1 : ByteArray) (r2 : Int) (r3 : Int) (w0 w : World) (hI : vq w0 w g s0_0 s0_1 s0_2) (hB : Below w0.heap.size w0 w) (h : qjj.f k s0_0 s0_1 s0_2 a1 a2 = some (r1,r2,r3)) :
  Calls Try.prog 64 #[.pointer (some ⟨g,0,none⟩),.string a1,.string a2] w fun e w' => e = .returned (.string r1) ∧ vq w0 w' g s0_0 r2 r3 ∧ Below w0.heap.size w0 w' ∧ zk w w' g none := by
 have HI0 := qq.mk hI
 have HK := qq.mk (zk.refl w g none)
 have HL := qq.mk hB.size
 clear hI
 have HW0 := qq.mk hB.size
 have HB := qq.mk hB
 clear hB
 have H : ((qjz.f s0_0 s0_1 s0_2 3).bind fun bt101 => (qjj.l0 k a1 a2 bt101.1 s0_0 bt101.2.1 bt101.2.2)) = some (r1,r2,r3) := h
 clear h
 replace H := Option.bind_eq_some_iff.mp H
 obtain ⟨⟨t101,t102,t103⟩,A40,H⟩ := H
 replace H : (qjj.l0 k a1 a2 t101 s0_0 t102 t103) = some (r1,r2,r3) := H
 have A4 := qq.mk A40
 clear A40
 have H' := qq.mk H
 clear H
 go_enter Try.func64,Try.ntmps64
 go_wp2_with (first | (go_at_call 54;(with_reducible refine (qjz.calls g s0_0 s0_1 s0_2 3 t101 t102 t103 w0 _ ?side1 ?side2 A4.out).mono ?_);(case side1 => repeat (first | (with_reducible first | exact HI0.out | apply vq.alloc | apply vq.drewN | apply vq.drew | apply vq.set_1 | apply vq.set_2) | exact HI0.out));(case side2 => repeat (first | (with_reducible first | exact HB.out | apply qj | apply qz | apply qk | refine qx ?_ (vq.ge HI0.out)) | exact HB.out));rintro e w5 ⟨rfl,hi,hb,hk⟩;have n0_ := qq.mk (zk.trans (by repeat (first | (with_reducible first | exact HK.out | apply zk.set_ | apply jj | apply jv | apply jk) | exact HK.out)) hk (.inl rfl));have n1_ := qq.mk (hb);have n2_ := qq.mk (hi);clear HK;clear HB;clear HI0;have HK := n0_;have HB := n1_;have HI0 := n2_;clear n0_ n1_ n2_;(try clear hb);(try clear hb2);(try clear hk);(try clear hi)))
 repeat (go_quiet (first | (go_at_call 54;(with_reducible refine (qjz.calls g s0_0 s0_1 s0_2 3 t101 t102 t103 w0 _ ?side1 ?side2 A4.out).mono ?_);(case side1 => repeat (first | (with_reducible first | exact HI0.out | apply vq.alloc | apply vq.drewN | apply vq.drew | apply vq.set_1 | apply vq.set_2) | exact HI0.out));(case side2 => repeat (first | (with_reducible first | exact HB.out | apply qj | apply qz | apply qk | refine qx ?_ (vq.ge HI0.out)) | exact HB.out));rintro e w5 ⟨rfl,hi,hb,hk⟩;have n0_ := qq.mk (zk.trans (by repeat (first | (with_reducible first | exact HK.out | apply zk.set_ | apply jj | apply jv | apply jk) | exact HK.out)) hk (.inl rfl));have n1_ := qq.mk (hb);have n2_ := qq.mk (hi);clear HK;clear HB;clear HI0;have HK := n0_;have HB := n1_;have HI0 := n2_;clear n0_ n1_ n2_;(try clear hb);(try clear hb2);(try clear hk);(try clear hi)));try go_wp2_with (first | (go_at_call 54;(with_reducible refine (qjz.calls g s0_0 s0_1 s0_2 3 t101 t102 t103 w0 _ ?side1 ?side2 A4.out).mono ?_);(case side1 => repeat (first | (with_reducible first | exact HI0.out | apply vq.alloc | apply vq.drewN | apply vq.drew | apply vq.set_1 | apply vq.set_2) | exact HI0.out));(case side2 => repeat (first | (with_reducible first | exact HB.out | apply qj | apply qz | apply qk | refine qx ?_ (vq.ge HI0.out)) | exact HB.out));rintro e w5 ⟨rfl,hi,hb,hk⟩;have n0_ := qq.mk (zk.trans (by repeat (first | (with_reducible first | exact HK.out | apply zk.set_ | apply jj | apply jv | apply jk) | exact HK.out)) hk (.inl rfl));have n1_ := qq.mk (hb);have n2_ := qq.mk (hi);clear HK;clear HB;clear HI0;have HK := n0_;have HB := n1_;have HI0 := n2_;clear n0_ n1_ n2_;(try clear hb);(try clear hb2);(try clear hk);(try clear hi))))
 go_loopg [1,7] k (fun kq v1 v7 w' => ∃ (x1_1 : ByteArray) (x7_1 : Int) (x1001_1 : Int) (x1002_1 : Int),v1 = .string x1_1 ∧ v7 = .int .i64 x7_1 ∧ qq (qjj.l0 kq x1_1 a2 x7_1 s0_0 x1001_1 x1002_1 = some (r1,r2,r3)) ∧ qq (kq ≤ k) ∧ qq (vq w0 w' g s0_0 x1001_1 x1002_1) ∧ qq (zk w w' g none) ∧ qq (Below w0.heap.size w0 w'))
 case atStart => exact ⟨(a1),(t101),(t102),(t103),(by first | rfl | (simp;done) | (simp [*];done)),(by first | rfl | (simp;done) | (simp [*];done)),H',⟨Nat.le_refl _⟩,⟨by repeat (first | (with_reducible first | exact HI0.out | apply vq.alloc | apply vq.drewN | apply vq.drew | apply vq.set_1 | apply vq.set_2) | exact HI0.out)⟩,⟨by repeat (first | (with_reducible first | exact HK.out | apply zk.set_ | apply jj | apply jv | apply jk) | exact HK.out)⟩,⟨by repeat (first | (with_reducible first | exact HB.out | apply qj | apply qz | apply qk | refine qx ?_ (vq.ge HI0.out)) | exact HB.out)⟩⟩
 case round =>
  clear H'
  try clear p2
  obtain ⟨x1_1,x7_1,x1001_1,x1002_1,rfl,rfl,HA,HK1,HI0,HK,HB⟩ := hrel
  cases gk with
  | zero => exact absurd HA.out (by simp [qjj.l0])
  | succ k1 =>
   have H := HA.out
   clear HA
   simp only [qjj.l0] at H
   have HC6 := qq.mk H
   clear H
   go_upto_region 2 with (fail)
   repeat (go_quiet (fail);go_upto_region 2 with (fail))
   go_cut [18] (fun v18 wc => ∃ (kq : Nat) (x18_5 : Bool),v18 = .bool x18_5 ∧ qq (qjj.j1 kq x1_1 a2 x7_1 x18_5 s0_0 x1001_1 x1002_1 = some (r1,r2,r3)) ∧ qq (kq ≤ k1) ∧ qq (vq w0 wc g s0_0 x1001_1 x1002_1) ∧ qq (zk w wc g none) ∧ qq (Below w0.heap.size w0 wc))
   case first =>
    have H := HC6.out
    clear HC6
    by_cases c7 : x7_1 > 0
    ·rw [if_pos c7] at H
     have c7b0 : decide (0 < x7_1) = true := decide_eq_true c7
     clear c7
     (first | rw [c7b0] | (simp only [i64_w,i32_w];rw [c7b0]) | skip)
     have H' := qq.mk H
     clear H
     go_wp2
     repeat (go_quiet (fail);try go_wp2)
     go_meet
     case rel => exact ⟨_,(decide ((x1_1.size : Int) > 0)),(by first | rfl | (simp;done) | (simp [*];done)),H',⟨by have := HK1.out;first | omega | exact Nat.le_refl _⟩,⟨by repeat (first | (with_reducible first | exact HI0.out | apply vq.alloc | apply vq.drewN | apply vq.drew | apply vq.set_1 | apply vq.set_2) | exact HI0.out)⟩,⟨by repeat (first | (with_reducible first | exact HK.out | apply zk.set_ | apply jj | apply jv | apply jk) | exact HK.out)⟩,⟨by repeat (first | (with_reducible first | exact HB.out | apply qj | apply qz | apply qk | refine qx ?_ (vq.ge HI0.out)) | exact HB.out)⟩⟩
    ·rw [if_neg c7] at H
     have c7b0 : decide (0 < x7_1) = false := decide_eq_false c7
     clear c7
     (first | rw [c7b0] | (simp only [i64_w,i32_w];rw [c7b0]) | skip)
     have H' := qq.mk H
     clear H
     go_wp2
     repeat (go_quiet (fail);try go_wp2)
     go_meet
     case rel => exact ⟨_,(false),(by first | rfl | (simp;done) | (simp [*];done)),H',⟨by have := HK1.out;first | omega | exact Nat.le_refl _⟩,⟨by repeat (first | (with_reducible first | exact HI0.out | apply vq.alloc | apply vq.drewN | apply vq.drew | apply vq.set_1 | apply vq.set_2) | exact HI0.out)⟩,⟨by repeat (first | (with_reducible first | exact HK.out | apply zk.set_ | apply jj | apply jv | apply jk) | exact HK.out)⟩,⟨by repeat (first | (with_reducible first | exact HB.out | apply qj | apply qz | apply qk | refine qx ?_ (vq.ge HI0.out)) | exact HB.out)⟩⟩
   case rest =>
    clear HC6
    try clear p2
    try clear c6
    try clear c7
    try clear c7b0
    try clear p2
    obtain ⟨kq,x18_5,rfl,HA,HJ5,HI0,HK,HB⟩ := hcut
    cases kq with
    | zero => exact absurd HA.out (by simp [qjj.j1])
    | succ kj5 =>
     have H := HA.out
     clear HA
     simp only [qjj.j1] at H
     by_cases c8 : x18_5 = true
     ·subst c8
      have H1 : ((qjz.f s0_0 x1001_1 x1002_1 (x1_1.size : Int)).bind fun bt104 => ((qjz.f s0_0 bt104.2.1 bt104.2.2 (a2.size : Int)).bind fun bt107 => (if 0 ≤ bt107.1 then (if bt107.1 < (a2.size : Int) then ((some (([bt a2 bt107.1] : List Int) : List Int)).bind fun y110 => ((qjz.f s0_0 bt107.2.1 bt107.2.2 3).bind fun bt113 => (if bt113.1 = 0 then (if 0 ≤ bt104.1 then (if bt104.1 ≤ (x1_1.size : Int) then (if (x1_1.extract 0 (bt104.1 : Int).toNat).size + (strOfNums y110).size ≤ 9223372036854775807 then (if ((x1_1.extract 0 (bt104.1 : Int).toNat) ++ (strOfNums y110)).size + (x1_1.extract (bt104.1 : Int).toNat x1_1.size).size ≤ 9223372036854775807 then (qjj.l0 kj5 (((x1_1.extract 0 (bt104.1 : Int).toNat) ++ (strOfNums y110)) ++ (x1_1.extract (bt104.1 : Int).toNat x1_1.size)) a2 (wrap64 (x7_1 - 1)) s0_0 bt113.2.1 bt113.2.2) else (none)) else (none)) else (none)) else (none)) else (if bt113.1 = 1 then (if 0 ≤ bt104.1 then (if bt104.1 ≤ (x1_1.size : Int) then (if (x1_1.extract 0 (bt104.1 : Int).toNat).size + (strOfNums y110).size ≤ 9223372036854775807 then (if 0 ≤ (wrap64 (bt104.1 + 1)) then (if (wrap64 (bt104.1 + 1)) ≤ (x1_1.size : Int) then (if ((x1_1.extract 0 (bt104.1 : Int).toNat) ++ (strOfNums y110)).size + (x1_1.extract ((wrap64 (bt104.1 + 1)) : Int).toNat x1_1.size).size ≤ 9223372036854775807 then (qjj.l0 kj5 (((x1_1.extract 0 (bt104.1 : Int).toNat) ++ (strOfNums y110)) ++ (x1_1.extract ((wrap64 (bt104.1 + 1)) : Int).toNat x1_1.size)) a2 (wrap64 (x7_1 - 1)) s0_0 bt113.2.1 bt113.2.2) else (none)) else (none)) else (none)) else (none)) else (none)) else (none)) else (if 0 ≤ bt104.1 then (if bt104.1 ≤ (x1_1.size : Int) then (if 0 ≤ (wrap64 (bt104.1 + 1)) then (if (wrap64 (bt104.1 + 1)) ≤ (x1_1.size : Int) then (if (x1_1.extract 0 (bt104.1 : Int).toNat).size + (x1_1.extract ((wrap64 (bt104.1 + 1)) : Int).toNat x1_1.size).size ≤ 9223372036854775807 then (qjj.l0 kj5 ((x1_1.extract 0 (bt104.1 : Int).toNat) ++ (x1_1.extract ((wrap64 (bt104.1 + 1)) : Int).toNat x1_1.size)) a2 (wrap64 (x7_1 - 1)) s0_0 bt113.2.1 bt113.2.2) else (none)) else (none)) else (none)) else (none)) else (none)))))) else (none)) else (none)))) = some (r1,r2,r3) := by rw [if_pos rfl] at H;exact H
      clear H
      have H := H1
      clear H1
      replace H := Option.bind_eq_some_iff.mp H
      obtain ⟨⟨t104,t105,t106⟩,A90,H⟩ := H
      replace H : ((qjz.f s0_0 t105 t106 (a2.size : Int)).bind fun bt107 => (if 0 ≤ bt107.1 then (if bt107.1 < (a2.size : Int) then ((some (([bt a2 bt107.1] : List Int) : List Int)).bind fun y110 => ((qjz.f s0_0 bt107.2.1 bt107.2.2 3).bind fun bt113 => (if bt113.1 = 0 then (if 0 ≤ t104 then (if t104 ≤ (x1_1.size : Int) then (if (x1_1.extract 0 (t104 : Int).toNat).size + (strOfNums y110).size ≤ 9223372036854775807 then (if ((x1_1.extract 0 (t104 : Int).toNat) ++ (strOfNums y110)).size + (x1_1.extract (t104 : Int).toNat x1_1.size).size ≤ 9223372036854775807 then (qjj.l0 kj5 (((x1_1.extract 0 (t104 : Int).toNat) ++ (strOfNums y110)) ++ (x1_1.extract (t104 : Int).toNat x1_1.size)) a2 (wrap64 (x7_1 - 1)) s0_0 bt113.2.1 bt113.2.2) else (none)) else (none)) else (none)) else (none)) else (if bt113.1 = 1 then (if 0 ≤ t104 then (if t104 ≤ (x1_1.size : Int) then (if (x1_1.extract 0 (t104 : Int).toNat).size + (strOfNums y110).size ≤ 9223372036854775807 then (if 0 ≤ (wrap64 (t104 + 1)) then (if (wrap64 (t104 + 1)) ≤ (x1_1.size : Int) then (if ((x1_1.extract 0 (t104 : Int).toNat) ++ (strOfNums y110)).size + (x1_1.extract ((wrap64 (t104 + 1)) : Int).toNat x1_1.size).size ≤ 9223372036854775807 then (qjj.l0 kj5 (((x1_1.extract 0 (t104 : Int).toNat) ++ (strOfNums y110)) ++ (x1_1.extract ((wrap64 (t104 + 1)) : Int).toNat x1_1.size)) a2 (wrap64 (x7_1 - 1)) s0_0 bt113.2.1 bt113.2.2) else (none)) else (none)) else (none)) else (none)) else (none)) else (none)) else (if 0 ≤ t104 then (if t104 ≤ (x1_1.size : Int) then (if 0 ≤ (wrap64 (t104 + 1)) then (if (wrap64 (t104 + 1)) ≤ (x1_1.size : Int) then (if (x1_1.extract 0 (t104 : Int).toNat).size + (x1_1.extract ((wrap64 (t104 + 1)) : Int).toNat x1_1.size).size ≤ 9223372036854775807 then (qjj.l0 kj5 ((x1_1.extract 0 (t104 : Int).toNat) ++ (x1_1.extract ((wrap64 (t104 + 1)) : Int).toNat x1_1.size)) a2 (wrap64 (x7_1 - 1)) s0_0 bt113.2.1 bt113.2.2) else (none)) else (none)) else (none)) else (none)) else (none)))))) else (none)) else (none))) = some (r1,r2,r3) := H
      have A9 := qq.mk A90
      clear A90
      replace H := Option.bind_eq_some_iff.mp H
      obtain ⟨⟨t107,t108,t109⟩,A100,H⟩ := H
      replace H : (if 0 ≤ t107 then (if t107 < (a2.size : Int) then ((some (([bt a2 t107] : List Int) : List Int)).bind fun y110 => ((qjz.f s0_0 t108 t109 3).bind fun bt113 => (if bt113.1 = 0 then (if 0 ≤ t104 then (if t104 ≤ (x1_1.size : Int) then (if (x1_1.extract 0 (t104 : Int).toNat).size + (strOfNums y110).size ≤ 9223372036854775807 then (if ((x1_1.extract 0 (t104 : Int).toNat) ++ (strOfNums y110)).size + (x1_1.extract (t104 : Int).toNat x1_1.size).size ≤ 9223372036854775807 then (qjj.l0 kj5 (((x1_1.extract 0 (t104 : Int).toNat) ++ (strOfNums y110)) ++ (x1_1.extract (t104 : Int).toNat x1_1.size)) a2 (wrap64 (x7_1 - 1)) s0_0 bt113.2.1 bt113.2.2) else (none)) else (none)) else (none)) else (none)) else (if bt113.1 = 1 then (if 0 ≤ t104 then (if t104 ≤ (x1_1.size : Int) then (if (x1_1.extract 0 (t104 : Int).toNat).size + (strOfNums y110).size ≤ 9223372036854775807 then (if 0 ≤ (wrap64 (t104 + 1)) then (if (wrap64 (t104 + 1)) ≤ (x1_1.size : Int) then (if ((x1_1.extract 0 (t104 : Int).toNat) ++ (strOfNums y110)).size + (x1_1.extract ((wrap64 (t104 + 1)) : Int).toNat x1_1.size).size ≤ 9223372036854775807 then (qjj.l0 kj5 (((x1_1.extract 0 (t104 : Int).toNat) ++ (strOfNums y110)) ++ (x1_1.extract ((wrap64 (t104 + 1)) : Int).toNat x1_1.size)) a2 (wrap64 (x7_1 - 1)) s0_0 bt113.2.1 bt113.2.2) else (none)) else (none)) else (none)) else (none)) else (none)) else (none)) else (if 0 ≤ t104 then (if t104 ≤ (x1_1.size : Int) then (if 0 ≤ (wrap64 (t104 + 1)) then (if (wrap64 (t104 + 1)) ≤ (x1_1.size : Int) then (if (x1_1.extract 0 (t104 : Int).toNat).size + (x1_1.extract ((wrap64 (t104 + 1)) : Int).toNat x1_1.size).size ≤ 9223372036854775807 then (qjj.l0 kj5 ((x1_1.extract 0 (t104 : Int).toNat) ++ (x1_1.extract ((wrap64 (t104 + 1)) : Int).toNat x1_1.size)) a2 (wrap64 (x7_1 - 1)) s0_0 bt113.2.1 bt113.2.2) else (none)) else (none)) else (none)) else (none)) else (none)))))) else (none)) else (none)) = some (r1,r2,r3) := H
      have A10 := qq.mk A100
      clear A100
      by_cases c11 : 0 ≤ t107
      ·rw [if_pos c11] at H
       have c11b0 : decide (0 ≤ t107) = true := decide_eq_true c11
       clear c11
       by_cases c12 : t107 < (a2.size : Int)
       ·rw [if_pos c12] at H
        have c12b0 : decide (t107 < (a2.size : Int)) = true := decide_eq_true c12
        clear c12
        obtain ⟨y110,hy110⟩ : ∃ y_ : List Int,y_ = (([bt a2 t107] : List Int)) := ⟨_,rfl⟩
        replace H : ((qjz.f s0_0 t108 t109 3).bind fun bt113 => (if bt113.1 = 0 then (if 0 ≤ t104 then (if t104 ≤ (x1_1.size : Int) then (if (x1_1.extract 0 (t104 : Int).toNat).size + (strOfNums y110).size ≤ 9223372036854775807 then (if ((x1_1.extract 0 (t104 : Int).toNat) ++ (strOfNums y110)).size + (x1_1.extract (t104 : Int).toNat x1_1.size).size ≤ 9223372036854775807 then (qjj.l0 kj5 (((x1_1.extract 0 (t104 : Int).toNat) ++ (strOfNums y110)) ++ (x1_1.extract (t104 : Int).toNat x1_1.size)) a2 (wrap64 (x7_1 - 1)) s0_0 bt113.2.1 bt113.2.2) else (none)) else (none)) else (none)) else (none)) else (if bt113.1 = 1 then (if 0 ≤ t104 then (if t104 ≤ (x1_1.size : Int) then (if (x1_1.extract 0 (t104 : Int).toNat).size + (strOfNums y110).size ≤ 9223372036854775807 then (if 0 ≤ (wrap64 (t104 + 1)) then (if (wrap64 (t104 + 1)) ≤ (x1_1.size : Int) then (if ((x1_1.extract 0 (t104 : Int).toNat) ++ (strOfNums y110)).size + (x1_1.extract ((wrap64 (t104 + 1)) : Int).toNat x1_1.size).size ≤ 9223372036854775807 then (qjj.l0 kj5 (((x1_1.extract 0 (t104 : Int).toNat) ++ (strOfNums y110)) ++ (x1_1.extract ((wrap64 (t104 + 1)) : Int).toNat x1_1.size)) a2 (wrap64 (x7_1 - 1)) s0_0 bt113.2.1 bt113.2.2) else (none)) else (none)) else (none)) else (none)) else (none)) else (none)) else (if 0 ≤ t104 then (if t104 ≤ (x1_1.size : Int) then (if 0 ≤ (wrap64 (t104 + 1)) then (if (wrap64 (t104 + 1)) ≤ (x1_1.size : Int) then (if (x1_1.extract 0 (t104 : Int).toNat).size + (x1_1.extract ((wrap64 (t104 + 1)) : Int).toNat x1_1.size).size ≤ 9223372036854775807 then (qjj.l0 kj5 ((x1_1.extract 0 (t104 : Int).toNat) ++ (x1_1.extract ((wrap64 (t104 + 1)) : Int).toNat x1_1.size)) a2 (wrap64 (x7_1 - 1)) s0_0 bt113.2.1 bt113.2.2) else (none)) else (none)) else (none)) else (none)) else (none))))) = some (r1,r2,r3) := by first | (rw [hy110];with_reducible exact H) | (have H2_ := (Option.bind_some _ _).symm.trans H;rw [hy110];with_reducible exact H2_) | (have H2_ := (Option.bind_some _ _).symm.trans H;with_reducible exact H2_) | with_reducible exact H | (rw [hy110];exact H) | exact H
        have Ny110 := qq.mk hy110
        clear hy110
        replace H := Option.bind_eq_some_iff.mp H
        obtain ⟨⟨t113,t114,t115⟩,A140,H⟩ := H
        replace H : (if t113 = 0 then (if 0 ≤ t104 then (if t104 ≤ (x1_1.size : Int) then (if (x1_1.extract 0 (t104 : Int).toNat).size + (strOfNums y110).size ≤ 9223372036854775807 then (if ((x1_1.extract 0 (t104 : Int).toNat) ++ (strOfNums y110)).size + (x1_1.extract (t104 : Int).toNat x1_1.size).size ≤ 9223372036854775807 then (qjj.l0 kj5 (((x1_1.extract 0 (t104 : Int).toNat) ++ (strOfNums y110)) ++ (x1_1.extract (t104 : Int).toNat x1_1.size)) a2 (wrap64 (x7_1 - 1)) s0_0 t114 t115) else (none)) else (none)) else (none)) else (none)) else (if t113 = 1 then (if 0 ≤ t104 then (if t104 ≤ (x1_1.size : Int) then (if (x1_1.extract 0 (t104 : Int).toNat).size + (strOfNums y110).size ≤ 9223372036854775807 then (if 0 ≤ (wrap64 (t104 + 1)) then (if (wrap64 (t104 + 1)) ≤ (x1_1.size : Int) then (if ((x1_1.extract 0 (t104 : Int).toNat) ++ (strOfNums y110)).size + (x1_1.extract ((wrap64 (t104 + 1)) : Int).toNat x1_1.size).size ≤ 9223372036854775807 then (qjj.l0 kj5 (((x1_1.extract 0 (t104 : Int).toNat) ++ (strOfNums y110)) ++ (x1_1.extract ((wrap64 (t104 + 1)) : Int).toNat x1_1.size)) a2 (wrap64 (x7_1 - 1)) s0_0 t114 t115) else (none)) else (none)) else (none)) else (none)) else (none)) else (none)) else (if 0 ≤ t104 then (if t104 ≤ (x1_1.size : Int) then (if 0 ≤ (wrap64 (t104 + 1)) then (if (wrap64 (t104 + 1)) ≤ (x1_1.size : Int) then (if (x1_1.extract 0 (t104 : Int).toNat).size + (x1_1.extract ((wrap64 (t104 + 1)) : Int).toNat x1_1.size).size ≤ 9223372036854775807 then (qjj.l0 kj5 ((x1_1.extract 0 (t104 : Int).toNat) ++ (x1_1.extract ((wrap64 (t104 + 1)) : Int).toNat x1_1.size)) a2 (wrap64 (x7_1 - 1)) s0_0 t114 t115) else (none)) else (none)) else (none)) else (none)) else (none)))) = some (r1,r2,r3) := H
        have A14 := qq.mk A140
        clear A140
        by_cases c15 : t113 = 0
        ·rw [if_pos c15] at H
         have c15b0 : (t113 == 0) = true := beq_iff_eq.mpr c15
         have c15b1 : (t113 != 0) = false := bne_eq_false_iff_eq.mpr c15
         clear c15
         by_cases c16 : 0 ≤ t104
         ·rw [if_pos c16] at H
          have c16b0 := eq_true c16
          have c16b1 : decide (0 ≤ t104) = true := decide_eq_true c16
          clear c16
          by_cases c17 : t104 ≤ (x1_1.size : Int)
          ·rw [if_pos c17] at H
           have c17b0 := eq_true c17
           have c17b1 : decide (t104 ≤ (x1_1.size : Int)) = true := decide_eq_true c17
           clear c17
           by_cases c18 : (x1_1.extract 0 (t104 : Int).toNat).size + (strOfNums y110).size ≤ 9223372036854775807
           ·rw [if_pos c18] at H
            have c18b0 := eq_true c18
            have c18b1 : decide ((x1_1.extract 0 (t104 : Int).toNat).size + (strOfNums y110).size ≤ 9223372036854775807) = true := decide_eq_true c18
            try have c18b2 : (9223372036854775807 < (x1_1.extract 0 (t104 : Int).toNat).size + (strOfNums y110).size) = False := eq_false (Nat.not_lt.2 c18)
            have c19b0 := eq_true (of_decide_eq_true (by assumption) : 0 ≤ t104)
            have c20b0 := eq_true (of_decide_eq_true (by assumption) : t104 ≤ (x1_1.size : Int))
            by_cases c21 : ((x1_1.extract 0 (t104 : Int).toNat) ++ (strOfNums y110)).size + (x1_1.extract (t104 : Int).toNat x1_1.size).size ≤ 9223372036854775807
            ·rw [if_pos c21] at H
             have c21b0 := eq_true c21
             have c21b1 : decide (((x1_1.extract 0 (t104 : Int).toNat) ++ (strOfNums y110)).size + (x1_1.extract (t104 : Int).toNat x1_1.size).size ≤ 9223372036854775807) = true := decide_eq_true c21
             try have c21b2 : (9223372036854775807 < ((x1_1.extract 0 (t104 : Int).toNat) ++ (strOfNums y110)).size + (x1_1.extract (t104 : Int).toNat x1_1.size).size) = False := eq_false (Nat.not_lt.2 c21)
             try (have c21b9 := c21b2;simp only [ByteArray.size_append] at c21b9)
             have H' := qq.mk H
             clear H
             go_wp2_with (first | (go_at_call 54;(with_reducible refine (qjz.calls g s0_0 x1001_1 x1002_1 (x1_1.size : Int) t104 t105 t106 w0 _ ?side1 ?side2 A9.out).mono ?_);(case side1 => repeat (first | (with_reducible first | exact HI0.out | apply vq.alloc | apply vq.drewN | apply vq.drew | apply vq.set_1 | apply vq.set_2) | exact HI0.out));(case side2 => repeat (first | (with_reducible first | exact HB.out | apply qj | apply qz | apply qk | refine qx ?_ (vq.ge HI0.out)) | exact HB.out));rintro e w22 ⟨rfl,hi,hb,hk⟩;have n0_ := qq.mk (zk.trans (by repeat (first | (with_reducible first | exact HK.out | apply zk.set_ | apply jj | apply jv | apply jk) | exact HK.out)) hk (.inl rfl));have n1_ := qq.mk (hb);have n2_ := qq.mk (hi);clear HK;clear HB;clear HI0;have HK := n0_;have HB := n1_;have HI0 := n2_;clear n0_ n1_ n2_;(try clear hb);(try clear hb2);(try clear hk);(try clear hi)) | (go_at_call 54;(with_reducible refine (qjz.calls g s0_0 t105 t106 (a2.size : Int) t107 t108 t109 w0 _ ?side1 ?side2 A10.out).mono ?_);(case side1 => repeat (first | (with_reducible first | exact HI0.out | apply vq.alloc | apply vq.drewN | apply vq.drew | apply vq.set_1 | apply vq.set_2) | exact HI0.out));(case side2 => repeat (first | (with_reducible first | exact HB.out | apply qj | apply qz | apply qk | refine qx ?_ (vq.ge HI0.out)) | exact HB.out));rintro e w23 ⟨rfl,hi,hb,hk⟩;have n0_ := qq.mk (zk.trans (by repeat (first | (with_reducible first | exact HK.out | apply zk.set_ | apply jj | apply jv | apply jk) | exact HK.out)) hk (.inl rfl));have n1_ := qq.mk (hb);have n2_ := qq.mk (hi);clear HK;clear HB;clear HI0;have HK := n0_;have HB := n1_;have HI0 := n2_;clear n0_ n1_ n2_;(try clear hb);(try clear hb2);(try clear hk);(try clear hi);have p13 : 0 ≤ (t107 : Int) := of_decide_eq_true (by assumption);have q13 : t107 < (a2.size : Int) := of_decide_eq_true (by assumption);have hx13 := bt_at a2 t107;replace p13 := eq_true p13;replace q13 := eq_true q13) | ((with_reducible refine gate_dst (N := 31) rfl ?_);(try (refine gate_guard (by rfl) ?_;dsimp only));refine Kd.R_lit (Kd.int .u8) _ 5 ?hg (N := 31) ?hd (xs := ([bt a2 t107] : List Int)) (inner := [.int .u8 (bt a2 t107)]) (ok := fun _ => True) (okp := fun _ => True) ?hr ?hp (fun _ hk => hk) trivial (Below.refl _ _) (Nat.le_refl _) (by simp) ?_;(case hd => rfl);(case hg => rfl);(case hr => first | (go_simp;done) | (go_simp;rfl));(case hp => exact (Reps.one (show Kd.M (Kd.int .u8) _ _ _ (bt a2 t107) [.int .u8 (bt a2 t107)] from rfl) (Reps.none _ _)));intro v111 w24 ho25 hb hg_ hnew_;clear hg_ hnew_;(first | rw [← Ny110.out] at ho25 | (simp only [Int.reduceToNat] at ho25;rw [← Ny110.out] at ho25));have n0_ := qq.mk (Kd.R_lower ho25 (keep_size (w := w) (g := g) (row := none) (by repeat (first | (with_reducible first | exact HK.out | apply zk.set_ | apply jj | apply jv | apply jk) | exact HK.out))));have n1_ := qq.mk (vq.below (by repeat (first | (with_reducible first | exact HI0.out | apply vq.alloc | apply vq.drewN | apply vq.drew | apply vq.set_1 | apply vq.set_2) | exact HI0.out)) hb);have n2_ := qq.mk (zk.trans (by repeat (first | (with_reducible first | exact HK.out | apply zk.set_ | apply jj | apply jv | apply jk) | exact HK.out)) (zk.of_below hb g none) (.inl rfl));have n3_ := qq.mk (zv (by repeat (first | (with_reducible first | exact HB.out | apply qj | apply qz | apply qk | refine qx ?_ (vq.ge HI0.out)) | exact HB.out)) hb);clear HI0;clear HK;clear HB;have HO112 := n0_;have HI0 := n1_;have HK := n2_;have HB := n3_;clear n0_ n1_ n2_ n3_;clear hb ho25;have hcv26 := own_string (P := Try.prog) Try.underlying22 Try.underlying5 Try.underlying9 (Kd.own_of_R HO112.out)) | (go_at_call 54;(with_reducible refine (qjz.calls g s0_0 t108 t109 3 t113 t114 t115 w0 _ ?side1 ?side2 A14.out).mono ?_);(case side1 => repeat (first | (with_reducible first | exact HI0.out | apply vq.alloc | apply vq.drewN | apply vq.drew | apply vq.set_1 | apply vq.set_2) | exact HI0.out));(case side2 => repeat (first | (with_reducible first | exact HB.out | apply qj | apply qz | apply qk | refine qx ?_ (vq.ge HI0.out)) | exact HB.out));rintro e w27 ⟨rfl,hi,hb,hk⟩;have n0_ := qq.mk (Kd.R_mono (Kd.R_keep (vq.apart (show vq w0 _ g s0_0 t108 t109 from by repeat (first | (with_reducible first | exact HI0.out | apply vq.alloc | apply vq.drewN | apply vq.drew | apply vq.set_1 | apply vq.set_2) | exact HI0.out)) (by (with_reducible repeat (first | apply Kd.jq | apply Kd.zx | apply Kd.jz));exact HO112.out) (by decide)) hk (fun _ h => h.2)) (fun _ h => h.1));have n1_ := qq.mk (zk.trans (by repeat (first | (with_reducible first | exact HK.out | apply zk.set_ | apply jj | apply jv | apply jk) | exact HK.out)) hk (.inl rfl));have n2_ := qq.mk (hb);have n3_ := qq.mk (hi);clear HO112;clear HK;clear HB;clear HI0;have HO112 := n0_;have HK := n1_;have HB := n2_;have HI0 := n3_;clear n0_ n1_ n2_ n3_;(try clear hb);(try clear hb2);(try clear hk);(try clear hi)))
             repeat (go_quiet (first | (go_at_call 54;(with_reducible refine (qjz.calls g s0_0 x1001_1 x1002_1 (x1_1.size : Int) t104 t105 t106 w0 _ ?side1 ?side2 A9.out).mono ?_);(case side1 => repeat (first | (with_reducible first | exact HI0.out | apply vq.alloc | apply vq.drewN | apply vq.drew | apply vq.set_1 | apply vq.set_2) | exact HI0.out));(case side2 => repeat (first | (with_reducible first | exact HB.out | apply qj | apply qz | apply qk | refine qx ?_ (vq.ge HI0.out)) | exact HB.out));rintro e w22 ⟨rfl,hi,hb,hk⟩;have n0_ := qq.mk (zk.trans (by repeat (first | (with_reducible first | exact HK.out | apply zk.set_ | apply jj | apply jv | apply jk) | exact HK.out)) hk (.inl rfl));have n1_ := qq.mk (hb);have n2_ := qq.mk (hi);clear HK;clear HB;clear HI0;have HK := n0_;have HB := n1_;have HI0 := n2_;clear n0_ n1_ n2_;(try clear hb);(try clear hb2);(try clear hk);(try clear hi)) | (go_at_call 54;(with_reducible refine (qjz.calls g s0_0 t105 t106 (a2.size : Int) t107 t108 t109 w0 _ ?side1 ?side2 A10.out).mono ?_);(case side1 => repeat (first | (with_reducible first | exact HI0.out | apply vq.alloc | apply vq.drewN | apply vq.drew | apply vq.set_1 | apply vq.set_2) | exact HI0.out));(case side2 => repeat (first | (with_reducible first | exact HB.out | apply qj | apply qz | apply qk | refine qx ?_ (vq.ge HI0.out)) | exact HB.out));rintro e w23 ⟨rfl,hi,hb,hk⟩;have n0_ := qq.mk (zk.trans (by repeat (first | (with_reducible first | exact HK.out | apply zk.set_ | apply jj | apply jv | apply jk) | exact HK.out)) hk (.inl rfl));have n1_ := qq.mk (hb);have n2_ := qq.mk (hi);clear HK;clear HB;clear HI0;have HK := n0_;have HB := n1_;have HI0 := n2_;clear n0_ n1_ n2_;(try clear hb);(try clear hb2);(try clear hk);(try clear hi);have p13 : 0 ≤ (t107 : Int) := of_decide_eq_true (by assumption);have q13 : t107 < (a2.size : Int) := of_decide_eq_true (by assumption);have hx13 := bt_at a2 t107;replace p13 := eq_true p13;replace q13 := eq_true q13) | ((with_reducible refine gate_dst (N := 31) rfl ?_);(try (refine gate_guard (by rfl) ?_;dsimp only));refine Kd.R_lit (Kd.int .u8) _ 5 ?hg (N := 31) ?hd (xs := ([bt a2 t107] : List Int)) (inner := [.int .u8 (bt a2 t107)]) (ok := fun _ => True) (okp := fun _ => True) ?hr ?hp (fun _ hk => hk) trivial (Below.refl _ _) (Nat.le_refl _) (by simp) ?_;(case hd => rfl);(case hg => rfl);(case hr => first | (go_simp;done) | (go_simp;rfl));(case hp => exact (Reps.one (show Kd.M (Kd.int .u8) _ _ _ (bt a2 t107) [.int .u8 (bt a2 t107)] from rfl) (Reps.none _ _)));intro v111 w24 ho25 hb hg_ hnew_;clear hg_ hnew_;(first | rw [← Ny110.out] at ho25 | (simp only [Int.reduceToNat] at ho25;rw [← Ny110.out] at ho25));have n0_ := qq.mk (Kd.R_lower ho25 (keep_size (w := w) (g := g) (row := none) (by repeat (first | (with_reducible first | exact HK.out | apply zk.set_ | apply jj | apply jv | apply jk) | exact HK.out))));have n1_ := qq.mk (vq.below (by repeat (first | (with_reducible first | exact HI0.out | apply vq.alloc | apply vq.drewN | apply vq.drew | apply vq.set_1 | apply vq.set_2) | exact HI0.out)) hb);have n2_ := qq.mk (zk.trans (by repeat (first | (with_reducible first | exact HK.out | apply zk.set_ | apply jj | apply jv | apply jk) | exact HK.out)) (zk.of_below hb g none) (.inl rfl));have n3_ := qq.mk (zv (by repeat (first | (with_reducible first | exact HB.out | apply qj | apply qz | apply qk | refine qx ?_ (vq.ge HI0.out)) | exact HB.out)) hb);clear HI0;clear HK;clear HB;have HO112 := n0_;have HI0 := n1_;have HK := n2_;have HB := n3_;clear n0_ n1_ n2_ n3_;clear hb ho25;have hcv26 := own_string (P := Try.prog) Try.underlying22 Try.underlying5 Try.underlying9 (Kd.own_of_R HO112.out)) | (go_at_call 54;(with_reducible refine (qjz.calls g s0_0 t108 t109 3 t113 t114 t115 w0 _ ?side1 ?side2 A14.out).mono ?_);(case side1 => repeat (first | (with_reducible first | exact HI0.out | apply vq.alloc | apply vq.drewN | apply vq.drew | apply vq.set_1 | apply vq.set_2) | exact HI0.out));(case side2 => repeat (first | (with_reducible first | exact HB.out | apply qj | apply qz | apply qk | refine qx ?_ (vq.ge HI0.out)) | exact HB.out));rintro e w27 ⟨rfl,hi,hb,hk⟩;have n0_ := qq.mk (Kd.R_mono (Kd.R_keep (vq.apart (show vq w0 _ g s0_0 t108 t109 from by repeat (first | (with_reducible first | exact HI0.out | apply vq.alloc | apply vq.drewN | apply vq.drew | apply vq.set_1 | apply vq.set_2) | exact HI0.out)) (by (with_reducible repeat (first | apply Kd.jq | apply Kd.zx | apply Kd.jz));exact HO112.out) (by decide)) hk (fun _ h => h.2)) (fun _ h => h.1));have n1_ := qq.mk (zk.trans (by repeat (first | (with_reducible first | exact HK.out | apply zk.set_ | apply jj | apply jv | apply jk) | exact HK.out)) hk (.inl rfl));have n2_ := qq.mk (hb);have n3_ := qq.mk (hi);clear HO112;clear HK;clear HB;clear HI0;have HO112 := n0_;have HK := n1_;have HB := n2_;have HI0 := n3_;clear n0_ n1_ n2_ n3_;(try clear hb);(try clear hb2);(try clear hk);(try clear hi)));try go_wp2_with (first | (go_at_call 54;(with_reducible refine (qjz.calls g s0_0 x1001_1 x1002_1 (x1_1.size : Int) t104 t105 t106 w0 _ ?side1 ?side2 A9.out).mono ?_);(case side1 => repeat (first | (with_reducible first | exact HI0.out | apply vq.alloc | apply vq.drewN | apply vq.drew | apply vq.set_1 | apply vq.set_2) | exact HI0.out));(case side2 => repeat (first | (with_reducible first | exact HB.out | apply qj | apply qz | apply qk | refine qx ?_ (vq.ge HI0.out)) | exact HB.out));rintro e w22 ⟨rfl,hi,hb,hk⟩;have n0_ := qq.mk (zk.trans (by repeat (first | (with_reducible first | exact HK.out | apply zk.set_ | apply jj | apply jv | apply jk) | exact HK.out)) hk (.inl rfl));have n1_ := qq.mk (hb);have n2_ := qq.mk (hi);clear HK;clear HB;clear HI0;have HK := n0_;have HB := n1_;have HI0 := n2_;clear n0_ n1_ n2_;(try clear hb);(try clear hb2);(try clear hk);(try clear hi)) | (go_at_call 54;(with_reducible refine (qjz.calls g s0_0 t105 t106 (a2.size : Int) t107 t108 t109 w0 _ ?side1 ?side2 A10.out).mono ?_);(case side1 => repeat (first | (with_reducible first | exact HI0.out | apply vq.alloc | apply vq.drewN | apply vq.drew | apply vq.set_1 | apply vq.set_2) | exact HI0.out));(case side2 => repeat (first | (with_reducible first | exact HB.out | apply qj | apply qz | apply qk | refine qx ?_ (vq.ge HI0.out)) | exact HB.out));rintro e w23 ⟨rfl,hi,hb,hk⟩;have n0_ := qq.mk (zk.trans (by repeat (first | (with_reducible first | exact HK.out | apply zk.set_ | apply jj | apply jv | apply jk) | exact HK.out)) hk (.inl rfl));have n1_ := qq.mk (hb);have n2_ := qq.mk (hi);clear HK;clear HB;clear HI0;have HK := n0_;have HB := n1_;have HI0 := n2_;clear n0_ n1_ n2_;(try clear hb);(try clear hb2);(try clear hk);(try clear hi);have p13 : 0 ≤ (t107 : Int) := of_decide_eq_true (by assumption);have q13 : t107 < (a2.size : Int) := of_decide_eq_true (by assumption);have hx13 := bt_at a2 t107;replace p13 := eq_true p13;replace q13 := eq_true q13) | ((with_reducible refine gate_dst (N := 31) rfl ?_);(try (refine gate_guard (by rfl) ?_;dsimp only));refine Kd.R_lit (Kd.int .u8) _ 5 ?hg (N := 31) ?hd (xs := ([bt a2 t107] : List Int)) (inner := [.int .u8 (bt a2 t107)]) (ok := fun _ => True) (okp := fun _ => True) ?hr ?hp (fun _ hk => hk) trivial (Below.refl _ _) (Nat.le_refl _) (by simp) ?_;(case hd => rfl);(case hg => rfl);(case hr => first | (go_simp;done) | (go_simp;rfl));(case hp => exact (Reps.one (show Kd.M (Kd.int .u8) _ _ _ (bt a2 t107) [.int .u8 (bt a2 t107)] from rfl) (Reps.none _ _)));intro v111 w24 ho25 hb hg_ hnew_;clear hg_ hnew_;(first | rw [← Ny110.out] at ho25 | (simp only [Int.reduceToNat] at ho25;rw [← Ny110.out] at ho25));have n0_ := qq.mk (Kd.R_lower ho25 (keep_size (w := w) (g := g) (row := none) (by repeat (first | (with_reducible first | exact HK.out | apply zk.set_ | apply jj | apply jv | apply jk) | exact HK.out))));have n1_ := qq.mk (vq.below (by repeat (first | (with_reducible first | exact HI0.out | apply vq.alloc | apply vq.drewN | apply vq.drew | apply vq.set_1 | apply vq.set_2) | exact HI0.out)) hb);have n2_ := qq.mk (zk.trans (by repeat (first | (with_reducible first | exact HK.out | apply zk.set_ | apply jj | apply jv | apply jk) | exact HK.out)) (zk.of_below hb g none) (.inl rfl));have n3_ := qq.mk (zv (by repeat (first | (with_reducible first | exact HB.out | apply qj | apply qz | apply qk | refine qx ?_ (vq.ge HI0.out)) | exact HB.out)) hb);clear HI0;clear HK;clear HB;have HO112 := n0_;have HI0 := n1_;have HK := n2_;have HB := n3_;clear n0_ n1_ n2_ n3_;clear hb ho25;have hcv26 := own_string (P := Try.prog) Try.underlying22 Try.underlying5 Try.underlying9 (Kd.own_of_R HO112.out)) | (go_at_call 54;(with_reducible refine (qjz.calls g s0_0 t108 t109 3 t113 t114 t115 w0 _ ?side1 ?side2 A14.out).mono ?_);(case side1 => repeat (first | (with_reducible first | exact HI0.out | apply vq.alloc | apply vq.drewN | apply vq.drew | apply vq.set_1 | apply vq.set_2) | exact HI0.out));(case side2 => repeat (first | (with_reducible first | exact HB.out | apply qj | apply qz | apply qk | refine qx ?_ (vq.ge HI0.out)) | exact HB.out));rintro e w27 ⟨rfl,hi,hb,hk⟩;have n0_ := qq.mk (Kd.R_mono (Kd.R_keep (vq.apart (show vq w0 _ g s0_0 t108 t109 from by repeat (first | (with_reducible first | exact HI0.out | apply vq.alloc | apply vq.drewN | apply vq.drew | apply vq.set_1 | apply vq.set_2) | exact HI0.out)) (by (with_reducible repeat (first | apply Kd.jq | apply Kd.zx | apply Kd.jz));exact HO112.out) (by decide)) hk (fun _ h => h.2)) (fun _ h => h.1));have n1_ := qq.mk (zk.trans (by repeat (first | (with_reducible first | exact HK.out | apply zk.set_ | apply jj | apply jv | apply jk) | exact HK.out)) hk (.inl rfl));have n2_ := qq.mk (hb);have n3_ := qq.mk (hi);clear HO112;clear HK;clear HB;clear HI0;have HO112 := n0_;have HK := n1_;have HB := n2_;have HI0 := n3_;clear n0_ n1_ n2_ n3_;(try clear hb);(try clear hb2);(try clear hk);(try clear hi))))
             go_roundg kj5
             case measure => have := HK1.out;have := HJ5.out;omega
             case rel => exact ⟨(((x1_1.extract 0 (t104 : Int).toNat) ++ (strOfNums y110)) ++ (x1_1.extract (t104 : Int).toNat x1_1.size)),(wrap64 (x7_1 - 1)),(t114),(t115),(by first | rfl | (simp;done) | (simp [*];done)),(by first | rfl | (simp;done) | (simp [*];done)),H',⟨by have := HK1.out;have := HJ5.out;omega⟩,⟨by repeat (first | (with_reducible first | exact HI0.out | apply vq.alloc | apply vq.drewN | apply vq.drew | apply vq.set_1 | apply vq.set_2) | exact HI0.out)⟩,⟨by repeat (first | (with_reducible first | exact HK.out | apply zk.set_ | apply jj | apply jv | apply jk) | exact HK.out)⟩,⟨by repeat (first | (with_reducible first | exact HB.out | apply qj | apply qz | apply qk | refine qx ?_ (vq.ge HI0.out)) | exact HB.out)⟩⟩
            ·rw [if_neg c21] at H
             exact absurd H (by simp)
           ·rw [if_neg c18] at H
            exact absurd H (by simp)
          ·rw [if_neg c17] at H
           exact absurd H (by simp)
         ·rw [if_neg c16] at H
          exact absurd H (by simp)
        ·rw [if_neg c15] at H
         have c15b0 : (t113 == 0) = false := beq_eq_false_iff_ne.mpr c15
         have c15b1 : (t113 != 0) = true := bne_iff_ne.mpr c15
         by_cases c28 : t113 = 1
         ·rw [if_pos c28] at H
          have c28b0 : (t113 == 1) = true := beq_iff_eq.mpr c28
          have c28b1 : (t113 != 1) = false := bne_eq_false_iff_eq.mpr c28
          clear c28
          by_cases c29 : 0 ≤ t104
          ·rw [if_pos c29] at H
           have c29b0 := eq_true c29
           have c29b1 : decide (0 ≤ t104) = true := decide_eq_true c29
           clear c29
           by_cases c30 : t104 ≤ (x1_1.size : Int)
           ·rw [if_pos c30] at H
            have c30b0 := eq_true c30
            have c30b1 : decide (t104 ≤ (x1_1.size : Int)) = true := decide_eq_true c30
            clear c30
            by_cases c31 : (x1_1.extract 0 (t104 : Int).toNat).size + (strOfNums y110).size ≤ 9223372036854775807
            ·rw [if_pos c31] at H
             have c31b0 := eq_true c31
             have c31b1 : decide ((x1_1.extract 0 (t104 : Int).toNat).size + (strOfNums y110).size ≤ 9223372036854775807) = true := decide_eq_true c31
             try have c31b2 : (9223372036854775807 < (x1_1.extract 0 (t104 : Int).toNat).size + (strOfNums y110).size) = False := eq_false (Nat.not_lt.2 c31)
             obtain ⟨ji32,hji32⟩ : ∃ j_ : Int,(wrap64 (t104 + 1)) = j_ := ⟨_,rfl⟩
             replace H : (if 0 ≤ (ji32) then (if (ji32) ≤ (x1_1.size : Int) then (if ((x1_1.extract 0 (t104 : Int).toNat) ++ (strOfNums y110)).size + (x1_1.extract ((ji32) : Int).toNat x1_1.size).size ≤ 9223372036854775807 then (qjj.l0 kj5 (((x1_1.extract 0 (t104 : Int).toNat) ++ (strOfNums y110)) ++ (x1_1.extract ((ji32) : Int).toNat x1_1.size)) a2 (wrap64 (x7_1 - 1)) s0_0 t114 t115) else (none)) else (none)) else (none)) = some (r1,r2,r3) := by first | (rw [hji32] at H;exact H) | (simp only [hji32] at H ⊢;exact H)
             (try rw [hji32] at A9)
             (try rw [hji32] at A10)
             (try rw [hji32] at A14)
             have hji32w : (IntKind.i64.wrap (t104 + 1)) = ji32 := (i64_w _).trans hji32
             by_cases c33 : 0 ≤ (ji32)
             ·rw [if_pos c33] at H
              have c33b0 := eq_true c33
              have c33b1 : decide (0 ≤ (ji32)) = true := decide_eq_true c33
              clear c33
              by_cases c34 : (ji32) ≤ (x1_1.size : Int)
              ·rw [if_pos c34] at H
               have c34b0 := eq_true c34
               have c34b1 : decide ((ji32) ≤ (x1_1.size : Int)) = true := decide_eq_true c34
               clear c34
               by_cases c35 : ((x1_1.extract 0 (t104 : Int).toNat) ++ (strOfNums y110)).size + (x1_1.extract ((ji32) : Int).toNat x1_1.size).size ≤ 9223372036854775807
               ·rw [if_pos c35] at H
                have c35b0 := eq_true c35
                have c35b1 : decide (((x1_1.extract 0 (t104 : Int).toNat) ++ (strOfNums y110)).size + (x1_1.extract ((ji32) : Int).toNat x1_1.size).size ≤ 9223372036854775807) = true := decide_eq_true c35
                try have c35b2 : (9223372036854775807 < ((x1_1.extract 0 (t104 : Int).toNat) ++ (strOfNums y110)).size + (x1_1.extract ((ji32) : Int).toNat x1_1.size).size) = False := eq_false (Nat.not_lt.2 c35)
                try (have c35b9 := c35b2;simp only [ByteArray.size_append] at c35b9)
                have H' := qq.mk H
                clear H
                go_wp2_with (first | (go_at_call 54;(with_reducible refine (qjz.calls g s0_0 x1001_1 x1002_1 (x1_1.size : Int) t104 t105 t106 w0 _ ?side1 ?side2 A9.out).mono ?_);(case side1 => repeat (first | (with_reducible first | exact HI0.out | apply vq.alloc | apply vq.drewN | apply vq.drew | apply vq.set_1 | apply vq.set_2) | exact HI0.out));(case side2 => repeat (first | (with_reducible first | exact HB.out | apply qj | apply qz | apply qk | refine qx ?_ (vq.ge HI0.out)) | exact HB.out));rintro e w36 ⟨rfl,hi,hb,hk⟩;have n0_ := qq.mk (zk.trans (by repeat (first | (with_reducible first | exact HK.out | apply zk.set_ | apply jj | apply jv | apply jk) | exact HK.out)) hk (.inl rfl));have n1_ := qq.mk (hb);have n2_ := qq.mk (hi);clear HK;clear HB;clear HI0;have HK := n0_;have HB := n1_;have HI0 := n2_;clear n0_ n1_ n2_;(try clear hb);(try clear hb2);(try clear hk);(try clear hi)) | (go_at_call 54;(with_reducible refine (qjz.calls g s0_0 t105 t106 (a2.size : Int) t107 t108 t109 w0 _ ?side1 ?side2 A10.out).mono ?_);(case side1 => repeat (first | (with_reducible first | exact HI0.out | apply vq.alloc | apply vq.drewN | apply vq.drew | apply vq.set_1 | apply vq.set_2) | exact HI0.out));(case side2 => repeat (first | (with_reducible first | exact HB.out | apply qj | apply qz | apply qk | refine qx ?_ (vq.ge HI0.out)) | exact HB.out));rintro e w37 ⟨rfl,hi,hb,hk⟩;have n0_ := qq.mk (zk.trans (by repeat (first | (with_reducible first | exact HK.out | apply zk.set_ | apply jj | apply jv | apply jk) | exact HK.out)) hk (.inl rfl));have n1_ := qq.mk (hb);have n2_ := qq.mk (hi);clear HK;clear HB;clear HI0;have HK := n0_;have HB := n1_;have HI0 := n2_;clear n0_ n1_ n2_;(try clear hb);(try clear hb2);(try clear hk);(try clear hi);have p13 : 0 ≤ (t107 : Int) := of_decide_eq_true (by assumption);have q13 : t107 < (a2.size : Int) := of_decide_eq_true (by assumption);have hx13 := bt_at a2 t107;replace p13 := eq_true p13;replace q13 := eq_true q13) | ((with_reducible refine gate_dst (N := 31) rfl ?_);(try (refine gate_guard (by rfl) ?_;dsimp only));refine Kd.R_lit (Kd.int .u8) _ 5 ?hg (N := 31) ?hd (xs := ([bt a2 t107] : List Int)) (inner := [.int .u8 (bt a2 t107)]) (ok := fun _ => True) (okp := fun _ => True) ?hr ?hp (fun _ hk => hk) trivial (Below.refl _ _) (Nat.le_refl _) (by simp) ?_;(case hd => rfl);(case hg => rfl);(case hr => first | (go_simp;done) | (go_simp;rfl));(case hp => exact (Reps.one (show Kd.M (Kd.int .u8) _ _ _ (bt a2 t107) [.int .u8 (bt a2 t107)] from rfl) (Reps.none _ _)));intro v111 w38 ho39 hb hg_ hnew_;clear hg_ hnew_;(first | rw [← Ny110.out] at ho39 | (simp only [Int.reduceToNat] at ho39;rw [← Ny110.out] at ho39));have n0_ := qq.mk (Kd.R_lower ho39 (keep_size (w := w) (g := g) (row := none) (by repeat (first | (with_reducible first | exact HK.out | apply zk.set_ | apply jj | apply jv | apply jk) | exact HK.out))));have n1_ := qq.mk (vq.below (by repeat (first | (with_reducible first | exact HI0.out | apply vq.alloc | apply vq.drewN | apply vq.drew | apply vq.set_1 | apply vq.set_2) | exact HI0.out)) hb);have n2_ := qq.mk (zk.trans (by repeat (first | (with_reducible first | exact HK.out | apply zk.set_ | apply jj | apply jv | apply jk) | exact HK.out)) (zk.of_below hb g none) (.inl rfl));have n3_ := qq.mk (zv (by repeat (first | (with_reducible first | exact HB.out | apply qj | apply qz | apply qk | refine qx ?_ (vq.ge HI0.out)) | exact HB.out)) hb);clear HI0;clear HK;clear HB;have HO112 := n0_;have HI0 := n1_;have HK := n2_;have HB := n3_;clear n0_ n1_ n2_ n3_;clear hb ho39;have hcv40 := own_string (P := Try.prog) Try.underlying22 Try.underlying5 Try.underlying9 (Kd.own_of_R HO112.out)) | (go_at_call 54;(with_reducible refine (qjz.calls g s0_0 t108 t109 3 t113 t114 t115 w0 _ ?side1 ?side2 A14.out).mono ?_);(case side1 => repeat (first | (with_reducible first | exact HI0.out | apply vq.alloc | apply vq.drewN | apply vq.drew | apply vq.set_1 | apply vq.set_2) | exact HI0.out));(case side2 => repeat (first | (with_reducible first | exact HB.out | apply qj | apply qz | apply qk | refine qx ?_ (vq.ge HI0.out)) | exact HB.out));rintro e w41 ⟨rfl,hi,hb,hk⟩;have n0_ := qq.mk (Kd.R_mono (Kd.R_keep (vq.apart (show vq w0 _ g s0_0 t108 t109 from by repeat (first | (with_reducible first | exact HI0.out | apply vq.alloc | apply vq.drewN | apply vq.drew | apply vq.set_1 | apply vq.set_2) | exact HI0.out)) (by (with_reducible repeat (first | apply Kd.jq | apply Kd.zx | apply Kd.jz));exact HO112.out) (by decide)) hk (fun _ h => h.2)) (fun _ h => h.1));have n1_ := qq.mk (zk.trans (by repeat (first | (with_reducible first | exact HK.out | apply zk.set_ | apply jj | apply jv | apply jk) | exact HK.out)) hk (.inl rfl));have n2_ := qq.mk (hb);have n3_ := qq.mk (hi);clear HO112;clear HK;clear HB;clear HI0;have HO112 := n0_;have HK := n1_;have HB := n2_;have HI0 := n3_;clear n0_ n1_ n2_ n3_;(try clear hb);(try clear hb2);(try clear hk);(try clear hi)))
                repeat (go_quiet (first | (go_at_call 54;(with_reducible refine (qjz.calls g s0_0 x1001_1 x1002_1 (x1_1.size : Int) t104 t105 t106 w0 _ ?side1 ?side2 A9.out).mono ?_);(case side1 => repeat (first | (with_reducible first | exact HI0.out | apply vq.alloc | apply vq.drewN | apply vq.drew | apply vq.set_1 | apply vq.set_2) | exact HI0.out));(case side2 => repeat (first | (with_reducible first | exact HB.out | apply qj | apply qz | apply qk | refine qx ?_ (vq.ge HI0.out)) | exact HB.out));rintro e w36 ⟨rfl,hi,hb,hk⟩;have n0_ := qq.mk (zk.trans (by repeat (first | (with_reducible first | exact HK.out | apply zk.set_ | apply jj | apply jv | apply jk) | exact HK.out)) hk (.inl rfl));have n1_ := qq.mk (hb);have n2_ := qq.mk (hi);clear HK;clear HB;clear HI0;have HK := n0_;have HB := n1_;have HI0 := n2_;clear n0_ n1_ n2_;(try clear hb);(try clear hb2);(try clear hk);(try clear hi)) | (go_at_call 54;(with_reducible refine (qjz.calls g s0_0 t105 t106 (a2.size : Int) t107 t108 t109 w0 _ ?side1 ?side2 A10.out).mono ?_);(case side1 => repeat (first | (with_reducible first | exact HI0.out | apply vq.alloc | apply vq.drewN | apply vq.drew | apply vq.set_1 | apply vq.set_2) | exact HI0.out));(case side2 => repeat (first | (with_reducible first | exact HB.out | apply qj | apply qz | apply qk | refine qx ?_ (vq.ge HI0.out)) | exact HB.out));rintro e w37 ⟨rfl,hi,hb,hk⟩;have n0_ := qq.mk (zk.trans (by repeat (first | (with_reducible first | exact HK.out | apply zk.set_ | apply jj | apply jv | apply jk) | exact HK.out)) hk (.inl rfl));have n1_ := qq.mk (hb);have n2_ := qq.mk (hi);clear HK;clear HB;clear HI0;have HK := n0_;have HB := n1_;have HI0 := n2_;clear n0_ n1_ n2_;(try clear hb);(try clear hb2);(try clear hk);(try clear hi);have p13 : 0 ≤ (t107 : Int) := of_decide_eq_true (by assumption);have q13 : t107 < (a2.size : Int) := of_decide_eq_true (by assumption);have hx13 := bt_at a2 t107;replace p13 := eq_true p13;replace q13 := eq_true q13) | ((with_reducible refine gate_dst (N := 31) rfl ?_);(try (refine gate_guard (by rfl) ?_;dsimp only));refine Kd.R_lit (Kd.int .u8) _ 5 ?hg (N := 31) ?hd (xs := ([bt a2 t107] : List Int)) (inner := [.int .u8 (bt a2 t107)]) (ok := fun _ => True) (okp := fun _ => True) ?hr ?hp (fun _ hk => hk) trivial (Below.refl _ _) (Nat.le_refl _) (by simp) ?_;(case hd => rfl);(case hg => rfl);(case hr => first | (go_simp;done) | (go_simp;rfl));(case hp => exact (Reps.one (show Kd.M (Kd.int .u8) _ _ _ (bt a2 t107) [.int .u8 (bt a2 t107)] from rfl) (Reps.none _ _)));intro v111 w38 ho39 hb hg_ hnew_;clear hg_ hnew_;(first | rw [← Ny110.out] at ho39 | (simp only [Int.reduceToNat] at ho39;rw [← Ny110.out] at ho39));have n0_ := qq.mk (Kd.R_lower ho39 (keep_size (w := w) (g := g) (row := none) (by repeat (first | (with_reducible first | exact HK.out | apply zk.set_ | apply jj | apply jv | apply jk) | exact HK.out))));have n1_ := qq.mk (vq.below (by repeat (first | (with_reducible first | exact HI0.out | apply vq.alloc | apply vq.drewN | apply vq.drew | apply vq.set_1 | apply vq.set_2) | exact HI0.out)) hb);have n2_ := qq.mk (zk.trans (by repeat (first | (with_reducible first | exact HK.out | apply zk.set_ | apply jj | apply jv | apply jk) | exact HK.out)) (zk.of_below hb g none) (.inl rfl));have n3_ := qq.mk (zv (by repeat (first | (with_reducible first | exact HB.out | apply qj | apply qz | apply qk | refine qx ?_ (vq.ge HI0.out)) | exact HB.out)) hb);clear HI0;clear HK;clear HB;have HO112 := n0_;have HI0 := n1_;have HK := n2_;have HB := n3_;clear n0_ n1_ n2_ n3_;clear hb ho39;have hcv40 := own_string (P := Try.prog) Try.underlying22 Try.underlying5 Try.underlying9 (Kd.own_of_R HO112.out)) | (go_at_call 54;(with_reducible refine (qjz.calls g s0_0 t108 t109 3 t113 t114 t115 w0 _ ?side1 ?side2 A14.out).mono ?_);(case side1 => repeat (first | (with_reducible first | exact HI0.out | apply vq.alloc | apply vq.drewN | apply vq.drew | apply vq.set_1 | apply vq.set_2) | exact HI0.out));(case side2 => repeat (first | (with_reducible first | exact HB.out | apply qj | apply qz | apply qk | refine qx ?_ (vq.ge HI0.out)) | exact HB.out));rintro e w41 ⟨rfl,hi,hb,hk⟩;have n0_ := qq.mk (Kd.R_mono (Kd.R_keep (vq.apart (show vq w0 _ g s0_0 t108 t109 from by repeat (first | (with_reducible first | exact HI0.out | apply vq.alloc | apply vq.drewN | apply vq.drew | apply vq.set_1 | apply vq.set_2) | exact HI0.out)) (by (with_reducible repeat (first | apply Kd.jq | apply Kd.zx | apply Kd.jz));exact HO112.out) (by decide)) hk (fun _ h => h.2)) (fun _ h => h.1));have n1_ := qq.mk (zk.trans (by repeat (first | (with_reducible first | exact HK.out | apply zk.set_ | apply jj | apply jv | apply jk) | exact HK.out)) hk (.inl rfl));have n2_ := qq.mk (hb);have n3_ := qq.mk (hi);clear HO112;clear HK;clear HB;clear HI0;have HO112 := n0_;have HK := n1_;have HB := n2_;have HI0 := n3_;clear n0_ n1_ n2_ n3_;(try clear hb);(try clear hb2);(try clear hk);(try clear hi)));try go_wp2_with (first | (go_at_call 54;(with_reducible refine (qjz.calls g s0_0 x1001_1 x1002_1 (x1_1.size : Int) t104 t105 t106 w0 _ ?side1 ?side2 A9.out).mono ?_);(case side1 => repeat (first | (with_reducible first | exact HI0.out | apply vq.alloc | apply vq.drewN | apply vq.drew | apply vq.set_1 | apply vq.set_2) | exact HI0.out));(case side2 => repeat (first | (with_reducible first | exact HB.out | apply qj | apply qz | apply qk | refine qx ?_ (vq.ge HI0.out)) | exact HB.out));rintro e w36 ⟨rfl,hi,hb,hk⟩;have n0_ := qq.mk (zk.trans (by repeat (first | (with_reducible first | exact HK.out | apply zk.set_ | apply jj | apply jv | apply jk) | exact HK.out)) hk (.inl rfl));have n1_ := qq.mk (hb);have n2_ := qq.mk (hi);clear HK;clear HB;clear HI0;have HK := n0_;have HB := n1_;have HI0 := n2_;clear n0_ n1_ n2_;(try clear hb);(try clear hb2);(try clear hk);(try clear hi)) | (go_at_call 54;(with_reducible refine (qjz.calls g s0_0 t105 t106 (a2.size : Int) t107 t108 t109 w0 _ ?side1 ?side2 A10.out).mono ?_);(case side1 => repeat (first | (with_reducible first | exact HI0.out | apply vq.alloc | apply vq.drewN | apply vq.drew | apply vq.set_1 | apply vq.set_2) | exact HI0.out));(case side2 => repeat (first | (with_reducible first | exact HB.out | apply qj | apply qz | apply qk | refine qx ?_ (vq.ge HI0.out)) | exact HB.out));rintro e w37 ⟨rfl,hi,hb,hk⟩;have n0_ := qq.mk (zk.trans (by repeat (first | (with_reducible first | exact HK.out | apply zk.set_ | apply jj | apply jv | apply jk) | exact HK.out)) hk (.inl rfl));have n1_ := qq.mk (hb);have n2_ := qq.mk (hi);clear HK;clear HB;clear HI0;have HK := n0_;have HB := n1_;have HI0 := n2_;clear n0_ n1_ n2_;(try clear hb);(try clear hb2);(try clear hk);(try clear hi);have p13 : 0 ≤ (t107 : Int) := of_decide_eq_true (by assumption);have q13 : t107 < (a2.size : Int) := of_decide_eq_true (by assumption);have hx13 := bt_at a2 t107;replace p13 := eq_true p13;replace q13 := eq_true q13) | ((with_reducible refine gate_dst (N := 31) rfl ?_);(try (refine gate_guard (by rfl) ?_;dsimp only));refine Kd.R_lit (Kd.int .u8) _ 5 ?hg (N := 31) ?hd (xs := ([bt a2 t107] : List Int)) (inner := [.int .u8 (bt a2 t107)]) (ok := fun _ => True) (okp := fun _ => True) ?hr ?hp (fun _ hk => hk) trivial (Below.refl _ _) (Nat.le_refl _) (by simp) ?_;(case hd => rfl);(case hg => rfl);(case hr => first | (go_simp;done) | (go_simp;rfl));(case hp => exact (Reps.one (show Kd.M (Kd.int .u8) _ _ _ (bt a2 t107) [.int .u8 (bt a2 t107)] from rfl) (Reps.none _ _)));intro v111 w38 ho39 hb hg_ hnew_;clear hg_ hnew_;(first | rw [← Ny110.out] at ho39 | (simp only [Int.reduceToNat] at ho39;rw [← Ny110.out] at ho39));have n0_ := qq.mk (Kd.R_lower ho39 (keep_size (w := w) (g := g) (row := none) (by repeat (first | (with_reducible first | exact HK.out | apply zk.set_ | apply jj | apply jv | apply jk) | exact HK.out))));have n1_ := qq.mk (vq.below (by repeat (first | (with_reducible first | exact HI0.out | apply vq.alloc | apply vq.drewN | apply vq.drew | apply vq.set_1 | apply vq.set_2) | exact HI0.out)) hb);have n2_ := qq.mk (zk.trans (by repeat (first | (with_reducible first | exact HK.out | apply zk.set_ | apply jj | apply jv | apply jk) | exact HK.out)) (zk.of_below hb g none) (.inl rfl));have n3_ := qq.mk (zv (by repeat (first | (with_reducible first | exact HB.out | apply qj | apply qz | apply qk | refine qx ?_ (vq.ge HI0.out)) | exact HB.out)) hb);clear HI0;clear HK;clear HB;have HO112 := n0_;have HI0 := n1_;have HK := n2_;have HB := n3_;clear n0_ n1_ n2_ n3_;clear hb ho39;have hcv40 := own_string (P := Try.prog) Try.underlying22 Try.underlying5 Try.underlying9 (Kd.own_of_R HO112.out)) | (go_at_call 54;(with_reducible refine (qjz.calls g s0_0 t108 t109 3 t113 t114 t115 w0 _ ?side1 ?side2 A14.out).mono ?_);(case side1 => repeat (first | (with_reducible first | exact HI0.out | apply vq.alloc | apply vq.drewN | apply vq.drew | apply vq.set_1 | apply vq.set_2) | exact HI0.out));(case side2 => repeat (first | (with_reducible first | exact HB.out | apply qj | apply qz | apply qk | refine qx ?_ (vq.ge HI0.out)) | exact HB.out));rintro e w41 ⟨rfl,hi,hb,hk⟩;have n0_ := qq.mk (Kd.R_mono (Kd.R_keep (vq.apart (show vq w0 _ g s0_0 t108 t109 from by repeat (first | (with_reducible first | exact HI0.out | apply vq.alloc | apply vq.drewN | apply vq.drew | apply vq.set_1 | apply vq.set_2) | exact HI0.out)) (by (with_reducible repeat (first | apply Kd.jq | apply Kd.zx | apply Kd.jz));exact HO112.out) (by decide)) hk (fun _ h => h.2)) (fun _ h => h.1));have n1_ := qq.mk (zk.trans (by repeat (first | (with_reducible first | exact HK.out | apply zk.set_ | apply jj | apply jv | apply jk) | exact HK.out)) hk (.inl rfl));have n2_ := qq.mk (hb);have n3_ := qq.mk (hi);clear HO112;clear HK;clear HB;clear HI0;have HO112 := n0_;have HK := n1_;have HB := n2_;have HI0 := n3_;clear n0_ n1_ n2_ n3_;(try clear hb);(try clear hb2);(try clear hk);(try clear hi))))
                go_roundg kj5
                case measure => have := HK1.out;have := HJ5.out;omega
                case rel => exact ⟨(((x1_1.extract 0 (t104 : Int).toNat) ++ (strOfNums y110)) ++ (x1_1.extract ((ji32) : Int).toNat x1_1.size)),(wrap64 (x7_1 - 1)),(t114),(t115),(by first | rfl | (simp;done) | (simp only [← hji32] <;> (first | rfl | simp)) | (simp [*];done)),(by first | rfl | (simp;done) | (simp [*];done)),H',⟨by have := HK1.out;have := HJ5.out;omega⟩,⟨by repeat (first | (with_reducible first | exact HI0.out | apply vq.alloc | apply vq.drewN | apply vq.drew | apply vq.set_1 | apply vq.set_2) | exact HI0.out)⟩,⟨by repeat (first | (with_reducible first | exact HK.out | apply zk.set_ | apply jj | apply jv | apply jk) | exact HK.out)⟩,⟨by repeat (first | (with_reducible first | exact HB.out | apply qj | apply qz | apply qk | refine qx ?_ (vq.ge HI0.out)) | exact HB.out)⟩⟩
               ·rw [if_neg c35] at H
                exact absurd H (by simp)
              ·rw [if_neg c34] at H
               exact absurd H (by simp)
             ·rw [if_neg c33] at H
              exact absurd H (by simp)
            ·rw [if_neg c31] at H
             exact absurd H (by simp)
           ·rw [if_neg c30] at H
            exact absurd H (by simp)
          ·rw [if_neg c29] at H
           exact absurd H (by simp)
         ·rw [if_neg c28] at H
          have c28b0 : (t113 == 1) = false := beq_eq_false_iff_ne.mpr c28
          have c28b1 : (t113 != 1) = true := bne_iff_ne.mpr c28
          by_cases c42 : 0 ≤ t104
          ·rw [if_pos c42] at H
           have c42b0 := eq_true c42
           have c42b1 : decide (0 ≤ t104) = true := decide_eq_true c42
           clear c42
           by_cases c43 : t104 ≤ (x1_1.size : Int)
           ·rw [if_pos c43] at H
            have c43b0 := eq_true c43
            have c43b1 : decide (t104 ≤ (x1_1.size : Int)) = true := decide_eq_true c43
            clear c43
            obtain ⟨ji44,hji44⟩ : ∃ j_ : Int,(wrap64 (t104 + 1)) = j_ := ⟨_,rfl⟩
            replace H : (if 0 ≤ (ji44) then (if (ji44) ≤ (x1_1.size : Int) then (if (x1_1.extract 0 (t104 : Int).toNat).size + (x1_1.extract ((ji44) : Int).toNat x1_1.size).size ≤ 9223372036854775807 then (qjj.l0 kj5 ((x1_1.extract 0 (t104 : Int).toNat) ++ (x1_1.extract ((ji44) : Int).toNat x1_1.size)) a2 (wrap64 (x7_1 - 1)) s0_0 t114 t115) else (none)) else (none)) else (none)) = some (r1,r2,r3) := by first | (rw [hji44] at H;exact H) | (simp only [hji44] at H ⊢;exact H)
            (try rw [hji44] at A9)
            (try rw [hji44] at A10)
            (try rw [hji44] at A14)
            have hji44w : (IntKind.i64.wrap (t104 + 1)) = ji44 := (i64_w _).trans hji44
            by_cases c45 : 0 ≤ (ji44)
            ·rw [if_pos c45] at H
             have c45b0 := eq_true c45
             have c45b1 : decide (0 ≤ (ji44)) = true := decide_eq_true c45
             clear c45
             by_cases c46 : (ji44) ≤ (x1_1.size : Int)
             ·rw [if_pos c46] at H
              have c46b0 := eq_true c46
              have c46b1 : decide ((ji44) ≤ (x1_1.size : Int)) = true := decide_eq_true c46
              clear c46
              by_cases c47 : (x1_1.extract 0 (t104 : Int).toNat).size + (x1_1.extract ((ji44) : Int).toNat x1_1.size).size ≤ 9223372036854775807
              ·rw [if_pos c47] at H
               have c47b0 := eq_true c47
               have c47b1 : decide ((x1_1.extract 0 (t104 : Int).toNat).size + (x1_1.extract ((ji44) : Int).toNat x1_1.size).size ≤ 9223372036854775807) = true := decide_eq_true c47
               try have c47b2 : (9223372036854775807 < (x1_1.extract 0 (t104 : Int).toNat).size + (x1_1.extract ((ji44) : Int).toNat x1_1.size).size) = False := eq_false (Nat.not_lt.2 c47)
               have H' := qq.mk H
               clear H
               go_wp2_with (first | (go_at_call 54;(with_reducible refine (qjz.calls g s0_0 x1001_1 x1002_1 (x1_1.size : Int) t104 t105 t106 w0 _ ?side1 ?side2 A9.out).mono ?_);(case side1 => repeat (first | (with_reducible first | exact HI0.out | apply vq.alloc | apply vq.drewN | apply vq.drew | apply vq.set_1 | apply vq.set_2) | exact HI0.out));(case side2 => repeat (first | (with_reducible first | exact HB.out | apply qj | apply qz | apply qk | refine qx ?_ (vq.ge HI0.out)) | exact HB.out));rintro e w48 ⟨rfl,hi,hb,hk⟩;have n0_ := qq.mk (zk.trans (by repeat (first | (with_reducible first | exact HK.out | apply zk.set_ | apply jj | apply jv | apply jk) | exact HK.out)) hk (.inl rfl));have n1_ := qq.mk (hb);have n2_ := qq.mk (hi);clear HK;clear HB;clear HI0;have HK := n0_;have HB := n1_;have HI0 := n2_;clear n0_ n1_ n2_;(try clear hb);(try clear hb2);(try clear hk);(try clear hi)) | (go_at_call 54;(with_reducible refine (qjz.calls g s0_0 t105 t106 (a2.size : Int) t107 t108 t109 w0 _ ?side1 ?side2 A10.out).mono ?_);(case side1 => repeat (first | (with_reducible first | exact HI0.out | apply vq.alloc | apply vq.drewN | apply vq.drew | apply vq.set_1 | apply vq.set_2) | exact HI0.out));(case side2 => repeat (first | (with_reducible first | exact HB.out | apply qj | apply qz | apply qk | refine qx ?_ (vq.ge HI0.out)) | exact HB.out));rintro e w49 ⟨rfl,hi,hb,hk⟩;have n0_ := qq.mk (zk.trans (by repeat (first | (with_reducible first | exact HK.out | apply zk.set_ | apply jj | apply jv | apply jk) | exact HK.out)) hk (.inl rfl));have n1_ := qq.mk (hb);have n2_ := qq.mk (hi);clear HK;clear HB;clear HI0;have HK := n0_;have HB := n1_;have HI0 := n2_;clear n0_ n1_ n2_;(try clear hb);(try clear hb2);(try clear hk);(try clear hi);have p13 : 0 ≤ (t107 : Int) := of_decide_eq_true (by assumption);have q13 : t107 < (a2.size : Int) := of_decide_eq_true (by assumption);have hx13 := bt_at a2 t107;replace p13 := eq_true p13;replace q13 := eq_true q13) | ((with_reducible refine gate_dst (N := 31) rfl ?_);(try (refine gate_guard (by rfl) ?_;dsimp only));refine Kd.R_lit (Kd.int .u8) _ 5 ?hg (N := 31) ?hd (xs := ([bt a2 t107] : List Int)) (inner := [.int .u8 (bt a2 t107)]) (ok := fun _ => True) (okp := fun _ => True) ?hr ?hp (fun _ hk => hk) trivial (Below.refl _ _) (Nat.le_refl _) (by simp) ?_;(case hd => rfl);(case hg => rfl);(case hr => first | (go_simp;done) | (go_simp;rfl));(case hp => exact (Reps.one (show Kd.M (Kd.int .u8) _ _ _ (bt a2 t107) [.int .u8 (bt a2 t107)] from rfl) (Reps.none _ _)));intro v111 w50 ho51 hb hg_ hnew_;clear hg_ hnew_;(first | rw [← Ny110.out] at ho51 | (simp only [Int.reduceToNat] at ho51;rw [← Ny110.out] at ho51));have n0_ := qq.mk (Kd.R_lower ho51 (keep_size (w := w) (g := g) (row := none) (by repeat (first | (with_reducible first | exact HK.out | apply zk.set_ | apply jj | apply jv | apply jk) | exact HK.out))));have n1_ := qq.mk (vq.below (by repeat (first | (with_reducible first | exact HI0.out | apply vq.alloc | apply vq.drewN | apply vq.drew | apply vq.set_1 | apply vq.set_2) | exact HI0.out)) hb);have n2_ := qq.mk (zk.trans (by repeat (first | (with_reducible first | exact HK.out | apply zk.set_ | apply jj | apply jv | apply jk) | exact HK.out)) (zk.of_below hb g none) (.inl rfl));have n3_ := qq.mk (zv (by repeat (first | (with_reducible first | exact HB.out | apply qj | apply qz | apply qk | refine qx ?_ (vq.ge HI0.out)) | exact HB.out)) hb);clear HI0;clear HK;clear HB;have HO112 := n0_;have HI0 := n1_;have HK := n2_;have HB := n3_;clear n0_ n1_ n2_ n3_;clear hb ho51;have hcv52 := own_string (P := Try.prog) Try.underlying22 Try.underlying5 Try.underlying9 (Kd.own_of_R HO112.out)) | (go_at_call 54;(with_reducible refine (qjz.calls g s0_0 t108 t109 3 t113 t114 t115 w0 _ ?side1 ?side2 A14.out).mono ?_);(case side1 => repeat (first | (with_reducible first | exact HI0.out | apply vq.alloc | apply vq.drewN | apply vq.drew | apply vq.set_1 | apply vq.set_2) | exact HI0.out));(case side2 => repeat (first | (with_reducible first | exact HB.out | apply qj | apply qz | apply qk | refine qx ?_ (vq.ge HI0.out)) | exact HB.out));rintro e w53 ⟨rfl,hi,hb,hk⟩;have n0_ := qq.mk (Kd.R_mono (Kd.R_keep (vq.apart (show vq w0 _ g s0_0 t108 t109 from by repeat (first | (with_reducible first | exact HI0.out | apply vq.alloc | apply vq.drewN | apply vq.drew | apply vq.set_1 | apply vq.set_2) | exact HI0.out)) (by (with_reducible repeat (first | apply Kd.jq | apply Kd.zx | apply Kd.jz));exact HO112.out) (by decide)) hk (fun _ h => h.2)) (fun _ h => h.1));have n1_ := qq.mk (zk.trans (by repeat (first | (with_reducible first | exact HK.out | apply zk.set_ | apply jj | apply jv | apply jk) | exact HK.out)) hk (.inl rfl));have n2_ := qq.mk (hb);have n3_ := qq.mk (hi);clear HO112;clear HK;clear HB;clear HI0;have HO112 := n0_;have HK := n1_;have HB := n2_;have HI0 := n3_;clear n0_ n1_ n2_ n3_;(try clear hb);(try clear hb2);(try clear hk);(try clear hi)))
               repeat (go_quiet (first | (go_at_call 54;(with_reducible refine (qjz.calls g s0_0 x1001_1 x1002_1 (x1_1.size : Int) t104 t105 t106 w0 _ ?side1 ?side2 A9.out).mono ?_);(case side1 => repeat (first | (with_reducible first | exact HI0.out | apply vq.alloc | apply vq.drewN | apply vq.drew | apply vq.set_1 | apply vq.set_2) | exact HI0.out));(case side2 => repeat (first | (with_reducible first | exact HB.out | apply qj | apply qz | apply qk | refine qx ?_ (vq.ge HI0.out)) | exact HB.out));rintro e w48 ⟨rfl,hi,hb,hk⟩;have n0_ := qq.mk (zk.trans (by repeat (first | (with_reducible first | exact HK.out | apply zk.set_ | apply jj | apply jv | apply jk) | exact HK.out)) hk (.inl rfl));have n1_ := qq.mk (hb);have n2_ := qq.mk (hi);clear HK;clear HB;clear HI0;have HK := n0_;have HB := n1_;have HI0 := n2_;clear n0_ n1_ n2_;(try clear hb);(try clear hb2);(try clear hk);(try clear hi)) | (go_at_call 54;(with_reducible refine (qjz.calls g s0_0 t105 t106 (a2.size : Int) t107 t108 t109 w0 _ ?side1 ?side2 A10.out).mono ?_);(case side1 => repeat (first | (with_reducible first | exact HI0.out | apply vq.alloc | apply vq.drewN | apply vq.drew | apply vq.set_1 | apply vq.set_2) | exact HI0.out));(case side2 => repeat (first | (with_reducible first | exact HB.out | apply qj | apply qz | apply qk | refine qx ?_ (vq.ge HI0.out)) | exact HB.out));rintro e w49 ⟨rfl,hi,hb,hk⟩;have n0_ := qq.mk (zk.trans (by repeat (first | (with_reducible first | exact HK.out | apply zk.set_ | apply jj | apply jv | apply jk) | exact HK.out)) hk (.inl rfl));have n1_ := qq.mk (hb);have n2_ := qq.mk (hi);clear HK;clear HB;clear HI0;have HK := n0_;have HB := n1_;have HI0 := n2_;clear n0_ n1_ n2_;(try clear hb);(try clear hb2);(try clear hk);(try clear hi);have p13 : 0 ≤ (t107 : Int) := of_decide_eq_true (by assumption);have q13 : t107 < (a2.size : Int) := of_decide_eq_true (by assumption);have hx13 := bt_at a2 t107;replace p13 := eq_true p13;replace q13 := eq_true q13) | ((with_reducible refine gate_dst (N := 31) rfl ?_);(try (refine gate_guard (by rfl) ?_;dsimp only));refine Kd.R_lit (Kd.int .u8) _ 5 ?hg (N := 31) ?hd (xs := ([bt a2 t107] : List Int)) (inner := [.int .u8 (bt a2 t107)]) (ok := fun _ => True) (okp := fun _ => True) ?hr ?hp (fun _ hk => hk) trivial (Below.refl _ _) (Nat.le_refl _) (by simp) ?_;(case hd => rfl);(case hg => rfl);(case hr => first | (go_simp;done) | (go_simp;rfl));(case hp => exact (Reps.one (show Kd.M (Kd.int .u8) _ _ _ (bt a2 t107) [.int .u8 (bt a2 t107)] from rfl) (Reps.none _ _)));intro v111 w50 ho51 hb hg_ hnew_;clear hg_ hnew_;(first | rw [← Ny110.out] at ho51 | (simp only [Int.reduceToNat] at ho51;rw [← Ny110.out] at ho51));have n0_ := qq.mk (Kd.R_lower ho51 (keep_size (w := w) (g := g) (row := none) (by repeat (first | (with_reducible first | exact HK.out | apply zk.set_ | apply jj | apply jv | apply jk) | exact HK.out))));have n1_ := qq.mk (vq.below (by repeat (first | (with_reducible first | exact HI0.out | apply vq.alloc | apply vq.drewN | apply vq.drew | apply vq.set_1 | apply vq.set_2) | exact HI0.out)) hb);have n2_ := qq.mk (zk.trans (by repeat (first | (with_reducible first | exact HK.out | apply zk.set_ | apply jj | apply jv | apply jk) | exact HK.out)) (zk.of_below hb g none) (.inl rfl));have n3_ := qq.mk (zv (by repeat (first | (with_reducible first | exact HB.out | apply qj | apply qz | apply qk | refine qx ?_ (vq.ge HI0.out)) | exact HB.out)) hb);clear HI0;clear HK;clear HB;have HO112 := n0_;have HI0 := n1_;have HK := n2_;have HB := n3_;clear n0_ n1_ n2_ n3_;clear hb ho51;have hcv52 := own_string (P := Try.prog) Try.underlying22 Try.underlying5 Try.underlying9 (Kd.own_of_R HO112.out)) | (go_at_call 54;(with_reducible refine (qjz.calls g s0_0 t108 t109 3 t113 t114 t115 w0 _ ?side1 ?side2 A14.out).mono ?_);(case side1 => repeat (first | (with_reducible first | exact HI0.out | apply vq.alloc | apply vq.drewN | apply vq.drew | apply vq.set_1 | apply vq.set_2) | exact HI0.out));(case side2 => repeat (first | (with_reducible first | exact HB.out | apply qj | apply qz | apply qk | refine qx ?_ (vq.ge HI0.out)) | exact HB.out));rintro e w53 ⟨rfl,hi,hb,hk⟩;have n0_ := qq.mk (Kd.R_mono (Kd.R_keep (vq.apart (show vq w0 _ g s0_0 t108 t109 from by repeat (first | (with_reducible first | exact HI0.out | apply vq.alloc | apply vq.drewN | apply vq.drew | apply vq.set_1 | apply vq.set_2) | exact HI0.out)) (by (with_reducible repeat (first | apply Kd.jq | apply Kd.zx | apply Kd.jz));exact HO112.out) (by decide)) hk (fun _ h => h.2)) (fun _ h => h.1));have n1_ := qq.mk (zk.trans (by repeat (first | (with_reducible first | exact HK.out | apply zk.set_ | apply jj | apply jv | apply jk) | exact HK.out)) hk (.inl rfl));have n2_ := qq.mk (hb);have n3_ := qq.mk (hi);clear HO112;clear HK;clear HB;clear HI0;have HO112 := n0_;have HK := n1_;have HB := n2_;have HI0 := n3_;clear n0_ n1_ n2_ n3_;(try clear hb);(try clear hb2);(try clear hk);(try clear hi)));try go_wp2_with (first | (go_at_call 54;(with_reducible refine (qjz.calls g s0_0 x1001_1 x1002_1 (x1_1.size : Int) t104 t105 t106 w0 _ ?side1 ?side2 A9.out).mono ?_);(case side1 => repeat (first | (with_reducible first | exact HI0.out | apply vq.alloc | apply vq.drewN | apply vq.drew | apply vq.set_1 | apply vq.set_2) | exact HI0.out));(case side2 => repeat (first | (with_reducible first | exact HB.out | apply qj | apply qz | apply qk | refine qx ?_ (vq.ge HI0.out)) | exact HB.out));rintro e w48 ⟨rfl,hi,hb,hk⟩;have n0_ := qq.mk (zk.trans (by repeat (first | (with_reducible first | exact HK.out | apply zk.set_ | apply jj | apply jv | apply jk) | exact HK.out)) hk (.inl rfl));have n1_ := qq.mk (hb);have n2_ := qq.mk (hi);clear HK;clear HB;clear HI0;have HK := n0_;have HB := n1_;have HI0 := n2_;clear n0_ n1_ n2_;(try clear hb);(try clear hb2);(try clear hk);(try clear hi)) | (go_at_call 54;(with_reducible refine (qjz.calls g s0_0 t105 t106 (a2.size : Int) t107 t108 t109 w0 _ ?side1 ?side2 A10.out).mono ?_);(case side1 => repeat (first | (with_reducible first | exact HI0.out | apply vq.alloc | apply vq.drewN | apply vq.drew | apply vq.set_1 | apply vq.set_2) | exact HI0.out));(case side2 => repeat (first | (with_reducible first | exact HB.out | apply qj | apply qz | apply qk | refine qx ?_ (vq.ge HI0.out)) | exact HB.out));rintro e w49 ⟨rfl,hi,hb,hk⟩;have n0_ := qq.mk (zk.trans (by repeat (first | (with_reducible first | exact HK.out | apply zk.set_ | apply jj | apply jv | apply jk) | exact HK.out)) hk (.inl rfl));have n1_ := qq.mk (hb);have n2_ := qq.mk (hi);clear HK;clear HB;clear HI0;have HK := n0_;have HB := n1_;have HI0 := n2_;clear n0_ n1_ n2_;(try clear hb);(try clear hb2);(try clear hk);(try clear hi);have p13 : 0 ≤ (t107 : Int) := of_decide_eq_true (by assumption);have q13 : t107 < (a2.size : Int) := of_decide_eq_true (by assumption);have hx13 := bt_at a2 t107;replace p13 := eq_true p13;replace q13 := eq_true q13) | ((with_reducible refine gate_dst (N := 31) rfl ?_);(try (refine gate_guard (by rfl) ?_;dsimp only));refine Kd.R_lit (Kd.int .u8) _ 5 ?hg (N := 31) ?hd (xs := ([bt a2 t107] : List Int)) (inner := [.int .u8 (bt a2 t107)]) (ok := fun _ => True) (okp := fun _ => True) ?hr ?hp (fun _ hk => hk) trivial (Below.refl _ _) (Nat.le_refl _) (by simp) ?_;(case hd => rfl);(case hg => rfl);(case hr => first | (go_simp;done) | (go_simp;rfl));(case hp => exact (Reps.one (show Kd.M (Kd.int .u8) _ _ _ (bt a2 t107) [.int .u8 (bt a2 t107)] from rfl) (Reps.none _ _)));intro v111 w50 ho51 hb hg_ hnew_;clear hg_ hnew_;(first | rw [← Ny110.out] at ho51 | (simp only [Int.reduceToNat] at ho51;rw [← Ny110.out] at ho51));have n0_ := qq.mk (Kd.R_lower ho51 (keep_size (w := w) (g := g) (row := none) (by repeat (first | (with_reducible first | exact HK.out | apply zk.set_ | apply jj | apply jv | apply jk) | exact HK.out))));have n1_ := qq.mk (vq.below (by repeat (first | (with_reducible first | exact HI0.out | apply vq.alloc | apply vq.drewN | apply vq.drew | apply vq.set_1 | apply vq.set_2) | exact HI0.out)) hb);have n2_ := qq.mk (zk.trans (by repeat (first | (with_reducible first | exact HK.out | apply zk.set_ | apply jj | apply jv | apply jk) | exact HK.out)) (zk.of_below hb g none) (.inl rfl));have n3_ := qq.mk (zv (by repeat (first | (with_reducible first | exact HB.out | apply qj | apply qz | apply qk | refine qx ?_ (vq.ge HI0.out)) | exact HB.out)) hb);clear HI0;clear HK;clear HB;have HO112 := n0_;have HI0 := n1_;have HK := n2_;have HB := n3_;clear n0_ n1_ n2_ n3_;clear hb ho51;have hcv52 := own_string (P := Try.prog) Try.underlying22 Try.underlying5 Try.underlying9 (Kd.own_of_R HO112.out)) | (go_at_call 54;(with_reducible refine (qjz.calls g s0_0 t108 t109 3 t113 t114 t115 w0 _ ?side1 ?side2 A14.out).mono ?_);(case side1 => repeat (first | (with_reducible first | exact HI0.out | apply vq.alloc | apply vq.drewN | apply vq.drew | apply vq.set_1 | apply vq.set_2) | exact HI0.out));(case side2 => repeat (first | (with_reducible first | exact HB.out | apply qj | apply qz | apply qk | refine qx ?_ (vq.ge HI0.out)) | exact HB.out));rintro e w53 ⟨rfl,hi,hb,hk⟩;have n0_ := qq.mk (Kd.R_mono (Kd.R_keep (vq.apart (show vq w0 _ g s0_0 t108 t109 from by repeat (first | (with_reducible first | exact HI0.out | apply vq.alloc | apply vq.drewN | apply vq.drew | apply vq.set_1 | apply vq.set_2) | exact HI0.out)) (by (with_reducible repeat (first | apply Kd.jq | apply Kd.zx | apply Kd.jz));exact HO112.out) (by decide)) hk (fun _ h => h.2)) (fun _ h => h.1));have n1_ := qq.mk (zk.trans (by repeat (first | (with_reducible first | exact HK.out | apply zk.set_ | apply jj | apply jv | apply jk) | exact HK.out)) hk (.inl rfl));have n2_ := qq.mk (hb);have n3_ := qq.mk (hi);clear HO112;clear HK;clear HB;clear HI0;have HO112 := n0_;have HK := n1_;have HB := n2_;have HI0 := n3_;clear n0_ n1_ n2_ n3_;(try clear hb);(try clear hb2);(try clear hk);(try clear hi))))
               go_roundg kj5
               case measure => have := HK1.out;have := HJ5.out;omega
               case rel => exact ⟨((x1_1.extract 0 (t104 : Int).toNat) ++ (x1_1.extract ((ji44) : Int).toNat x1_1.size)),(wrap64 (x7_1 - 1)),(t114),(t115),(by first | rfl | (simp;done) | (simp only [← hji44] <;> (first | rfl | simp)) | (simp [*];done)),(by first | rfl | (simp;done) | (simp [*];done)),H',⟨by have := HK1.out;have := HJ5.out;omega⟩,⟨by repeat (first | (with_reducible first | exact HI0.out | apply vq.alloc | apply vq.drewN | apply vq.drew | apply vq.set_1 | apply vq.set_2) | exact HI0.out)⟩,⟨by repeat (first | (with_reducible first | exact HK.out | apply zk.set_ | apply jj | apply jv | apply jk) | exact HK.out)⟩,⟨by repeat (first | (with_reducible first | exact HB.out | apply qj | apply qz | apply qk | refine qx ?_ (vq.ge HI0.out)) | exact HB.out)⟩⟩
              ·rw [if_neg c47] at H
               exact absurd H (by simp)
             ·rw [if_neg c46] at H
              exact absurd H (by simp)
            ·rw [if_neg c45] at H
             exact absurd H (by simp)
           ·rw [if_neg c43] at H
            exact absurd H (by simp)
          ·rw [if_neg c42] at H
           exact absurd H (by simp)
       ·rw [if_neg c12] at H
        exact absurd H (by simp)
      ·rw [if_neg c11] at H
       exact absurd H (by simp)
     ·replace c8 := Bool.eq_false_iff.mpr c8
      subst c8
      have H1 : (some (x1_1,x1001_1,x1002_1)) = some (r1,r2,r3) := by rw [if_neg (show ¬ (false = true) by decide)] at H;exact H
      clear H
      have H := H1
      clear H1
      simp only [Option.some.injEq,Prod.mk.injEq] at H
      obtain ⟨rfl,rfl,rfl⟩ := H
      go_wp2
      repeat (go_quiet (fail);try go_wp2)
      go_ret
      exact ⟨by first | rfl | (simp [*,jx,jw] <;> rfl),by repeat (first | (with_reducible first | exact HI0.out | apply vq.alloc | apply vq.drewN | apply vq.drew | apply vq.set_1 | apply vq.set_2) | exact HI0.out),by repeat (first | (with_reducible first | exact HB.out | apply qj | apply qz | apply qk | refine qx ?_ (vq.ge HI0.out)) | exact HB.out),by repeat (first | (with_reducible first | exact HK.out | apply zk.set_ | apply jj | apply jv | apply jk) | exact HK.out)⟩
end Go.Proofs.Ytccbjchlcelkgaa.Pr
namespace Go.Proofs.Ytccbjchlcelkgaa.Pr
open Go.RowKit Go.Proofs.YtccbjchlcelkgaaW.PrintWords Go.Proofs.YtccbjchlcelkgaaW.PrintLast Go.Proofs.YtccbjchlcelkgaaW.PrintMore
attribute [local go_sem] max2_int min2_int max_two min_two max_three min_three max_four min_four
set_option linter.unusedVariables false
set_option linter.unusedSimpArgs false
def qqw.f (k : Nat) (l0 : List Int) : Option (ByteArray) := (newCur.f l0 0 0).bind fun bt101 => ((qzk.f k bt101.1 bt101.2.1 bt101.2.2).bind fun bt105 => ((qzz.f k bt105.1).bind fun t110 => ((qjj.f k bt101.1 bt105.2.1 bt105.2.2 t110 (⟨#[44,61,92,97,32]⟩ : ByteArray)).bind fun bt111 => (some bt111.1))))
set_option maxHeartbeats 8000000 in
set_option maxRecDepth 100000 in
theorem qqw.calls (k : Nat) (A0 : Option Addr) (c0 : Nat) (l0 : List Int) (r : ByteArray) (w : World) (hr0 : Kd.C (Kd.int .u8) w A0 l0.length l0) (hc0 : l0.length ≤ c0) (h : qqw.f k l0 = some r) :
  Calls Try.prog 47 #[.slice A0 l0.length c0] w fun e w' => e = .returned (.string r) ∧ Below w.heap.size w w' := by
 have hu82 := Try.underlying82
 have HR0 := qq.mk hr0
 have HC0 := qq.mk hc0
 clear hr0 hc0
 have HB := qq.mk (Below.refl w.heap.size w)
 have H : ((newCur.f l0 0 0).bind fun bt101 => ((qzk.f k bt101.1 bt101.2.1 bt101.2.2).bind fun bt105 => ((qzz.f k bt105.1).bind fun t110 => ((qjj.f k bt101.1 bt105.2.1 bt105.2.2 t110 (⟨#[44,61,92,97,32]⟩ : ByteArray)).bind fun bt111 => (some bt111.1))))) = some r := h
 clear h
 replace H := Option.bind_eq_some_iff.mp H
 obtain ⟨⟨t101,t102,t103⟩,A20,H⟩ := H
 replace H : ((qzk.f k t101 t102 t103).bind fun bt105 => ((qzz.f k bt105.1).bind fun t110 => ((qjj.f k t101 bt105.2.1 bt105.2.2 t110 (⟨#[44,61,92,97,32]⟩ : ByteArray)).bind fun bt111 => (some bt111.1)))) = some r := H
 have A2 := qq.mk A20
 clear A20
 replace H := Option.bind_eq_some_iff.mp H
 obtain ⟨⟨t105,t108,t109⟩,A30,H⟩ := H
 replace H : ((qzz.f k t105).bind fun t110 => ((qjj.f k t101 t108 t109 t110 (⟨#[44,61,92,97,32]⟩ : ByteArray)).bind fun bt111 => (some bt111.1))) = some r := H
 have A3 := qq.mk A30
 clear A30
 replace H := Option.bind_eq_some_iff.mp H
 obtain ⟨t110,A40,H⟩ := H
 replace H : ((qjj.f k t101 t108 t109 t110 (⟨#[44,61,92,97,32]⟩ : ByteArray)).bind fun bt111 => (some bt111.1)) = some r := H
 have A4 := qq.mk A40
 clear A40
 replace H := Option.bind_eq_some_iff.mp H
 obtain ⟨⟨t111,t112,t113⟩,A50,H⟩ := H
 replace H : (some t111) = some r := H
 have A5 := qq.mk A50
 clear A50
 obtain rfl := Option.some.inj H
 go_enter Try.func47,Try.ntmps47
 go_wp2_with (first | ((with_reducible refine gate_box (t := 82) rfl ?_);refine boxGoesL_ (some 6) rfl rfl (t := 82) (cs := #[.slice A0 l0.length c0,.int .i64 0,.int .u64 0]) (by first | (go_simp;done) | (go_simp;rfl)) ?_;(with_reducible refine (newCur.calls _ _ l0 0 0 t101 t102 t103 w _ ?side1 ?side2 ?side3 A2.out).mono ?_);(case side1 => repeat (first | (with_reducible first | exact HB.out | apply qj | apply qz | apply qk) | exact HB.out));(case side2 => exact HR0.out);(case side3 => exact HC0.out);rintro e w6 ⟨g104,rfl,hi,hb,hb2⟩;refine ⟨_,rfl,?_⟩;have n0_ := qq.mk (hb);have n1_ := qq.mk (hi);clear HB;have HB := n0_;have HI104 := n1_;clear n0_ n1_;(try clear hb);(try clear hb2);(try clear hk);(try clear hi)) | ((with_reducible refine kz (f := 100) rfl ?_);refine goesL_ (some 9) rfl rfl Try.func100 (by kernel_rfl) rfl #[.pointer (some ⟨g104,0,none⟩)] rfl (by (try simp only [List.map_toArray,List.map_cons,List.map_nil]);first | done | rfl | (simp only [List.length_drop,List.length_take];rfl)) ?_;(with_reducible refine (qzk.calls k g104 t101 t102 t103 t105 t108 t109 w _ ?side1 ?side2 A3.out).mono ?_);(case side1 => repeat (first | (with_reducible first | exact HI104.out | apply vq.alloc | apply vq.drewN | apply vq.drew | apply vq.set_1 | apply vq.set_2) | exact HI104.out));(case side2 => repeat (first | (with_reducible first | exact HB.out | apply qj | apply qz | apply qk | refine qx ?_ (vq.ge HI104.out)) | exact HB.out));rintro e w7 ⟨v106,rfl,ho0,hi,hb,hk⟩;refine ⟨_,rfl,?_⟩;have n0_ := qq.mk (Kd.R_lower ho0 (zw (by repeat (first | (with_reducible first | exact HB.out | apply qj | apply qz | apply qk | refine qx ?_ (vq.ge HI104.out)) | exact HB.out))));have n1_ := qq.mk (hb);have n2_ := qq.mk (hi);clear HB;clear HI104;have HO107 := n0_;have HB := n1_;have HI104 := n2_;clear n0_ n1_ n2_;(try clear hb);(try clear hb2);(try clear hk);(try clear hi);(try clear ho0);obtain ⟨Ao8,co8,eo8⟩ := Kd.R_slice HO107.out;subst eo8) | ((with_reducible refine kz (f := 43) rfl ?_);refine goesL_ (some 10) rfl rfl Try.func43 (by kernel_rfl) rfl #[.slice Ao8 t105.length co8] rfl (by (try simp only [List.map_toArray,List.map_cons,List.map_nil]);first | done | rfl | (simp only [List.length_drop,List.length_take];rfl)) ?_;(with_reducible refine (qzz.calls k _ _ t105 t110 _ ?side1 ?side2 A4.out).mono ?_);(case side1 => repeat (first | exact (Kd.R_reads' HO107.out).2.2 | (with_reducible refine Kd.C_alloc ?_ _) | (with_reducible refine Kd.C_drewN ?_ _) | (with_reducible refine Kd.C_drew ?_)));(case side2 => exact (Kd.R_reads' HO107.out).2.1);rintro e w9 ⟨rfl,hb⟩;refine ⟨_,rfl,?_⟩;have n0_ := qq.mk (Kd.R_below (by (with_reducible repeat (first | apply Kd.jq | apply Kd.zx | apply Kd.jz));exact HO107.out) hb);have n1_ := qq.mk (vq.below (by repeat (first | (with_reducible first | exact HI104.out | apply vq.alloc | apply vq.drewN | apply vq.drew | apply vq.set_1 | apply vq.set_2) | exact HI104.out)) hb);have n2_ := qq.mk (zv (by repeat (first | (with_reducible first | exact HB.out | apply qj | apply qz | apply qk | refine qx ?_ (vq.ge HI104.out)) | exact HB.out)) hb);clear HO107;clear HI104;clear HB;have HO107 := n0_;have HI104 := n1_;have HB := n2_;clear n0_ n1_ n2_;(try clear hb);(try clear hb2);(try clear hk);(try clear hi)) | ((with_reducible refine kz (f := 64) rfl ?_);refine goesL_ (some 11) rfl rfl Try.func64 (by kernel_rfl) rfl #[.pointer (some ⟨g104,0,none⟩),.string t110,.string (⟨#[44,61,92,97,32]⟩ : ByteArray)] rfl (by (try simp only [List.map_toArray,List.map_cons,List.map_nil]);first | done | rfl | (simp only [List.length_drop,List.length_take];rfl)) ?_;(with_reducible refine (qjj.calls k g104 t101 t108 t109 t110 (⟨#[44,61,92,97,32]⟩ : ByteArray) t111 t112 t113 w _ ?side1 ?side2 A5.out).mono ?_);(case side1 => repeat (first | (with_reducible first | exact HI104.out | apply vq.alloc | apply vq.drewN | apply vq.drew | apply vq.set_1 | apply vq.set_2) | exact HI104.out));(case side2 => repeat (first | (with_reducible first | exact HB.out | apply qj | apply qz | apply qk | refine qx ?_ (vq.ge HI104.out)) | exact HB.out));rintro e w10 ⟨rfl,hi,hb,hk⟩;refine ⟨_,rfl,?_⟩;have n0_ := qq.mk (Kd.R_mono (Kd.R_keep (vq.apart (show vq w _ g104 t101 t108 t109 from by repeat (first | (with_reducible first | exact HI104.out | apply vq.alloc | apply vq.drewN | apply vq.drew | apply vq.set_1 | apply vq.set_2) | exact HI104.out)) (by (with_reducible repeat (first | apply Kd.jq | apply Kd.zx | apply Kd.jz));exact HO107.out) (by decide)) hk (fun _ h => h.2)) (fun _ h => h.1));have n1_ := qq.mk (hb);have n2_ := qq.mk (hi);clear HO107;clear HB;clear HI104;have HO107 := n0_;have HB := n1_;have HI104 := n2_;clear n0_ n1_ n2_;(try clear hb);(try clear hb2);(try clear hk);(try clear hi)))
 go_ret
 exact ⟨by first | rfl | (simp [*,jx,jw] <;> rfl),by repeat (first | (with_reducible first | exact HB.out | apply qj | apply qz | apply qk | refine qx ?_ (vq.ge HI104.out)) | exact HB.out)⟩
end Go.Proofs.Ytccbjchlcelkgaa.Pr
namespace Go.Proofs.Ytccbjchlcelkgaa.Pr
open Go.RowKit Go.Proofs.YtccbjchlcelkgaaW.PrintWords Go.Proofs.YtccbjchlcelkgaaW.PrintLast Go.Proofs.YtccbjchlcelkgaaW.PrintMore
attribute [local go_sem] max2_int min2_int max_two min_two max_three min_three max_four min_four
set_option linter.unusedVariables false
set_option linter.unusedSimpArgs false
mutual
def qzj.l0 : Nat → ByteArray → List (S122) → List Int → Bool → Int → ByteArray → ByteArray → Option ((List (S122)) × Bool)
 | 0,_,_,_,_,_,_,_ => none
 | k + 1,x0,x4,x6,x7,x8,x102000,x102001 => if x8 < (x0.size : Int) then (if 0 ≤ x8 then (if x7 = true then (qzj.j1 k x0 x4 x6 x7 x8 (bt x0 x8) false x102000 x102001) else (qzj.j1 k x0 x4 x6 x7 x8 (bt x0 x8) ((bt x0 x8) == 61) x102000 x102001)) else (none)) else (if x4.length < 4398046511104 then ((some (x4 ++ [(⟨x102000,strOfNums x6⟩ : S122)] : List (S122))).bind fun y102 => (if x7 = true then ((qzz.f k y102).bind fun t105 => (if t105.toList = x0.toList then (some (y102,true)) else (some (([] : List (S122)),false)))) else (some (([] : List (S122)),false)))) else (none))
def qzj.j1 : Nat → ByteArray → List (S122) → List Int → Bool → Int → Int → Bool → ByteArray → ByteArray → Option ((List (S122)) × Bool)
 | 0,_,_,_,_,_,_,_,_,_ => none
 | k + 1,x0,x4,x6,x7,x8,x9,x29,x102000,x102001 => if x29 = true then (qzj.l0 k x0 x4 ([] : List Int) true (wrap64 (x8 + 1)) (strOfNums x6) x102001) else (if x7 = true then (qzj.j2 k x0 x4 x6 x7 x8 x9 (x9 == 44) x102000 x102001) else (qzj.j2 k x0 x4 x6 x7 x8 x9 false x102000 x102001))
def qzj.j2 : Nat → ByteArray → List (S122) → List Int → Bool → Int → Int → Bool → ByteArray → ByteArray → Option ((List (S122)) × Bool)
 | 0,_,_,_,_,_,_,_,_,_ => none
 | k + 1,x0,x4,x6,x7,x8,x9,x39,x102000,x102001 => if x39 = true then (if x4.length < 4398046511104 then (qzj.l0 k x0 (x4 ++ [(⟨x102000,strOfNums x6⟩ : S122)]) ([] : List Int) false (wrap64 (x8 + 1)) x102000 (strOfNums x6)) else (none)) else (if x7 = true then (qzj.j3 k x0 x4 x6 x7 x8 x9 (x9 == 92) x102000 x102001) else (qzj.j3 k x0 x4 x6 x7 x8 x9 false x102000 x102001))
def qzj.j3 : Nat → ByteArray → List (S122) → List Int → Bool → Int → Int → Bool → ByteArray → ByteArray → Option ((List (S122)) × Bool)
 | 0,_,_,_,_,_,_,_,_,_ => none
 | k + 1,x0,x4,x6,x7,x8,x9,x52,x102000,x102001 => if x52 = true then (if (wrap64 (x8 + 1)) = (x0.size : Int) then (some (([] : List (S122)),false)) else (if 0 ≤ (wrap64 (x8 + 1)) then (if (wrap64 (x8 + 1)) < (x0.size : Int) then (if x6.length < 140737488355328 then (qzj.l0 k x0 x4 (x6 ++ [bt x0 (wrap64 (x8 + 1))]) x7 (wrap64 ((wrap64 (x8 + 1)) + 1)) x102000 x102001) else (none)) else (none)) else (none))) else (if x6.length < 140737488355328 then (qzj.l0 k x0 x4 (x6 ++ [x9]) x7 (wrap64 (x8 + 1)) x102000 x102001) else (none))
end
def qzj.f (k : Nat) (a0 : ByteArray) : Option ((List (S122)) × Bool) := if a0.toList = ([] : List UInt8) then (some (([] : List (S122)),true)) else (if (a0.size : Int) > 2000 then (some (([] : List (S122)),false)) else (qzj.l0 k a0 ([] : List (S122)) ([] : List Int) false 0 (⟨#[]⟩ : ByteArray) (⟨#[]⟩ : ByteArray)))
set_option maxHeartbeats 8000000 in
set_option maxRecDepth 100000 in
theorem qzj.calls (k : Nat) (a0 : ByteArray) (r1 : List (S122)) (r2 : Bool) (w : World) (h : qzj.f k a0 = some (r1,r2)) :
  Calls Try.prog 48 #[.string a0] w fun e w' => ∃ v0_ : Value,e = .returned (.tuple #[v0_,.bool r2]) ∧ Kd.R k122 122 w' w.heap.size (fun _ => True) v0_ r1 ∧ Below w.heap.size w w' := by
 have hu122 := Try.underlying122
 have HB := qq.mk (Below.refl w.heap.size w)
 have H : (if a0.toList = ([] : List UInt8) then (some (([] : List (S122)),true)) else (if (a0.size : Int) > 2000 then (some (([] : List (S122)),false)) else (qzj.l0 k a0 ([] : List (S122)) ([] : List Int) false 0 (⟨#[]⟩ : ByteArray) (⟨#[]⟩ : ByteArray)))) = some (r1,r2) := h
 clear h
 by_cases c2 : a0.toList = ([] : List UInt8)
 ·rw [if_pos c2] at H
  have c2b0 : (a0.toList == ([] : List UInt8)) = true := beq_iff_eq.mpr c2
  have c2b1 : (a0.toList != ([] : List UInt8)) = false := bne_eq_false_iff_eq.mpr c2
  clear c2
  simp only [Option.some.injEq,Prod.mk.injEq] at H
  obtain ⟨rfl,rfl⟩ := H
  go_enter Try.func48,Try.ntmps48
  go_wp2
  go_ret2
  exact ⟨_,by first | rfl | (simp [*,jx,jw] <;> rfl),by first | exact Kd.R_nil _ _ _ _ _ | exact Kd.N_nil _ _ _ _ _ | exact Kd.V_nil _ _ _ _ _ | exact Kd.Q_nil _ _ _ _ _ | exact Kd.S_nil _ _ _ _ _,by repeat (first | (with_reducible first | exact HB.out | apply qj | apply qz | apply qk) | exact HB.out)⟩
 ·rw [if_neg c2] at H
  have c2b0 : (a0.toList == ([] : List UInt8)) = false := beq_eq_false_iff_ne.mpr c2
  have c2b1 : (a0.toList != ([] : List UInt8)) = true := bne_iff_ne.mpr c2
  by_cases c3 : (a0.size : Int) > 2000
  ·rw [if_pos c3] at H
   have c3b0 : decide (2000 < (a0.size : Int)) = true := decide_eq_true c3
   have c3b1 : decide (2000 < a0.size) = true := decide_eq_true (by omega)
   clear c3
   simp only [Option.some.injEq,Prod.mk.injEq] at H
   obtain ⟨rfl,rfl⟩ := H
   go_enter Try.func48,Try.ntmps48
   go_wp2
   go_ret2
   exact ⟨_,by first | rfl | (simp [*,jx,jw] <;> rfl),by first | exact Kd.R_nil _ _ _ _ _ | exact Kd.N_nil _ _ _ _ _ | exact Kd.V_nil _ _ _ _ _ | exact Kd.Q_nil _ _ _ _ _ | exact Kd.S_nil _ _ _ _ _,by repeat (first | (with_reducible first | exact HB.out | apply qj | apply qz | apply qk) | exact HB.out)⟩
  ·rw [if_neg c3] at H
   have c3b0 : decide (2000 < (a0.size : Int)) = false := decide_eq_false c3
   have c3b1 : decide (2000 < a0.size) = false := decide_eq_false (by omega)
   clear c3
   have H' := qq.mk H
   clear H
   go_enter Try.func48,Try.ntmps48
   go_wp2_with (first | ((with_reducible refine gate_dst (N := 5) rfl ?_);refine box_event ?hg (N := 5) ?hd (cs := #[.string (⟨#[]⟩ : ByteArray),.string (⟨#[]⟩ : ByteArray)]) (t := 122) ?hr ?_;(case hd => rfl);(case hg => rfl);(case hr => first | (go_simp;done) | (go_simp;rfl));intro gb101 hg w4 hbox hb;have n0_ := qq.mk (zv (by repeat (first | (with_reducible first | exact HB.out | apply qj | apply qz | apply qk) | exact HB.out)) hb);have n1_ := qq.mk (hbox);have n2_ := qq.mk ((by rw [hg];exact (zw (by repeat (first | (with_reducible first | exact HB.out | apply qj | apply qz | apply qk) | exact HB.out))) : w.heap.size ≤ gb101));have n3_ := qq.mk ((by rw [hg];exact (zw (by repeat (first | (with_reducible first | exact HB.out | apply qj | apply qz | apply qk) | exact HB.out))) : w.heap.size ≤ gb101));clear HB;have HB := n0_;have BK101 := n1_;have GW101 := n2_;have GE101 := n3_;clear n0_ n1_ n2_ n3_;clear hb hbox hg;have hcz5_0 : w4.cell? ⟨gb101,0,none⟩ = some (.string (⟨#[]⟩ : ByteArray)) := (qw BK101.out 0).trans rfl;have hcz5_1 : w4.cell? ⟨gb101,1,none⟩ = some (.string (⟨#[]⟩ : ByteArray)) := (qw BK101.out 1).trans rfl;have hfz5_0 := qv BK101.out 0;have hfz5_1 := qv BK101.out 1))
   go_loopg [4,6,7,8] k (fun kq v4 v6 v7 v8 w' => ∃ (x4_1 : List (S122)) (x6_1 : List Int) (x7_1 : Bool) (x8_1 : Int) (x102000_1 : ByteArray) (x102001_1 : ByteArray),v7 = .bool x7_1 ∧ v8 = .int .i64 x8_1 ∧ qq (qzj.l0 kq a0 x4_1 x6_1 x7_1 x8_1 x102000_1 x102001_1 = some (r1,r2)) ∧ qq (kq ≤ k) ∧ qq (Kd.R k122 122 w' w.heap.size (fun k_ => k_ ≠ gb101) v4 x4_1) ∧ qq (Kd.R (Kd.int .u8) 5 w' w.heap.size (fun _ => True) v6 x6_1) ∧ qq (w'.heap[gb101]? = some (.cells #[.string x102000_1,.string x102001_1] 122 (0,0))) ∧ qq (Below w.heap.size w w'))
   case atStart => exact ⟨(([] : List (S122))),(([] : List Int)),(false),(0),((⟨#[]⟩ : ByteArray)),((⟨#[]⟩ : ByteArray)),(by first | rfl | (simp;done) | (simp [*];done) | (generalize ByteArray.toList _ = l_;cases l_ <;> first | rfl | (simp;done))),(by first | rfl | (simp;done) | (simp [*];done) | (generalize ByteArray.toList _ = l_;cases l_ <;> first | rfl | (simp;done))),H',⟨Nat.le_refl _⟩,⟨by first | exact Kd.R_nil _ _ _ _ _ | exact Kd.N_nil _ _ _ _ _ | exact Kd.V_nil _ _ _ _ _ | exact Kd.Q_nil _ _ _ _ _ | exact Kd.S_nil _ _ _ _ _⟩,⟨by first | exact Kd.R_nil _ _ _ _ _ | exact Kd.N_nil _ _ _ _ _ | exact Kd.V_nil _ _ _ _ _ | exact Kd.Q_nil _ _ _ _ _ | exact Kd.S_nil _ _ _ _ _⟩,⟨by (with_reducible repeat (first | refine zz ?_ _ | refine zj ?_ | refine zq ?_ _));refine blk_put (cs := #[.string (⟨#[]⟩ : ByteArray),.string (⟨#[]⟩ : ByteArray)]) ?_ 1 _ rfl;(with_reducible repeat (first | refine zz ?_ _ | refine zj ?_ | refine zq ?_ _));refine blk_put (cs := #[.string (⟨#[]⟩ : ByteArray),.string (⟨#[]⟩ : ByteArray)]) ?_ 0 _ rfl;(with_reducible repeat (first | refine zz ?_ _ | refine zj ?_ | refine zq ?_ _));exact BK101.out⟩,⟨by repeat (first | (with_reducible first | exact HB.out | apply qj | apply qz | apply qk | refine qx ?_ GE101.out) | exact HB.out)⟩⟩
   case round =>
    clear H'
    try clear c2
    try clear c2b0
    try clear c2b1
    try clear p2
    try clear c3
    try clear c3b0
    try clear c3b1
    try clear c4
    try clear hcz5_0
    try clear hcz5_1
    try clear hfz5_0
    try clear hfz5_1
    obtain ⟨x4_1,x6_1,x7_1,x8_1,x102000_1,x102001_1,rfl,rfl,HA,HK1,HO_4,HO_6,BK101,HB⟩ := hrel
    cases gk with
    | zero => exact absurd HA.out (by simp [qzj.l0])
    | succ k1 =>
     have H := HA.out
     clear HA
     simp only [qzj.l0] at H
     by_cases c6 : x8_1 < (a0.size : Int)
     ·rw [if_pos c6] at H
      have c6b0 : decide (x8_1 < (a0.size : Int)) = true := decide_eq_true c6
      clear c6
      by_cases c7 : 0 ≤ x8_1
      ·rw [if_pos c7] at H
       have c7b0 : decide (0 ≤ x8_1) = true := decide_eq_true c7
       clear c7
       have HC9 := qq.mk H
       clear H
       have p8 : 0 ≤ (x8_1 : Int) := of_decide_eq_true (by assumption)
       have q8 : x8_1 < (a0.size : Int) := of_decide_eq_true (by assumption)
       have hx8 := bt_at a0 x8_1
       replace p8 := eq_true p8
       replace q8 := eq_true q8
       go_upto_region 14 with (fail)
       go_cut [29] (fun v29 wc => ∃ (kq : Nat) (x29_8 : Bool),v29 = .bool x29_8 ∧ qq (qzj.j1 kq a0 x4_1 x6_1 x7_1 x8_1 (bt a0 x8_1) x29_8 x102000_1 x102001_1 = some (r1,r2)) ∧ qq (kq ≤ k1) ∧ qq (Kd.R k122 122 wc w.heap.size (fun k_ => k_ ≠ gb101) u4 x4_1) ∧ qq (Kd.R (Kd.int .u8) 5 wc w.heap.size (fun _ => True) u6 x6_1) ∧ qq (wc.heap[gb101]? = some (.cells #[.string x102000_1,.string x102001_1] 122 (0,0))) ∧ qq (Below w.heap.size w wc))
       case first =>
        have H := HC9.out
        clear HC9
        by_cases c10 : x7_1 = true
        ·subst c10
         have H1 : (qzj.j1 k1 a0 x4_1 x6_1 true x8_1 (bt a0 x8_1) false x102000_1 x102001_1) = some (r1,r2) := by rw [if_pos rfl] at H;exact H
         clear H
         have H := H1
         clear H1
         have H' := qq.mk H
         clear H
         go_wp2
         go_meet
         case rel => exact ⟨_,(false),(by first | rfl | (simp;done) | (simp [*];done) | (generalize ByteArray.toList _ = l_;cases l_ <;> first | rfl | (simp;done))),H',⟨by have := HK1.out;first | omega | exact Nat.le_refl _⟩,⟨by (with_reducible repeat (first | apply Kd.jq | apply Kd.zx | apply Kd.jz));exact HO_4.out⟩,⟨by (with_reducible repeat (first | apply Kd.jq | apply Kd.zx | apply Kd.jz));exact HO_6.out⟩,⟨by (with_reducible repeat (first | refine zz ?_ _ | refine zj ?_ | refine zq ?_ _));exact BK101.out⟩,⟨by repeat (first | (with_reducible first | exact HB.out | apply qj | apply qz | apply qk | refine qx ?_ GE101.out) | exact HB.out)⟩⟩
        ·replace c10 := Bool.eq_false_iff.mpr c10
         subst c10
         have H1 : (qzj.j1 k1 a0 x4_1 x6_1 false x8_1 (bt a0 x8_1) ((bt a0 x8_1) == 61) x102000_1 x102001_1) = some (r1,r2) := by rw [if_neg (show ¬ (false = true) by decide)] at H;exact H
         clear H
         have H := H1
         clear H1
         have H' := qq.mk H
         clear H
         go_wp2
         go_meet
         case rel => exact ⟨_,(((bt a0 x8_1) == 61)),(by first | rfl | (simp;done) | (simp [*];done) | (generalize ByteArray.toList _ = l_;cases l_ <;> first | rfl | (simp;done))),H',⟨by have := HK1.out;first | omega | exact Nat.le_refl _⟩,⟨by (with_reducible repeat (first | apply Kd.jq | apply Kd.zx | apply Kd.jz));exact HO_4.out⟩,⟨by (with_reducible repeat (first | apply Kd.jq | apply Kd.zx | apply Kd.jz));exact HO_6.out⟩,⟨by (with_reducible repeat (first | refine zz ?_ _ | refine zj ?_ | refine zq ?_ _));exact BK101.out⟩,⟨by repeat (first | (with_reducible first | exact HB.out | apply qj | apply qz | apply qk | refine qx ?_ GE101.out) | exact HB.out)⟩⟩
       case rest =>
        clear HC9
        try clear c1
        try clear c2
        try clear c2b0
        try clear c2b1
        try clear p2
        try clear c3
        try clear c3b0
        try clear c3b1
        try clear c4
        try clear c6
        try clear c6b0
        try clear c7
        try clear c7b0
        try clear p8
        try clear q8
        try clear hx8
        try clear c10
        try clear hcz5_0
        try clear hcz5_1
        try clear hfz5_0
        try clear hfz5_1
        try clear p2
        try clear p8
        try clear q8
        obtain ⟨kq,x29_8,rfl,HA,HJ8,HO_4,HO_6,BK101,HB⟩ := hcut
        cases kq with
        | zero => exact absurd HA.out (by simp [qzj.j1])
        | succ kj8 =>
         have H := HA.out
         clear HA
         simp only [qzj.j1] at H
         by_cases c11 : x29_8 = true
         ·subst c11
          have H1 : (qzj.l0 kj8 a0 x4_1 ([] : List Int) true (wrap64 (x8_1 + 1)) (strOfNums x6_1) x102001_1) = some (r1,r2) := by rw [if_pos rfl] at H;exact H
          clear H
          have H := H1
          clear H1
          have H' := qq.mk H
          clear H
          have hcv12 := own_string (P := Try.prog) Try.underlying22 Try.underlying5 Try.underlying9 (Kd.own_of_R HO_6.out)
          have hcz13_0 : wc.cell? ⟨gb101,0,none⟩ = some (.string x102000_1) := (qw BK101.out 0).trans rfl
          have hcz13_1 : wc.cell? ⟨gb101,1,none⟩ = some (.string x102001_1) := (qw BK101.out 1).trans rfl
          have hfz13_0 := qv BK101.out 0
          have hfz13_1 := qv BK101.out 1
          go_wp2
          go_roundg kj8
          case measure => have := HK1.out;have := HJ8.out;omega
          case rel => exact ⟨(x4_1),(([] : List Int)),(true),(wrap64 (x8_1 + 1)),(strOfNums x6_1),(x102001_1),(by first | rfl | (simp;done) | (simp [*];done) | (generalize ByteArray.toList _ = l_;cases l_ <;> first | rfl | (simp;done))),(by first | rfl | (simp;done) | (simp [*];done) | (generalize ByteArray.toList _ = l_;cases l_ <;> first | rfl | (simp;done))),H',⟨by have := HK1.out;have := HJ8.out;omega⟩,⟨by (with_reducible repeat (first | apply Kd.jq | apply Kd.zx | apply Kd.jz));exact Kd.R_mono (Kd.R_far (p := ⟨gb101,0,none⟩) (Kd.R_mono HO_4.out (fun k_ hk => (⟨hk,hk⟩ : _ ∧ k_ ≠ gb101))) (fun _ hk => hk.2) (.string (strOfNums x6_1))) (fun _ hk => hk.1)⟩,⟨by first | exact Kd.R_nil _ _ _ _ _ | exact Kd.N_nil _ _ _ _ _ | exact Kd.V_nil _ _ _ _ _ | exact Kd.Q_nil _ _ _ _ _ | exact Kd.S_nil _ _ _ _ _⟩,⟨by (with_reducible repeat (first | refine zz ?_ _ | refine zj ?_ | refine zq ?_ _));refine blk_put (cs := #[.string x102000_1,.string x102001_1]) ?_ 0 _ rfl;(with_reducible repeat (first | refine zz ?_ _ | refine zj ?_ | refine zq ?_ _));exact BK101.out⟩,⟨by repeat (first | (with_reducible first | exact HB.out | apply qj | apply qz | apply qk | refine qx ?_ GE101.out) | exact HB.out)⟩⟩
         ·replace c11 := Bool.eq_false_iff.mpr c11
          subst c11
          have H1 : (if x7_1 = true then (qzj.j2 kj8 a0 x4_1 x6_1 x7_1 x8_1 (bt a0 x8_1) ((bt a0 x8_1) == 44) x102000_1 x102001_1) else (qzj.j2 kj8 a0 x4_1 x6_1 x7_1 x8_1 (bt a0 x8_1) false x102000_1 x102001_1)) = some (r1,r2) := by rw [if_neg (show ¬ (false = true) by decide)] at H;exact H
          clear H
          have H := H1
          clear H1
          have HC14 := qq.mk H
          clear H
          go_upto_region 18 with (fail)
          go_cut [39] (fun v39 wc => ∃ (kq : Nat) (x39_13 : Bool),v39 = .bool x39_13 ∧ qq (qzj.j2 kq a0 x4_1 x6_1 x7_1 x8_1 (bt a0 x8_1) x39_13 x102000_1 x102001_1 = some (r1,r2)) ∧ qq (kq ≤ kj8) ∧ qq (Kd.R k122 122 wc w.heap.size (fun k_ => k_ ≠ gb101) u4 x4_1) ∧ qq (Kd.R (Kd.int .u8) 5 wc w.heap.size (fun _ => True) u6 x6_1) ∧ qq (wc.heap[gb101]? = some (.cells #[.string x102000_1,.string x102001_1] 122 (0,0))) ∧ qq (Below w.heap.size w wc))
          case first =>
           have H := HC14.out
           clear HC14
           by_cases c15 : x7_1 = true
           ·subst c15
            have H1 : (qzj.j2 kj8 a0 x4_1 x6_1 true x8_1 (bt a0 x8_1) ((bt a0 x8_1) == 44) x102000_1 x102001_1) = some (r1,r2) := by rw [if_pos rfl] at H;exact H
            clear H
            have H := H1
            clear H1
            have H' := qq.mk H
            clear H
            go_wp2
            go_meet
            case rel => exact ⟨_,(((bt a0 x8_1) == 44)),(by first | rfl | (simp;done) | (simp [*];done) | (generalize ByteArray.toList _ = l_;cases l_ <;> first | rfl | (simp;done))),H',⟨by have := HK1.out;have := HJ8.out;first | omega | exact Nat.le_refl _⟩,⟨by (with_reducible repeat (first | apply Kd.jq | apply Kd.zx | apply Kd.jz));exact HO_4.out⟩,⟨by (with_reducible repeat (first | apply Kd.jq | apply Kd.zx | apply Kd.jz));exact HO_6.out⟩,⟨by (with_reducible repeat (first | refine zz ?_ _ | refine zj ?_ | refine zq ?_ _));exact BK101.out⟩,⟨by repeat (first | (with_reducible first | exact HB.out | apply qj | apply qz | apply qk | refine qx ?_ GE101.out) | exact HB.out)⟩⟩
           ·replace c15 := Bool.eq_false_iff.mpr c15
            subst c15
            have H1 : (qzj.j2 kj8 a0 x4_1 x6_1 false x8_1 (bt a0 x8_1) false x102000_1 x102001_1) = some (r1,r2) := by rw [if_neg (show ¬ (false = true) by decide)] at H;exact H
            clear H
            have H := H1
            clear H1
            have H' := qq.mk H
            clear H
            go_wp2
            go_meet
            case rel => exact ⟨_,(false),(by first | rfl | (simp;done) | (simp [*];done) | (generalize ByteArray.toList _ = l_;cases l_ <;> first | rfl | (simp;done))),H',⟨by have := HK1.out;have := HJ8.out;first | omega | exact Nat.le_refl _⟩,⟨by (with_reducible repeat (first | apply Kd.jq | apply Kd.zx | apply Kd.jz));exact HO_4.out⟩,⟨by (with_reducible repeat (first | apply Kd.jq | apply Kd.zx | apply Kd.jz));exact HO_6.out⟩,⟨by (with_reducible repeat (first | refine zz ?_ _ | refine zj ?_ | refine zq ?_ _));exact BK101.out⟩,⟨by repeat (first | (with_reducible first | exact HB.out | apply qj | apply qz | apply qk | refine qx ?_ GE101.out) | exact HB.out)⟩⟩
          case rest =>
           clear HC14
           try clear c1
           try clear hcv1
           try clear c2
           try clear c2b0
           try clear c2b1
           try clear p2
           try clear c3
           try clear c3b0
           try clear c3b1
           try clear c4
           try clear c6
           try clear c6b0
           try clear p6
           try clear c7
           try clear c7b0
           try clear p8
           try clear q8
           try clear hx8
           try clear c10
           try clear c11
           try clear hcv12
           try clear c15
           try clear hcz13_0
           try clear hcz13_1
           try clear hcz5_0
           try clear hcz5_1
           try clear hfz13_0
           try clear hfz13_1
           try clear hfz5_0
           try clear hfz5_1
           try clear p2
           try clear p8
           try clear q8
           obtain ⟨kq,x39_13,rfl,HA,HJ13,HO_4,HO_6,BK101,HB⟩ := hcut
           cases kq with
           | zero => exact absurd HA.out (by simp [qzj.j2])
           | succ kj13 =>
            have H := HA.out
            clear HA
            simp only [qzj.j2] at H
            by_cases c16 : x39_13 = true
            ·subst c16
             have H1 : (if x4_1.length < 4398046511104 then (qzj.l0 kj13 a0 (x4_1 ++ [(⟨x102000_1,strOfNums x6_1⟩ : S122)]) ([] : List Int) false (wrap64 (x8_1 + 1)) x102000_1 (strOfNums x6_1)) else (none)) = some (r1,r2) := by rw [if_pos rfl] at H;exact H
             clear H
             have H := H1
             clear H1
             by_cases c17 : x4_1.length < 4398046511104
             ·rw [if_pos c17] at H
              have LMc17 := qq.mk c17
              clear c17
              obtain ⟨y106,hy106⟩ : ∃ y_ : List (S122),y_ = (x4_1 ++ [(⟨x102000_1,strOfNums x6_1⟩ : S122)]) := ⟨_,rfl⟩
              replace H : (qzj.l0 kj13 a0 y106 ([] : List Int) false (wrap64 (x8_1 + 1)) x102000_1 (strOfNums x6_1)) = some (r1,r2) := by first | (rw [hy106];with_reducible exact H) | (have H2_ := (Option.bind_some _ _).symm.trans H;rw [hy106];with_reducible exact H2_) | (have H2_ := (Option.bind_some _ _).symm.trans H;with_reducible exact H2_) | with_reducible exact H | (rw [hy106];exact H) | exact H
              have Ny106 := qq.mk hy106
              clear hy106
              have H' := qq.mk H
              clear H
              have hcv18 := own_string (P := Try.prog) Try.underlying22 Try.underlying5 Try.underlying9 (Kd.own_of_R HO_6.out)
              have hcz19_0 : wc.cell? ⟨gb101,0,none⟩ = some (.string x102000_1) := (qw BK101.out 0).trans rfl
              have hcz19_1 : wc.cell? ⟨gb101,1,none⟩ = some (.string x102001_1) := (qw BK101.out 1).trans rfl
              have hfz19_0 := qv BK101.out 0
              have hfz19_1 := qv BK101.out 1
              go_wp2_with (first | ((with_reducible refine gate_builtin (b := .append) (xs := #[.tmp 48,.tmp 50]) rfl ?_);at_builtin;refine Kd.R_append k122 (w0 := w) w.heap.size rfl (.tmp 48) (.tmp 50) 62 122 (.agg #[(.string ⟨#[]⟩),(.string ⟨#[]⟩)]) 32 rfl Try.underlying62 info122 rfl (by decide) (by omega) u4 x4_1 (⟨x102000_1,strOfNums x6_1⟩ : S122) [.string x102000_1,.string (strOfNums x6_1)] (fun k_ => k_ ≠ gb101) (fun _ => False) rfl (by first | (go_simp;done) | (go_simp;rfl)) ?aP (fun _ hk => hk.elim) ?aF ?aO ?aB ?aS ?aL ?_;(case aP => exact k122_mkM _ _ _ (⟨x102000_1,strOfNums x6_1⟩ : S122));(case aB => exact (by repeat (first | (with_reducible first | exact HB.out | apply qj | apply qz | apply qk | refine qx ?_ GE101.out) | exact HB.out)));(case aF => exact (fun k_ hk => Kd.freshB (g := gb101) (o := .cells #[.string x102000_1,.string (strOfNums x6_1)] 122 (0,0)) (by (with_reducible repeat (first | refine zz ?_ _ | refine zj ?_ | refine zq ?_ _));refine blk_put (cs := #[.string x102000_1,.string x102001_1]) ?_ 1 _ rfl;(with_reducible repeat (first | refine zz ?_ _ | refine zj ?_ | refine zq ?_ _));exact BK101.out) k_ hk));(case aO => exact (by (with_reducible repeat (first | apply Kd.jq | apply Kd.zx | apply Kd.jz));exact Kd.R_mono (Kd.R_far (p := ⟨gb101,1,none⟩) (Kd.R_mono HO_4.out (fun k_ hk => (⟨hk,hk⟩ : _ ∧ k_ ≠ gb101))) (fun _ hk => hk.2) (.string (strOfNums x6_1))) (fun _ hk => hk.1)));(case aS => exact (zw (by repeat (first | (with_reducible first | exact HB.out | apply qj | apply qz | apply qk | refine qx ?_ GE101.out) | exact HB.out))));(case aL => have := LMc17.out;omega);intro v107 w20 ho hb hg hat;rw [← Ny106.out] at ho;have n0_ := qq.mk (Kd.R_over' (by (with_reducible repeat (first | apply Kd.jq | apply Kd.zx | apply Kd.jz));exact (Kd.R_mono (Kd.R_far (p := ⟨gb101,1,none⟩) (Kd.R_types HO_6.out BK101.out (by decide)) (fun _ hk => hk.2) (.string (strOfNums x6_1))) (fun _ h_ => h_.1))) (Kd.R_typed (by (with_reducible repeat (first | apply Kd.jq | apply Kd.zx | apply Kd.jz));exact (Kd.R_mono (Kd.R_far (p := ⟨gb101,1,none⟩) (Kd.R_mono HO_4.out (fun k_ hk => (⟨hk,hk⟩ : _ ∧ k_ ≠ gb101))) (fun _ hk => hk.2) (.string (strOfNums x6_1))) (fun _ h_ => h_.1)))) (by decide) hg);have n1_ := qq.mk (blk_grown (g := gb101) (o := .cells #[.string x102000_1,.string (strOfNums x6_1)] 122 (0,0)) (by (with_reducible repeat (first | refine zz ?_ _ | refine zj ?_ | refine zq ?_ _));refine blk_put (cs := #[.string x102000_1,.string x102001_1]) ?_ 1 _ rfl;(with_reducible repeat (first | refine zz ?_ _ | refine zj ?_ | refine zq ?_ _));exact BK101.out) hg (Kd.R_away HO_4.out (fun _ hk => hk)));have n2_ := qq.mk (hb);have n3_ := qq.mk (ho);clear HO_6;clear BK101;clear HB;clear HO_4;have HO_6 := n0_;have BK101 := n1_;have HB := n2_;have HO108 := n3_;clear n0_ n1_ n2_ n3_;clear ho hb hg hat))
              go_roundg kj13
              case measure => have := HK1.out;have := HJ8.out;have := HJ13.out;omega
              case rel => exact ⟨(y106),(([] : List Int)),(false),(wrap64 (x8_1 + 1)),(x102000_1),(strOfNums x6_1),(by first | rfl | (simp;done) | (simp [*];done) | (generalize ByteArray.toList _ = l_;cases l_ <;> first | rfl | (simp;done))),(by first | rfl | (simp;done) | (simp [*];done) | (generalize ByteArray.toList _ = l_;cases l_ <;> first | rfl | (simp;done))),H',⟨by have := HK1.out;have := HJ8.out;have := HJ13.out;omega⟩,⟨by (with_reducible repeat (first | apply Kd.jq | apply Kd.zx | apply Kd.jz));exact HO108.out⟩,⟨by first | exact Kd.R_nil _ _ _ _ _ | exact Kd.N_nil _ _ _ _ _ | exact Kd.V_nil _ _ _ _ _ | exact Kd.Q_nil _ _ _ _ _ | exact Kd.S_nil _ _ _ _ _⟩,⟨by (with_reducible repeat (first | refine zz ?_ _ | refine zj ?_ | refine zq ?_ _));exact BK101.out⟩,⟨by repeat (first | (with_reducible first | exact HB.out | apply qj | apply qz | apply qk | refine qx ?_ GE101.out) | exact HB.out)⟩⟩
             ·rw [if_neg c17] at H
              exact absurd H (by simp)
            ·replace c16 := Bool.eq_false_iff.mpr c16
             subst c16
             have H1 : (if x7_1 = true then (qzj.j3 kj13 a0 x4_1 x6_1 x7_1 x8_1 (bt a0 x8_1) ((bt a0 x8_1) == 92) x102000_1 x102001_1) else (qzj.j3 kj13 a0 x4_1 x6_1 x7_1 x8_1 (bt a0 x8_1) false x102000_1 x102001_1)) = some (r1,r2) := by rw [if_neg (show ¬ (false = true) by decide)] at H;exact H
             clear H
             have H := H1
             clear H1
             have HC21 := qq.mk H
             clear H
             go_upto_region 23 with (fail)
             go_cut [52] (fun v52 wc => ∃ (kq : Nat) (x52_20 : Bool),v52 = .bool x52_20 ∧ qq (qzj.j3 kq a0 x4_1 x6_1 x7_1 x8_1 (bt a0 x8_1) x52_20 x102000_1 x102001_1 = some (r1,r2)) ∧ qq (kq ≤ kj13) ∧ qq (Kd.R k122 122 wc w.heap.size (fun k_ => k_ ≠ gb101) u4 x4_1) ∧ qq (Kd.R (Kd.int .u8) 5 wc w.heap.size (fun _ => True) u6 x6_1) ∧ qq (wc.heap[gb101]? = some (.cells #[.string x102000_1,.string x102001_1] 122 (0,0))) ∧ qq (Below w.heap.size w wc))
             case first =>
              have H := HC21.out
              clear HC21
              by_cases c22 : x7_1 = true
              ·subst c22
               have H1 : (qzj.j3 kj13 a0 x4_1 x6_1 true x8_1 (bt a0 x8_1) ((bt a0 x8_1) == 92) x102000_1 x102001_1) = some (r1,r2) := by rw [if_pos rfl] at H;exact H
               clear H
               have H := H1
               clear H1
               have H' := qq.mk H
               clear H
               go_wp2
               go_meet
               case rel => exact ⟨_,(((bt a0 x8_1) == 92)),(by first | rfl | (simp;done) | (simp [*];done) | (generalize ByteArray.toList _ = l_;cases l_ <;> first | rfl | (simp;done))),H',⟨by have := HK1.out;have := HJ8.out;have := HJ13.out;first | omega | exact Nat.le_refl _⟩,⟨by (with_reducible repeat (first | apply Kd.jq | apply Kd.zx | apply Kd.jz));exact HO_4.out⟩,⟨by (with_reducible repeat (first | apply Kd.jq | apply Kd.zx | apply Kd.jz));exact HO_6.out⟩,⟨by (with_reducible repeat (first | refine zz ?_ _ | refine zj ?_ | refine zq ?_ _));exact BK101.out⟩,⟨by repeat (first | (with_reducible first | exact HB.out | apply qj | apply qz | apply qk | refine qx ?_ GE101.out) | exact HB.out)⟩⟩
              ·replace c22 := Bool.eq_false_iff.mpr c22
               subst c22
               have H1 : (qzj.j3 kj13 a0 x4_1 x6_1 false x8_1 (bt a0 x8_1) false x102000_1 x102001_1) = some (r1,r2) := by rw [if_neg (show ¬ (false = true) by decide)] at H;exact H
               clear H
               have H := H1
               clear H1
               have H' := qq.mk H
               clear H
               go_wp2
               go_meet
               case rel => exact ⟨_,(false),(by first | rfl | (simp;done) | (simp [*];done) | (generalize ByteArray.toList _ = l_;cases l_ <;> first | rfl | (simp;done))),H',⟨by have := HK1.out;have := HJ8.out;have := HJ13.out;first | omega | exact Nat.le_refl _⟩,⟨by (with_reducible repeat (first | apply Kd.jq | apply Kd.zx | apply Kd.jz));exact HO_4.out⟩,⟨by (with_reducible repeat (first | apply Kd.jq | apply Kd.zx | apply Kd.jz));exact HO_6.out⟩,⟨by (with_reducible repeat (first | refine zz ?_ _ | refine zj ?_ | refine zq ?_ _));exact BK101.out⟩,⟨by repeat (first | (with_reducible first | exact HB.out | apply qj | apply qz | apply qk | refine qx ?_ GE101.out) | exact HB.out)⟩⟩
             case rest =>
              clear HC21
              try clear c1
              try clear hcv1
              try clear c2
              try clear c2b0
              try clear c2b1
              try clear p2
              try clear c3
              try clear c3b0
              try clear c3b1
              try clear c4
              try clear c6
              try clear c6b0
              try clear p6
              try clear c7
              try clear c7b0
              try clear p8
              try clear q8
              try clear hx8
              try clear c10
              try clear c11
              try clear hcv12
              try clear c15
              try clear c16
              try clear c17
              try clear hcv18
              try clear c22
              try clear hcz13_0
              try clear hcz13_1
              try clear hcz19_0
              try clear hcz19_1
              try clear hcz5_0
              try clear hcz5_1
              try clear hfz13_0
              try clear hfz13_1
              try clear hfz19_0
              try clear hfz19_1
              try clear hfz5_0
              try clear hfz5_1
              try clear p2
              try clear p6
              try clear p8
              try clear q8
              obtain ⟨kq,x52_20,rfl,HA,HJ20,HO_4,HO_6,BK101,HB⟩ := hcut
              cases kq with
              | zero => exact absurd HA.out (by simp [qzj.j3])
              | succ kj20 =>
               have H := HA.out
               clear HA
               simp only [qzj.j3] at H
               by_cases c23 : x52_20 = true
               ·subst c23
                have H1 : (if (wrap64 (x8_1 + 1)) = (a0.size : Int) then (some (([] : List (S122)),false)) else (if 0 ≤ (wrap64 (x8_1 + 1)) then (if (wrap64 (x8_1 + 1)) < (a0.size : Int) then (if x6_1.length < 140737488355328 then (qzj.l0 kj20 a0 x4_1 (x6_1 ++ [bt a0 (wrap64 (x8_1 + 1))]) x7_1 (wrap64 ((wrap64 (x8_1 + 1)) + 1)) x102000_1 x102001_1) else (none)) else (none)) else (none))) = some (r1,r2) := by rw [if_pos rfl] at H;exact H
                clear H
                have H := H1
                clear H1
                by_cases c24 : (wrap64 (x8_1 + 1)) = (a0.size : Int)
                ·rw [if_pos c24] at H
                 have c24b0 : ((wrap64 (x8_1 + 1)) == (a0.size : Int)) = true := beq_iff_eq.mpr c24
                 have c24b1 : ((wrap64 (x8_1 + 1)) != (a0.size : Int)) = false := bne_eq_false_iff_eq.mpr c24
                 clear c24
                 simp only [Option.some.injEq,Prod.mk.injEq] at H
                 obtain ⟨rfl,rfl⟩ := H
                 go_wp2
                 go_ret2
                 exact ⟨_,by first | rfl | (simp [*,jx,jw] <;> rfl),by first | exact Kd.R_nil _ _ _ _ _ | exact Kd.N_nil _ _ _ _ _ | exact Kd.V_nil _ _ _ _ _ | exact Kd.Q_nil _ _ _ _ _ | exact Kd.S_nil _ _ _ _ _,by repeat (first | (with_reducible first | exact HB.out | apply qj | apply qz | apply qk | refine qx ?_ GE101.out) | exact HB.out)⟩
                ·rw [if_neg c24] at H
                 have c24b0 : ((wrap64 (x8_1 + 1)) == (a0.size : Int)) = false := beq_eq_false_iff_ne.mpr c24
                 have c24b1 : ((wrap64 (x8_1 + 1)) != (a0.size : Int)) = true := bne_iff_ne.mpr c24
                 obtain ⟨ji25,hji25⟩ : ∃ j_ : Int,(wrap64 (x8_1 + 1)) = j_ := ⟨_,rfl⟩
                 replace H : (if 0 ≤ (ji25) then (if (ji25) < (a0.size : Int) then (if x6_1.length < 140737488355328 then (qzj.l0 kj20 a0 x4_1 (x6_1 ++ [bt a0 (ji25)]) x7_1 (wrap64 ((ji25) + 1)) x102000_1 x102001_1) else (none)) else (none)) else (none)) = some (r1,r2) := by first | (rw [hji25] at H;exact H) | (simp only [hji25] at H ⊢;exact H)
                 (try rw [hji25] at c24b0)
                 (try rw [hji25] at c24b1)
                 have hji25w : (IntKind.i64.wrap (x8_1 + 1)) = ji25 := (i64_w _).trans hji25
                 by_cases c26 : 0 ≤ (ji25)
                 ·rw [if_pos c26] at H
                  have c26b0 : decide (0 ≤ (ji25)) = true := decide_eq_true c26
                  clear c26
                  by_cases c27 : (ji25) < (a0.size : Int)
                  ·rw [if_pos c27] at H
                   have c27b0 : decide ((ji25) < (a0.size : Int)) = true := decide_eq_true c27
                   clear c27
                   by_cases c29 : x6_1.length < 140737488355328
                   ·rw [if_pos c29] at H
                    have LMc29 := qq.mk c29
                    clear c29
                    obtain ⟨y109,hy109⟩ : ∃ y_ : List Int,y_ = (x6_1 ++ [bt a0 (ji25)]) := ⟨_,rfl⟩
                    replace H : (qzj.l0 kj20 a0 x4_1 y109 x7_1 (wrap64 ((ji25) + 1)) x102000_1 x102001_1) = some (r1,r2) := by first | (rw [hy109];with_reducible exact H) | (have H2_ := (Option.bind_some _ _).symm.trans H;rw [hy109];with_reducible exact H2_) | (have H2_ := (Option.bind_some _ _).symm.trans H;with_reducible exact H2_) | with_reducible exact H | (rw [hy109];exact H) | exact H
                    have Ny109 := qq.mk hy109
                    clear hy109
                    have H' := qq.mk H
                    clear H
                    have p28 : 0 ≤ ((ji25) : Int) := of_decide_eq_true (by assumption)
                    have q28 : (ji25) < (a0.size : Int) := of_decide_eq_true (by assumption)
                    have hx28 := bt_at a0 (ji25)
                    replace p28 := eq_true p28
                    replace q28 := eq_true q28
                    go_wp2_with (first | ((with_reducible refine gate_builtin (b := .append) (xs := #[.tmp 64,.tmp 68]) rfl ?_);at_builtin;refine Kd.R_append (Kd.int .u8) (w0 := w) w.heap.size rfl (.tmp 64) (.tmp 68) 22 5 (.int .u8 0) 1 rfl Try.underlying22 info5 rfl (by decide) (by omega) u6 x6_1 (bt a0 (ji25)) [.int .u8 (bt a0 (ji25))] (fun _ => True) (fun _ => False) rfl rfl ?aP (fun _ hk => hk.elim) ?aF ?aO ?aB ?aS ?aL ?_;(case aP => exact rfl);(case aB => exact (by repeat (first | (with_reducible first | exact HB.out | apply qj | apply qz | apply qk | refine qx ?_ GE101.out) | exact HB.out)));(case aF => exact (fun _ _ => trivial));(case aO => exact (by (with_reducible repeat (first | apply Kd.jq | apply Kd.zx | apply Kd.jz));exact HO_6.out));(case aS => exact (zw (by repeat (first | (with_reducible first | exact HB.out | apply qj | apply qz | apply qk | refine qx ?_ GE101.out) | exact HB.out))));(case aL => have := LMc29.out;omega);intro v110 w30 ho hb hg hat;rw [← Ny109.out] at ho;have n0_ := qq.mk (Kd.R_over' (by (with_reducible repeat (first | apply Kd.jq | apply Kd.zx | apply Kd.jz));exact HO_4.out) (Kd.R_typed (by (with_reducible repeat (first | apply Kd.jq | apply Kd.zx | apply Kd.jz));exact HO_6.out)) (by decide) hg);have n1_ := qq.mk (blk_grown (g := gb101) (o := .cells #[.string x102000_1,.string x102001_1] 122 (0,0)) (by (with_reducible repeat (first | refine zz ?_ _ | refine zj ?_ | refine zq ?_ _));exact BK101.out) hg (Kd.R_ne HO_6.out BK101.out (by decide)));have n2_ := qq.mk (hb);have n3_ := qq.mk (ho);clear HO_4;clear BK101;clear HB;clear HO_6;have HO_4 := n0_;have BK101 := n1_;have HB := n2_;have HO111 := n3_;clear n0_ n1_ n2_ n3_;clear ho hb hg hat))
                    go_roundg kj20
                    case measure => have := HK1.out;have := HJ8.out;have := HJ13.out;have := HJ20.out;omega
                    case rel => exact ⟨(x4_1),(y109),(x7_1),(wrap64 ((ji25) + 1)),(x102000_1),(x102001_1),(by first | rfl | (simp;done) | (simp [*];done) | (generalize ByteArray.toList _ = l_;cases l_ <;> first | rfl | (simp;done))),(by first | rfl | (simp;done) | (simp only [← hji25] <;> (first | rfl | simp)) | (simp [*];done)),H',⟨by have := HK1.out;have := HJ8.out;have := HJ13.out;have := HJ20.out;omega⟩,⟨by (with_reducible repeat (first | apply Kd.jq | apply Kd.zx | apply Kd.jz));exact HO_4.out⟩,⟨by (with_reducible repeat (first | apply Kd.jq | apply Kd.zx | apply Kd.jz));exact HO111.out⟩,⟨by (with_reducible repeat (first | refine zz ?_ _ | refine zj ?_ | refine zq ?_ _));exact BK101.out⟩,⟨by repeat (first | (with_reducible first | exact HB.out | apply qj | apply qz | apply qk | refine qx ?_ GE101.out) | exact HB.out)⟩⟩
                   ·rw [if_neg c29] at H
                    exact absurd H (by simp)
                  ·rw [if_neg c27] at H
                   exact absurd H (by simp)
                 ·rw [if_neg c26] at H
                  exact absurd H (by simp)
               ·replace c23 := Bool.eq_false_iff.mpr c23
                subst c23
                have H1 : (if x6_1.length < 140737488355328 then (qzj.l0 kj20 a0 x4_1 (x6_1 ++ [(bt a0 x8_1)]) x7_1 (wrap64 (x8_1 + 1)) x102000_1 x102001_1) else (none)) = some (r1,r2) := by rw [if_neg (show ¬ (false = true) by decide)] at H;exact H
                clear H
                have H := H1
                clear H1
                by_cases c31 : x6_1.length < 140737488355328
                ·rw [if_pos c31] at H
                 have LMc31 := qq.mk c31
                 clear c31
                 obtain ⟨y112,hy112⟩ : ∃ y_ : List Int,y_ = (x6_1 ++ [(bt a0 x8_1)]) := ⟨_,rfl⟩
                 replace H : (qzj.l0 kj20 a0 x4_1 y112 x7_1 (wrap64 (x8_1 + 1)) x102000_1 x102001_1) = some (r1,r2) := by first | (rw [hy112];with_reducible exact H) | (have H2_ := (Option.bind_some _ _).symm.trans H;rw [hy112];with_reducible exact H2_) | (have H2_ := (Option.bind_some _ _).symm.trans H;with_reducible exact H2_) | with_reducible exact H | (rw [hy112];exact H) | exact H
                 have Ny112 := qq.mk hy112
                 clear hy112
                 have H' := qq.mk H
                 clear H
                 go_wp2_with (first | ((with_reducible refine gate_builtin (b := .append) (xs := #[.tmp 25,.tmp 27]) rfl ?_);at_builtin;refine Kd.R_append (Kd.int .u8) (w0 := w) w.heap.size rfl (.tmp 25) (.tmp 27) 22 5 (.int .u8 0) 1 rfl Try.underlying22 info5 rfl (by decide) (by omega) u6 x6_1 (bt a0 x8_1) [.int .u8 (bt a0 x8_1)] (fun _ => True) (fun _ => False) rfl rfl ?aP (fun _ hk => hk.elim) ?aF ?aO ?aB ?aS ?aL ?_;(case aP => exact rfl);(case aB => exact (by repeat (first | (with_reducible first | exact HB.out | apply qj | apply qz | apply qk | refine qx ?_ GE101.out) | exact HB.out)));(case aF => exact (fun _ _ => trivial));(case aO => exact (by (with_reducible repeat (first | apply Kd.jq | apply Kd.zx | apply Kd.jz));exact HO_6.out));(case aS => exact (zw (by repeat (first | (with_reducible first | exact HB.out | apply qj | apply qz | apply qk | refine qx ?_ GE101.out) | exact HB.out))));(case aL => have := LMc31.out;omega);intro v113 w32 ho hb hg hat;rw [← Ny112.out] at ho;have n0_ := qq.mk (Kd.R_over' (by (with_reducible repeat (first | apply Kd.jq | apply Kd.zx | apply Kd.jz));exact HO_4.out) (Kd.R_typed (by (with_reducible repeat (first | apply Kd.jq | apply Kd.zx | apply Kd.jz));exact HO_6.out)) (by decide) hg);have n1_ := qq.mk (blk_grown (g := gb101) (o := .cells #[.string x102000_1,.string x102001_1] 122 (0,0)) (by (with_reducible repeat (first | refine zz ?_ _ | refine zj ?_ | refine zq ?_ _));exact BK101.out) hg (Kd.R_ne HO_6.out BK101.out (by decide)));have n2_ := qq.mk (hb);have n3_ := qq.mk (ho);clear HO_4;clear BK101;clear HB;clear HO_6;have HO_4 := n0_;have BK101 := n1_;have HB := n2_;have HO114 := n3_;clear n0_ n1_ n2_ n3_;clear ho hb hg hat))
                 go_roundg kj20
                 case measure => have := HK1.out;have := HJ8.out;have := HJ13.out;have := HJ20.out;omega
                 case rel => exact ⟨(x4_1),(y112),(x7_1),(wrap64 (x8_1 + 1)),(x102000_1),(x102001_1),(by first | rfl | (simp;done) | (simp [*];done) | (generalize ByteArray.toList _ = l_;cases l_ <;> first | rfl | (simp;done))),(by first | rfl | (simp;done) | (simp [*];done) | (generalize ByteArray.toList _ = l_;cases l_ <;> first | rfl | (simp;done))),H',⟨by have := HK1.out;have := HJ8.out;have := HJ13.out;have := HJ20.out;omega⟩,⟨by (with_reducible repeat (first | apply Kd.jq | apply Kd.zx | apply Kd.jz));exact HO_4.out⟩,⟨by (with_reducible repeat (first | apply Kd.jq | apply Kd.zx | apply Kd.jz));exact HO114.out⟩,⟨by (with_reducible repeat (first | refine zz ?_ _ | refine zj ?_ | refine zq ?_ _));exact BK101.out⟩,⟨by repeat (first | (with_reducible first | exact HB.out | apply qj | apply qz | apply qk | refine qx ?_ GE101.out) | exact HB.out)⟩⟩
                ·rw [if_neg c31] at H
                 exact absurd H (by simp)
      ·rw [if_neg c7] at H
       exact absurd H (by simp)
     ·rw [if_neg c6] at H
      have c6b0 : decide (x8_1 < (a0.size : Int)) = false := decide_eq_false c6
      clear c6
      by_cases c33 : x4_1.length < 4398046511104
      ·rw [if_pos c33] at H
       have LMc33 := qq.mk c33
       clear c33
       obtain ⟨y102,hy102⟩ : ∃ y_ : List (S122),y_ = (x4_1 ++ [(⟨x102000_1,strOfNums x6_1⟩ : S122)]) := ⟨_,rfl⟩
       replace H : (if x7_1 = true then ((qzz.f k1 y102).bind fun t105 => (if t105.toList = a0.toList then (some (y102,true)) else (some (([] : List (S122)),false)))) else (some (([] : List (S122)),false))) = some (r1,r2) := by first | (rw [hy102];with_reducible exact H) | (have H2_ := (Option.bind_some _ _).symm.trans H;rw [hy102];with_reducible exact H2_) | (have H2_ := (Option.bind_some _ _).symm.trans H;with_reducible exact H2_) | with_reducible exact H | (rw [hy102];exact H) | exact H
       have Ny102 := qq.mk hy102
       clear hy102
       by_cases c34 : x7_1 = true
       ·subst c34
        have H1 : ((qzz.f k1 y102).bind fun t105 => (if t105.toList = a0.toList then (some (y102,true)) else (some (([] : List (S122)),false)))) = some (r1,r2) := by rw [if_pos rfl] at H;exact H
        clear H
        have H := H1
        clear H1
        replace H := Option.bind_eq_some_iff.mp H
        obtain ⟨t105,A350,H⟩ := H
        replace H : (if t105.toList = a0.toList then (some (y102,true)) else (some (([] : List (S122)),false))) = some (r1,r2) := H
        have A35 := qq.mk A350
        clear A350
        by_cases c36 : t105.toList = a0.toList
        ·rw [if_pos c36] at H
         have c36b0 : (t105.toList == a0.toList) = true := beq_iff_eq.mpr c36
         have c36b1 : (t105.toList != a0.toList) = false := bne_eq_false_iff_eq.mpr c36
         clear c36
         simp only [Option.some.injEq,Prod.mk.injEq] at H
         obtain ⟨rfl,rfl⟩ := H
         have hcv37 := own_string (P := Try.prog) Try.underlying22 Try.underlying5 Try.underlying9 (Kd.own_of_R HO_6.out)
         have hcz38_0 : wr.cell? ⟨gb101,0,none⟩ = some (.string x102000_1) := (qw BK101.out 0).trans rfl
         have hcz38_1 : wr.cell? ⟨gb101,1,none⟩ = some (.string x102001_1) := (qw BK101.out 1).trans rfl
         have hfz38_0 := qv BK101.out 0
         have hfz38_1 := qv BK101.out 1
         go_wp2_with (first | ((with_reducible refine gate_builtin (b := .append) (xs := #[.tmp 73,.tmp 75]) rfl ?_);at_builtin;refine Kd.R_append k122 (w0 := w) w.heap.size rfl (.tmp 73) (.tmp 75) 62 122 (.agg #[(.string ⟨#[]⟩),(.string ⟨#[]⟩)]) 32 rfl Try.underlying62 info122 rfl (by decide) (by omega) u4 x4_1 (⟨x102000_1,strOfNums x6_1⟩ : S122) [.string x102000_1,.string (strOfNums x6_1)] (fun k_ => k_ ≠ gb101) (fun _ => False) rfl (by first | (go_simp;done) | (go_simp;rfl)) ?aP (fun _ hk => hk.elim) ?aF ?aO ?aB ?aS ?aL ?_;(case aP => exact k122_mkM _ _ _ (⟨x102000_1,strOfNums x6_1⟩ : S122));(case aB => exact (by repeat (first | (with_reducible first | exact HB.out | apply qj | apply qz | apply qk | refine qx ?_ GE101.out) | exact HB.out)));(case aF => exact (fun k_ hk => Kd.freshB (g := gb101) (o := .cells #[.string x102000_1,.string (strOfNums x6_1)] 122 (0,0)) (by (with_reducible repeat (first | refine zz ?_ _ | refine zj ?_ | refine zq ?_ _));refine blk_put (cs := #[.string x102000_1,.string x102001_1]) ?_ 1 _ rfl;(with_reducible repeat (first | refine zz ?_ _ | refine zj ?_ | refine zq ?_ _));exact BK101.out) k_ hk));(case aO => exact (by (with_reducible repeat (first | apply Kd.jq | apply Kd.zx | apply Kd.jz));exact Kd.R_mono (Kd.R_far (p := ⟨gb101,1,none⟩) (Kd.R_mono HO_4.out (fun k_ hk => (⟨hk,hk⟩ : _ ∧ k_ ≠ gb101))) (fun _ hk => hk.2) (.string (strOfNums x6_1))) (fun _ hk => hk.1)));(case aS => exact (zw (by repeat (first | (with_reducible first | exact HB.out | apply qj | apply qz | apply qk | refine qx ?_ GE101.out) | exact HB.out))));(case aL => have := LMc33.out;omega);intro v103 w39 ho hb hg hat;rw [← Ny102.out] at ho;have n0_ := qq.mk (Kd.R_over' (by (with_reducible repeat (first | apply Kd.jq | apply Kd.zx | apply Kd.jz));exact (Kd.R_mono (Kd.R_far (p := ⟨gb101,1,none⟩) (Kd.R_types HO_6.out BK101.out (by decide)) (fun _ hk => hk.2) (.string (strOfNums x6_1))) (fun _ h_ => h_.1))) (Kd.R_typed (by (with_reducible repeat (first | apply Kd.jq | apply Kd.zx | apply Kd.jz));exact (Kd.R_mono (Kd.R_far (p := ⟨gb101,1,none⟩) (Kd.R_mono HO_4.out (fun k_ hk => (⟨hk,hk⟩ : _ ∧ k_ ≠ gb101))) (fun _ hk => hk.2) (.string (strOfNums x6_1))) (fun _ h_ => h_.1)))) (by decide) hg);have n1_ := qq.mk (blk_grown (g := gb101) (o := .cells #[.string x102000_1,.string (strOfNums x6_1)] 122 (0,0)) (by (with_reducible repeat (first | refine zz ?_ _ | refine zj ?_ | refine zq ?_ _));refine blk_put (cs := #[.string x102000_1,.string x102001_1]) ?_ 1 _ rfl;(with_reducible repeat (first | refine zz ?_ _ | refine zj ?_ | refine zq ?_ _));exact BK101.out) hg (Kd.R_away HO_4.out (fun _ hk => hk)));have n2_ := qq.mk (hb);have n3_ := qq.mk (ho);clear HO_6;clear BK101;clear HB;clear HO_4;have HO_6 := n0_;have BK101 := n1_;have HB := n2_;have HO104 := n3_;clear n0_ n1_ n2_ n3_;clear ho hb hg hat;obtain ⟨Ao40,co40,eo40⟩ := Kd.R_slice HO104.out;subst eo40) | (go_at_call 43;(with_reducible refine (qzz.calls k1 _ _ y102 t105 _ ?side1 ?side2 A35.out).mono ?_);(case side1 => repeat (first | exact (Kd.R_reads' HO104.out).2.2 | (with_reducible refine Kd.C_alloc ?_ _) | (with_reducible refine Kd.C_drewN ?_ _) | (with_reducible refine Kd.C_drew ?_)));(case side2 => exact (Kd.R_reads' HO104.out).2.1);rintro e w41 ⟨rfl,hb⟩;have n0_ := qq.mk (Kd.R_below (by (with_reducible repeat (first | apply Kd.jq | apply Kd.zx | apply Kd.jz));exact HO_6.out) hb);have n1_ := qq.mk (Kd.R_below (by (with_reducible repeat (first | apply Kd.jq | apply Kd.zx | apply Kd.jz));exact HO104.out) hb);have n2_ := qq.mk (kw (g := gb101) (o := .cells #[.string x102000_1,.string (strOfNums x6_1)] 122 (0,0)) (by (with_reducible repeat (first | refine zz ?_ _ | refine zj ?_ | refine zq ?_ _));exact BK101.out) hb);have n3_ := qq.mk (zv (by repeat (first | (with_reducible first | exact HB.out | apply qj | apply qz | apply qk | refine qx ?_ GE101.out) | exact HB.out)) hb);clear HO_6;clear HO104;clear BK101;clear HB;have HO_6 := n0_;have HO104 := n1_;have BK101 := n2_;have HB := n3_;clear n0_ n1_ n2_ n3_;(try clear hb);(try clear hb2);(try clear hk);(try clear hi)))
         go_ret2
         exact ⟨_,by first | rfl | (simp [*,jx,jw] <;> rfl),by (with_reducible repeat (first | apply Kd.jq | apply Kd.zx | apply Kd.jz));exact Kd.R_mono HO104.out (fun _ hk => trivial),by repeat (first | (with_reducible first | exact HB.out | apply qj | apply qz | apply qk | refine qx ?_ GE101.out) | exact HB.out)⟩
        ·rw [if_neg c36] at H
         have c36b0 : (t105.toList == a0.toList) = false := beq_eq_false_iff_ne.mpr c36
         have c36b1 : (t105.toList != a0.toList) = true := bne_iff_ne.mpr c36
         simp only [Option.some.injEq,Prod.mk.injEq] at H
         obtain ⟨rfl,rfl⟩ := H
         have hcv42 := own_string (P := Try.prog) Try.underlying22 Try.underlying5 Try.underlying9 (Kd.own_of_R HO_6.out)
         have hcz43_0 : wr.cell? ⟨gb101,0,none⟩ = some (.string x102000_1) := (qw BK101.out 0).trans rfl
         have hcz43_1 : wr.cell? ⟨gb101,1,none⟩ = some (.string x102001_1) := (qw BK101.out 1).trans rfl
         have hfz43_0 := qv BK101.out 0
         have hfz43_1 := qv BK101.out 1
         go_wp2_with (first | ((with_reducible refine gate_builtin (b := .append) (xs := #[.tmp 73,.tmp 75]) rfl ?_);at_builtin;refine Kd.R_append k122 (w0 := w) w.heap.size rfl (.tmp 73) (.tmp 75) 62 122 (.agg #[(.string ⟨#[]⟩),(.string ⟨#[]⟩)]) 32 rfl Try.underlying62 info122 rfl (by decide) (by omega) u4 x4_1 (⟨x102000_1,strOfNums x6_1⟩ : S122) [.string x102000_1,.string (strOfNums x6_1)] (fun k_ => k_ ≠ gb101) (fun _ => False) rfl (by first | (go_simp;done) | (go_simp;rfl)) ?aP (fun _ hk => hk.elim) ?aF ?aO ?aB ?aS ?aL ?_;(case aP => exact k122_mkM _ _ _ (⟨x102000_1,strOfNums x6_1⟩ : S122));(case aB => exact (by repeat (first | (with_reducible first | exact HB.out | apply qj | apply qz | apply qk | refine qx ?_ GE101.out) | exact HB.out)));(case aF => exact (fun k_ hk => Kd.freshB (g := gb101) (o := .cells #[.string x102000_1,.string (strOfNums x6_1)] 122 (0,0)) (by (with_reducible repeat (first | refine zz ?_ _ | refine zj ?_ | refine zq ?_ _));refine blk_put (cs := #[.string x102000_1,.string x102001_1]) ?_ 1 _ rfl;(with_reducible repeat (first | refine zz ?_ _ | refine zj ?_ | refine zq ?_ _));exact BK101.out) k_ hk));(case aO => exact (by (with_reducible repeat (first | apply Kd.jq | apply Kd.zx | apply Kd.jz));exact Kd.R_mono (Kd.R_far (p := ⟨gb101,1,none⟩) (Kd.R_mono HO_4.out (fun k_ hk => (⟨hk,hk⟩ : _ ∧ k_ ≠ gb101))) (fun _ hk => hk.2) (.string (strOfNums x6_1))) (fun _ hk => hk.1)));(case aS => exact (zw (by repeat (first | (with_reducible first | exact HB.out | apply qj | apply qz | apply qk | refine qx ?_ GE101.out) | exact HB.out))));(case aL => have := LMc33.out;omega);intro v103 w44 ho hb hg hat;rw [← Ny102.out] at ho;have n0_ := qq.mk (Kd.R_over' (by (with_reducible repeat (first | apply Kd.jq | apply Kd.zx | apply Kd.jz));exact (Kd.R_mono (Kd.R_far (p := ⟨gb101,1,none⟩) (Kd.R_types HO_6.out BK101.out (by decide)) (fun _ hk => hk.2) (.string (strOfNums x6_1))) (fun _ h_ => h_.1))) (Kd.R_typed (by (with_reducible repeat (first | apply Kd.jq | apply Kd.zx | apply Kd.jz));exact (Kd.R_mono (Kd.R_far (p := ⟨gb101,1,none⟩) (Kd.R_mono HO_4.out (fun k_ hk => (⟨hk,hk⟩ : _ ∧ k_ ≠ gb101))) (fun _ hk => hk.2) (.string (strOfNums x6_1))) (fun _ h_ => h_.1)))) (by decide) hg);have n1_ := qq.mk (blk_grown (g := gb101) (o := .cells #[.string x102000_1,.string (strOfNums x6_1)] 122 (0,0)) (by (with_reducible repeat (first | refine zz ?_ _ | refine zj ?_ | refine zq ?_ _));refine blk_put (cs := #[.string x102000_1,.string x102001_1]) ?_ 1 _ rfl;(with_reducible repeat (first | refine zz ?_ _ | refine zj ?_ | refine zq ?_ _));exact BK101.out) hg (Kd.R_away HO_4.out (fun _ hk => hk)));have n2_ := qq.mk (hb);have n3_ := qq.mk (ho);clear HO_6;clear BK101;clear HB;clear HO_4;have HO_6 := n0_;have BK101 := n1_;have HB := n2_;have HO104 := n3_;clear n0_ n1_ n2_ n3_;clear ho hb hg hat;obtain ⟨Ao45,co45,eo45⟩ := Kd.R_slice HO104.out;subst eo45) | (go_at_call 43;(with_reducible refine (qzz.calls k1 _ _ y102 t105 _ ?side1 ?side2 A35.out).mono ?_);(case side1 => repeat (first | exact (Kd.R_reads' HO104.out).2.2 | (with_reducible refine Kd.C_alloc ?_ _) | (with_reducible refine Kd.C_drewN ?_ _) | (with_reducible refine Kd.C_drew ?_)));(case side2 => exact (Kd.R_reads' HO104.out).2.1);rintro e w46 ⟨rfl,hb⟩;have n0_ := qq.mk (Kd.R_below (by (with_reducible repeat (first | apply Kd.jq | apply Kd.zx | apply Kd.jz));exact HO_6.out) hb);have n1_ := qq.mk (Kd.R_below (by (with_reducible repeat (first | apply Kd.jq | apply Kd.zx | apply Kd.jz));exact HO104.out) hb);have n2_ := qq.mk (kw (g := gb101) (o := .cells #[.string x102000_1,.string (strOfNums x6_1)] 122 (0,0)) (by (with_reducible repeat (first | refine zz ?_ _ | refine zj ?_ | refine zq ?_ _));exact BK101.out) hb);have n3_ := qq.mk (zv (by repeat (first | (with_reducible first | exact HB.out | apply qj | apply qz | apply qk | refine qx ?_ GE101.out) | exact HB.out)) hb);clear HO_6;clear HO104;clear BK101;clear HB;have HO_6 := n0_;have HO104 := n1_;have BK101 := n2_;have HB := n3_;clear n0_ n1_ n2_ n3_;(try clear hb);(try clear hb2);(try clear hk);(try clear hi)))
         go_ret2
         exact ⟨_,by first | rfl | (simp [*,jx,jw] <;> rfl),by first | exact Kd.R_nil _ _ _ _ _ | exact Kd.N_nil _ _ _ _ _ | exact Kd.V_nil _ _ _ _ _ | exact Kd.Q_nil _ _ _ _ _ | exact Kd.S_nil _ _ _ _ _,by repeat (first | (with_reducible first | exact HB.out | apply qj | apply qz | apply qk | refine qx ?_ GE101.out) | exact HB.out)⟩
       ·replace c34 := Bool.eq_false_iff.mpr c34
        subst c34
        have H1 : (some (([] : List (S122)),false)) = some (r1,r2) := by rw [if_neg (show ¬ (false = true) by decide)] at H;exact H
        clear H
        have H := H1
        clear H1
        simp only [Option.some.injEq,Prod.mk.injEq] at H
        obtain ⟨rfl,rfl⟩ := H
        have hcv47 := own_string (P := Try.prog) Try.underlying22 Try.underlying5 Try.underlying9 (Kd.own_of_R HO_6.out)
        have hcz48_0 : wr.cell? ⟨gb101,0,none⟩ = some (.string x102000_1) := (qw BK101.out 0).trans rfl
        have hcz48_1 : wr.cell? ⟨gb101,1,none⟩ = some (.string x102001_1) := (qw BK101.out 1).trans rfl
        have hfz48_0 := qv BK101.out 0
        have hfz48_1 := qv BK101.out 1
        go_wp2_with (first | ((with_reducible refine gate_builtin (b := .append) (xs := #[.tmp 73,.tmp 75]) rfl ?_);at_builtin;refine Kd.R_append k122 (w0 := w) w.heap.size rfl (.tmp 73) (.tmp 75) 62 122 (.agg #[(.string ⟨#[]⟩),(.string ⟨#[]⟩)]) 32 rfl Try.underlying62 info122 rfl (by decide) (by omega) u4 x4_1 (⟨x102000_1,strOfNums x6_1⟩ : S122) [.string x102000_1,.string (strOfNums x6_1)] (fun k_ => k_ ≠ gb101) (fun _ => False) rfl (by first | (go_simp;done) | (go_simp;rfl)) ?aP (fun _ hk => hk.elim) ?aF ?aO ?aB ?aS ?aL ?_;(case aP => exact k122_mkM _ _ _ (⟨x102000_1,strOfNums x6_1⟩ : S122));(case aB => exact (by repeat (first | (with_reducible first | exact HB.out | apply qj | apply qz | apply qk | refine qx ?_ GE101.out) | exact HB.out)));(case aF => exact (fun k_ hk => Kd.freshB (g := gb101) (o := .cells #[.string x102000_1,.string (strOfNums x6_1)] 122 (0,0)) (by (with_reducible repeat (first | refine zz ?_ _ | refine zj ?_ | refine zq ?_ _));refine blk_put (cs := #[.string x102000_1,.string x102001_1]) ?_ 1 _ rfl;(with_reducible repeat (first | refine zz ?_ _ | refine zj ?_ | refine zq ?_ _));exact BK101.out) k_ hk));(case aO => exact (by (with_reducible repeat (first | apply Kd.jq | apply Kd.zx | apply Kd.jz));exact Kd.R_mono (Kd.R_far (p := ⟨gb101,1,none⟩) (Kd.R_mono HO_4.out (fun k_ hk => (⟨hk,hk⟩ : _ ∧ k_ ≠ gb101))) (fun _ hk => hk.2) (.string (strOfNums x6_1))) (fun _ hk => hk.1)));(case aS => exact (zw (by repeat (first | (with_reducible first | exact HB.out | apply qj | apply qz | apply qk | refine qx ?_ GE101.out) | exact HB.out))));(case aL => have := LMc33.out;omega);intro v103 w49 ho hb hg hat;rw [← Ny102.out] at ho;have n0_ := qq.mk (Kd.R_over' (by (with_reducible repeat (first | apply Kd.jq | apply Kd.zx | apply Kd.jz));exact (Kd.R_mono (Kd.R_far (p := ⟨gb101,1,none⟩) (Kd.R_types HO_6.out BK101.out (by decide)) (fun _ hk => hk.2) (.string (strOfNums x6_1))) (fun _ h_ => h_.1))) (Kd.R_typed (by (with_reducible repeat (first | apply Kd.jq | apply Kd.zx | apply Kd.jz));exact (Kd.R_mono (Kd.R_far (p := ⟨gb101,1,none⟩) (Kd.R_mono HO_4.out (fun k_ hk => (⟨hk,hk⟩ : _ ∧ k_ ≠ gb101))) (fun _ hk => hk.2) (.string (strOfNums x6_1))) (fun _ h_ => h_.1)))) (by decide) hg);have n1_ := qq.mk (blk_grown (g := gb101) (o := .cells #[.string x102000_1,.string (strOfNums x6_1)] 122 (0,0)) (by (with_reducible repeat (first | refine zz ?_ _ | refine zj ?_ | refine zq ?_ _));refine blk_put (cs := #[.string x102000_1,.string x102001_1]) ?_ 1 _ rfl;(with_reducible repeat (first | refine zz ?_ _ | refine zj ?_ | refine zq ?_ _));exact BK101.out) hg (Kd.R_away HO_4.out (fun _ hk => hk)));have n2_ := qq.mk (hb);have n3_ := qq.mk (ho);clear HO_6;clear BK101;clear HB;clear HO_4;have HO_6 := n0_;have BK101 := n1_;have HB := n2_;have HO104 := n3_;clear n0_ n1_ n2_ n3_;clear ho hb hg hat))
        go_ret2
        exact ⟨_,by first | rfl | (simp [*,jx,jw] <;> rfl),by first | exact Kd.R_nil _ _ _ _ _ | exact Kd.N_nil _ _ _ _ _ | exact Kd.V_nil _ _ _ _ _ | exact Kd.Q_nil _ _ _ _ _ | exact Kd.S_nil _ _ _ _ _,by repeat (first | (with_reducible first | exact HB.out | apply qj | apply qz | apply qk | refine qx ?_ GE101.out) | exact HB.out)⟩
      ·rw [if_neg c33] at H
       exact absurd H (by simp)
end Go.Proofs.Ytccbjchlcelkgaa.Pr
namespace Go.Proofs.Ytccbjchlcelkgaa.Pr
open Go.RowKit Go.Proofs.YtccbjchlcelkgaaW.PrintWords Go.Proofs.YtccbjchlcelkgaaW.PrintLast Go.Proofs.YtccbjchlcelkgaaW.PrintMore
attribute [local go_sem] max2_int min2_int max_two min_two max_three min_three max_four min_four
set_option linter.unusedVariables false
set_option linter.unusedSimpArgs false
def qqj.l0 : Nat → List Int → List (S122) → Int → Option (Bool)
 | 0,_,_,_ => none
 | k + 1,x0,x3,x7 => if x7 ≤ (x3.length : Int) then (if 0 ≤ x7 then ((xz.f k x3 (x3.drop (x7 : Int).toNat)).bind fun t126 => (if t126 = true then (if x7 > 0 then ((xz.f k (x3.drop (x7 : Int).toNat) x3).bind fun t131 => (if t131 = true then (none) else (qqj.l0 k x0 x3 (wrap64 (x7 + 1))))) else (qqj.l0 k x0 x3 (wrap64 (x7 + 1)))) else (none))) else (none)) else ((qqw.f k x0).bind fun t132 => ((wx.f k t132).bind fun bt133 => ((qzj.f k t132).bind fun bt137 => (if (bt133.2 == bt137.2) = true then ((qqk.f k bt133.1 bt137.1).bind fun t141 => (if t141 = true then (if bt133.2 = true then ((wv.f k bt133.1).bind fun t142 => (some (t142.toList == t132.toList))) else (some true)) else (none))) else (none)))))
def qqj.f (k : Nat) (l0 : List Int) : Option (Bool) := if (l0.length : Int) > 1048576 then (some true) else ((qqv.f k l0).bind fun t101 => ((wv.f k t101).bind fun t104 => ((qzz.f k t101).bind fun t105 => (if t104.toList = t105.toList then (if t104.toList = ([] : List UInt8) then ((qqw.f k l0).bind fun t106 => ((wx.f k t106).bind fun bt107 => ((qzj.f k t106).bind fun bt111 => (if (bt107.2 == bt111.2) = true then ((qqk.f k bt107.1 bt111.1).bind fun t115 => (if t115 = true then (if bt107.2 = true then ((wv.f k bt107.1).bind fun t116 => (some (t116.toList == t106.toList))) else (some true)) else (none))) else (none))))) else ((wx.f k t104).bind fun bt117 => (if bt117.2 = true then ((qqk.f k bt117.1 t101).bind fun t121 => (if t121 = true then (qqj.l0 k l0 t101 0) else (none))) else (none)))) else (none)))))
set_option maxHeartbeats 8000000 in
set_option maxRecDepth 100000 in
theorem qqj.calls (k : Nat) (A0 : Option Addr) (c0 : Nat) (l0 : List Int) (r : Bool) (w : World) (hr0 : Kd.C (Kd.int .u8) w A0 l0.length l0) (hc0 : l0.length ≤ c0) (h : qqj.f k l0 = some r) :
  Calls Try.prog 9 #[.slice A0 l0.length c0] w fun e w' => e = .returned (.bool r) ∧ Below w.heap.size w w' := by
 have HR0 := qq.mk hr0
 have HC0 := qq.mk hc0
 clear hr0 hc0
 have HB := qq.mk (Below.refl w.heap.size w)
 have H : (if (l0.length : Int) > 1048576 then (some true) else ((qqv.f k l0).bind fun t101 => ((wv.f k t101).bind fun t104 => ((qzz.f k t101).bind fun t105 => (if t104.toList = t105.toList then (if t104.toList = ([] : List UInt8) then ((qqw.f k l0).bind fun t106 => ((wx.f k t106).bind fun bt107 => ((qzj.f k t106).bind fun bt111 => (if (bt107.2 == bt111.2) = true then ((qqk.f k bt107.1 bt111.1).bind fun t115 => (if t115 = true then (if bt107.2 = true then ((wv.f k bt107.1).bind fun t116 => (some (t116.toList == t106.toList))) else (some true)) else (none))) else (none))))) else ((wx.f k t104).bind fun bt117 => (if bt117.2 = true then ((qqk.f k bt117.1 t101).bind fun t121 => (if t121 = true then (qqj.l0 k l0 t101 0) else (none))) else (none)))) else (none)))))) = some r := h
 clear h
 by_cases c2 : (l0.length : Int) > 1048576
 ·rw [if_pos c2] at H
  have c2b0 : decide (1048576 < (l0.length : Int)) = true := decide_eq_true c2
  have c2b1 : decide (1048576 < l0.length) = true := decide_eq_true (by omega)
  clear c2
  obtain rfl := Option.some.inj H
  go_enter Try.func9,Try.ntmps9
  go_wp2
  go_ret
  exact ⟨by first | rfl | (simp [*,jx,jw] <;> rfl),by repeat (first | (with_reducible first | exact HB.out | apply qj | apply qz | apply qk) | exact HB.out)⟩
 ·rw [if_neg c2] at H
  have c2b0 : decide (1048576 < (l0.length : Int)) = false := decide_eq_false c2
  have c2b1 : decide (1048576 < l0.length) = false := decide_eq_false (by omega)
  clear c2
  replace H := Option.bind_eq_some_iff.mp H
  obtain ⟨t101,A30,H⟩ := H
  replace H : ((wv.f k t101).bind fun t104 => ((qzz.f k t101).bind fun t105 => (if t104.toList = t105.toList then (if t104.toList = ([] : List UInt8) then ((qqw.f k l0).bind fun t106 => ((wx.f k t106).bind fun bt107 => ((qzj.f k t106).bind fun bt111 => (if (bt107.2 == bt111.2) = true then ((qqk.f k bt107.1 bt111.1).bind fun t115 => (if t115 = true then (if bt107.2 = true then ((wv.f k bt107.1).bind fun t116 => (some (t116.toList == t106.toList))) else (some true)) else (none))) else (none))))) else ((wx.f k t104).bind fun bt117 => (if bt117.2 = true then ((qqk.f k bt117.1 t101).bind fun t121 => (if t121 = true then (qqj.l0 k l0 t101 0) else (none))) else (none)))) else (none)))) = some r := H
  have A3 := qq.mk A30
  clear A30
  replace H := Option.bind_eq_some_iff.mp H
  obtain ⟨t104,A40,H⟩ := H
  replace H : ((qzz.f k t101).bind fun t105 => (if t104.toList = t105.toList then (if t104.toList = ([] : List UInt8) then ((qqw.f k l0).bind fun t106 => ((wx.f k t106).bind fun bt107 => ((qzj.f k t106).bind fun bt111 => (if (bt107.2 == bt111.2) = true then ((qqk.f k bt107.1 bt111.1).bind fun t115 => (if t115 = true then (if bt107.2 = true then ((wv.f k bt107.1).bind fun t116 => (some (t116.toList == t106.toList))) else (some true)) else (none))) else (none))))) else ((wx.f k t104).bind fun bt117 => (if bt117.2 = true then ((qqk.f k bt117.1 t101).bind fun t121 => (if t121 = true then (qqj.l0 k l0 t101 0) else (none))) else (none)))) else (none))) = some r := H
  have A4 := qq.mk A40
  clear A40
  replace H := Option.bind_eq_some_iff.mp H
  obtain ⟨t105,A50,H⟩ := H
  replace H : (if t104.toList = t105.toList then (if t104.toList = ([] : List UInt8) then ((qqw.f k l0).bind fun t106 => ((wx.f k t106).bind fun bt107 => ((qzj.f k t106).bind fun bt111 => (if (bt107.2 == bt111.2) = true then ((qqk.f k bt107.1 bt111.1).bind fun t115 => (if t115 = true then (if bt107.2 = true then ((wv.f k bt107.1).bind fun t116 => (some (t116.toList == t106.toList))) else (some true)) else (none))) else (none))))) else ((wx.f k t104).bind fun bt117 => (if bt117.2 = true then ((qqk.f k bt117.1 t101).bind fun t121 => (if t121 = true then (qqj.l0 k l0 t101 0) else (none))) else (none)))) else (none)) = some r := H
  have A5 := qq.mk A50
  clear A50
  by_cases c6 : t104.toList = t105.toList
  ·rw [if_pos c6] at H
   have c6b0 : (t104.toList == t105.toList) = true := beq_iff_eq.mpr c6
   have c6b1 : (t104.toList != t105.toList) = false := bne_eq_false_iff_eq.mpr c6
   clear c6
   by_cases c7 : t104.toList = ([] : List UInt8)
   ·rw [if_pos c7] at H
    have c7b0 : (t104.toList == ([] : List UInt8)) = true := beq_iff_eq.mpr c7
    have c7b1 : (t104.toList != ([] : List UInt8)) = false := bne_eq_false_iff_eq.mpr c7
    clear c7
    replace H := Option.bind_eq_some_iff.mp H
    obtain ⟨t106,A80,H⟩ := H
    replace H : ((wx.f k t106).bind fun bt107 => ((qzj.f k t106).bind fun bt111 => (if (bt107.2 == bt111.2) = true then ((qqk.f k bt107.1 bt111.1).bind fun t115 => (if t115 = true then (if bt107.2 = true then ((wv.f k bt107.1).bind fun t116 => (some (t116.toList == t106.toList))) else (some true)) else (none))) else (none)))) = some r := H
    have A8 := qq.mk A80
    clear A80
    replace H := Option.bind_eq_some_iff.mp H
    obtain ⟨⟨t107,t108⟩,A90,H⟩ := H
    replace H : ((qzj.f k t106).bind fun bt111 => (if (t108 == bt111.2) = true then ((qqk.f k t107 bt111.1).bind fun t115 => (if t115 = true then (if t108 = true then ((wv.f k t107).bind fun t116 => (some (t116.toList == t106.toList))) else (some true)) else (none))) else (none))) = some r := H
    have A9 := qq.mk A90
    clear A90
    replace H := Option.bind_eq_some_iff.mp H
    obtain ⟨⟨t111,t112⟩,A100,H⟩ := H
    replace H : (if (t108 == t112) = true then ((qqk.f k t107 t111).bind fun t115 => (if t115 = true then (if t108 = true then ((wv.f k t107).bind fun t116 => (some (t116.toList == t106.toList))) else (some true)) else (none))) else (none)) = some r := H
    have A10 := qq.mk A100
    clear A100
    by_cases c11 : (t108 == t112) = true
    ·rw [if_pos c11] at H
     have c11b0 : (t108 == t112) = true := c11
     (try (have c11b1 : decide (t108 = t112) = true := by simpa using c11))
     (try (have c11b2 : (t108 == t112) = true := by simpa using c11))
     clear c11
     replace H := Option.bind_eq_some_iff.mp H
     obtain ⟨t115,A120,H⟩ := H
     replace H : (if t115 = true then (if t108 = true then ((wv.f k t107).bind fun t116 => (some (t116.toList == t106.toList))) else (some true)) else (none)) = some r := H
     have A12 := qq.mk A120
     clear A120
     by_cases c13 : t115 = true
     ·subst c13
      have H1 : (if t108 = true then ((wv.f k t107).bind fun t116 => (some (t116.toList == t106.toList))) else (some true)) = some r := by rw [if_pos rfl] at H;exact H
      clear H
      have H := H1
      clear H1
      by_cases c14 : t108 = true
      ·subst c14
       have H1 : ((wv.f k t107).bind fun t116 => (some (t116.toList == t106.toList))) = some r := by rw [if_pos rfl] at H;exact H
       clear H
       have H := H1
       clear H1
       replace H := Option.bind_eq_some_iff.mp H
       obtain ⟨t116,A150,H⟩ := H
       replace H : (some (t116.toList == t106.toList)) = some r := H
       have A15 := qq.mk A150
       clear A150
       obtain rfl := Option.some.inj H
       go_enter Try.func9,Try.ntmps9
       go_wp2_with (first | ((with_reducible refine kz (f := 41) rfl ?_);refine goesL_ (some 17) rfl rfl Try.func41 (by kernel_rfl) rfl #[.slice A0 l0.length c0] rfl (by (try simp only [List.map_toArray,List.map_cons,List.map_nil]);first | done | rfl | (simp only [List.length_drop,List.length_take];rfl)) ?_;(with_reducible refine (qqv.calls k _ _ l0 t101 _ ?side1 ?side2 A3.out).mono ?_);(case side1 => repeat (first | exact HR0.out | (with_reducible refine Kd.C_alloc ?_ _) | (with_reducible refine Kd.C_drewN ?_ _) | (with_reducible refine Kd.C_drew ?_)));(case side2 => exact HC0.out);rintro e w16 ⟨v102,rfl,ho0,hb⟩;refine ⟨_,rfl,?_⟩;have n0_ := qq.mk (Kd.R_lower ho0 (zw (by repeat (first | (with_reducible first | exact HB.out | apply qj | apply qz | apply qk) | exact HB.out))));have n1_ := qq.mk (zv (by repeat (first | (with_reducible first | exact HB.out | apply qj | apply qz | apply qk) | exact HB.out)) hb);clear HB;have HO103 := n0_;have HB := n1_;clear n0_ n1_;(try clear hb);(try clear hb2);(try clear hk);(try clear hi);(try clear ho0);obtain ⟨Ao17,co17,eo17⟩ := Kd.R_slice HO103.out;subst eo17) | ((with_reducible refine kz (f := 42) rfl ?_);refine goesL_ (some 19) rfl rfl Try.func42 (by kernel_rfl) rfl #[.slice Ao17 t101.length co17] rfl (by (try simp only [List.map_toArray,List.map_cons,List.map_nil]);first | done | rfl | (simp only [List.length_drop,List.length_take];rfl)) ?_;(with_reducible refine (wv.calls k _ _ t101 t104 _ ?side1 ?side2 A4.out).mono ?_);(case side1 => repeat (first | exact (Kd.R_reads' HO103.out).2.2 | (with_reducible refine Kd.C_alloc ?_ _) | (with_reducible refine Kd.C_drewN ?_ _) | (with_reducible refine Kd.C_drew ?_)));(case side2 => exact (Kd.R_reads' HO103.out).2.1);rintro e w18 ⟨rfl,hb⟩;refine ⟨_,rfl,?_⟩;have n0_ := qq.mk (Kd.R_below (by (with_reducible repeat (first | apply Kd.jq | apply Kd.zx | apply Kd.jz));exact HO103.out) hb);have n1_ := qq.mk (zv (by repeat (first | (with_reducible first | exact HB.out | apply qj | apply qz | apply qk) | exact HB.out)) hb);clear HO103;clear HB;have HO103 := n0_;have HB := n1_;clear n0_ n1_;(try clear hb);(try clear hb2);(try clear hk);(try clear hi)) | ((with_reducible refine kz (f := 43) rfl ?_);refine goesL_ (some 22) rfl rfl Try.func43 (by kernel_rfl) rfl #[.slice Ao17 t101.length co17] rfl (by (try simp only [List.map_toArray,List.map_cons,List.map_nil]);first | done | rfl | (simp only [List.length_drop,List.length_take];rfl)) ?_;(with_reducible refine (qzz.calls k _ _ t101 t105 _ ?side1 ?side2 A5.out).mono ?_);(case side1 => repeat (first | exact (Kd.R_reads' HO103.out).2.2 | (with_reducible refine Kd.C_alloc ?_ _) | (with_reducible refine Kd.C_drewN ?_ _) | (with_reducible refine Kd.C_drew ?_)));(case side2 => exact (Kd.R_reads' HO103.out).2.1);rintro e w19 ⟨rfl,hb⟩;refine ⟨_,rfl,?_⟩;have n0_ := qq.mk (Kd.R_below (by (with_reducible repeat (first | apply Kd.jq | apply Kd.zx | apply Kd.jz));exact HO103.out) hb);have n1_ := qq.mk (zv (by repeat (first | (with_reducible first | exact HB.out | apply qj | apply qz | apply qk) | exact HB.out)) hb);clear HO103;clear HB;have HO103 := n0_;have HB := n1_;clear n0_ n1_;(try clear hb);(try clear hb2);(try clear hk);(try clear hi)) | ((with_reducible refine kz (f := 47) rfl ?_);refine goesL_ (some 63) rfl rfl Try.func47 (by kernel_rfl) rfl #[.slice A0 l0.length c0] rfl (by (try simp only [List.map_toArray,List.map_cons,List.map_nil]);first | done | rfl | (simp only [List.length_drop,List.length_take];rfl)) ?_;(with_reducible refine (qqw.calls k _ _ l0 t106 _ ?side1 ?side2 A8.out).mono ?_);(case side1 => repeat (first | exact (Kd.C_below HR0.out HB.out) | (with_reducible refine Kd.C_alloc ?_ _) | (with_reducible refine Kd.C_drewN ?_ _) | (with_reducible refine Kd.C_drew ?_)));(case side2 => exact HC0.out);rintro e w20 ⟨rfl,hb⟩;refine ⟨_,rfl,?_⟩;have n0_ := qq.mk (Kd.R_below (by (with_reducible repeat (first | apply Kd.jq | apply Kd.zx | apply Kd.jz));exact HO103.out) hb);have n1_ := qq.mk (zv (by repeat (first | (with_reducible first | exact HB.out | apply qj | apply qz | apply qk) | exact HB.out)) hb);clear HO103;clear HB;have HO103 := n0_;have HB := n1_;clear n0_ n1_;(try clear hb);(try clear hb2);(try clear hk);(try clear hi)) | ((with_reducible refine kz (f := 44) rfl ?_);refine goesL_ (some 66) rfl rfl Try.func44 (by kernel_rfl) rfl #[.string t106] rfl (by (try simp only [List.map_toArray,List.map_cons,List.map_nil]);first | done | rfl | (simp only [List.length_drop,List.length_take];rfl)) ?_;(with_reducible refine (wx.calls k t106 t107 true _ A9.out).mono ?_);rintro e w21 ⟨v109,rfl,ho0,hb⟩;refine ⟨_,rfl,?_⟩;have n0_ := qq.mk (Kd.R_elder' (by (with_reducible repeat (first | apply Kd.jq | apply Kd.zx | apply Kd.jz));exact HO103.out) (Kd.R_base ho0) hb);have n1_ := qq.mk (Kd.R_lower (Kd.R_new' ho0 (Kd.R_lt (by (with_reducible repeat (first | apply Kd.jq | apply Kd.zx | apply Kd.jz));exact HO103.out))) (zw (by repeat (first | (with_reducible first | exact HB.out | apply qj | apply qz | apply qk) | exact HB.out))));have n2_ := qq.mk (zv (by repeat (first | (with_reducible first | exact HB.out | apply qj | apply qz | apply qk) | exact HB.out)) hb);clear HO103;clear HB;have HO103 := n0_;have HO110 := n1_;have HB := n2_;clear n0_ n1_ n2_;(try clear hb);(try clear hb2);(try clear hk);(try clear hi);(try clear ho0)) | ((with_reducible refine kz (f := 48) rfl ?_);refine goesL_ (some 71) rfl rfl Try.func48 (by kernel_rfl) rfl #[.string t106] rfl (by (try simp only [List.map_toArray,List.map_cons,List.map_nil]);first | done | rfl | (simp only [List.length_drop,List.length_take];rfl)) ?_;(with_reducible refine (qzj.calls k t106 t111 t112 _ A10.out).mono ?_);rintro e w22 ⟨v113,rfl,ho0,hb⟩;refine ⟨_,rfl,?_⟩;have n0_ := qq.mk (Kd.R_elder' (by (with_reducible repeat (first | apply Kd.jq | apply Kd.zx | apply Kd.jz));exact HO103.out) (Kd.R_base ho0) hb);have n1_ := qq.mk (Kd.R_elder' (by (with_reducible repeat (first | apply Kd.jq | apply Kd.zx | apply Kd.jz));exact HO110.out) (Kd.R_base ho0) hb);have n2_ := qq.mk (Kd.R_lower (Kd.R_new' (Kd.R_new' ho0 (Kd.R_lt (by (with_reducible repeat (first | apply Kd.jq | apply Kd.zx | apply Kd.jz));exact HO103.out))) (Kd.R_lt (by (with_reducible repeat (first | apply Kd.jq | apply Kd.zx | apply Kd.jz));exact HO110.out))) (zw (by repeat (first | (with_reducible first | exact HB.out | apply qj | apply qz | apply qk) | exact HB.out))));have n3_ := qq.mk (zv (by repeat (first | (with_reducible first | exact HB.out | apply qj | apply qz | apply qk) | exact HB.out)) hb);clear HO103;clear HO110;clear HB;have HO103 := n0_;have HO110 := n1_;have HO114 := n2_;have HB := n3_;clear n0_ n1_ n2_ n3_;(try clear hb);(try clear hb2);(try clear hk);(try clear hi);(try clear ho0);obtain ⟨Ao23,co23,eo23⟩ := Kd.R_slice HO110.out;subst eo23;obtain ⟨Ao24,co24,eo24⟩ := Kd.R_slice HO114.out;subst eo24) | (go_at_call 45;(with_reducible refine (qqk.calls k _ _ t107 _ _ t111 true _ ?side1 ?side2 ?side3 ?side4 A12.out).mono ?_);(case side1 => repeat (first | exact (Kd.R_reads' HO110.out).2.2 | (with_reducible refine Kd.C_alloc ?_ _) | (with_reducible refine Kd.C_drewN ?_ _) | (with_reducible refine Kd.C_drew ?_)));(case side2 => exact (Kd.R_reads' HO110.out).2.1);(case side3 => repeat (first | exact (Kd.R_reads' HO114.out).2.2 | (with_reducible refine Kd.C_alloc ?_ _) | (with_reducible refine Kd.C_drewN ?_ _) | (with_reducible refine Kd.C_drew ?_)));(case side4 => exact (Kd.R_reads' HO114.out).2.1);rintro e w' ⟨rfl,⟨nd,rfl⟩⟩) | (go_at_call 42;(with_reducible refine (wv.calls k _ _ t107 t116 _ ?side1 ?side2 A15.out).mono ?_);(case side1 => repeat (first | exact (Kd.R_reads' HO110.out).2.2 | (with_reducible refine Kd.C_alloc ?_ _) | (with_reducible refine Kd.C_drewN ?_ _) | (with_reducible refine Kd.C_drew ?_)));(case side2 => exact (Kd.R_reads' HO110.out).2.1);rintro e w25 ⟨rfl,hb⟩;have n0_ := qq.mk (Kd.R_below (by (with_reducible repeat (first | apply Kd.jq | apply Kd.zx | apply Kd.jz));exact HO103.out) hb);have n1_ := qq.mk (Kd.R_below (by (with_reducible repeat (first | apply Kd.jq | apply Kd.zx | apply Kd.jz));exact HO110.out) hb);have n2_ := qq.mk (Kd.R_below (by (with_reducible repeat (first | apply Kd.jq | apply Kd.zx | apply Kd.jz));exact HO114.out) hb);have n3_ := qq.mk (zv (by repeat (first | (with_reducible first | exact HB.out | apply qj | apply qz | apply qk) | exact HB.out)) hb);clear HO103;clear HO110;clear HO114;clear HB;have HO103 := n0_;have HO110 := n1_;have HO114 := n2_;have HB := n3_;clear n0_ n1_ n2_ n3_;(try clear hb);(try clear hb2);(try clear hk);(try clear hi)))
       go_ret
       exact ⟨by first | rfl | (simp [*,jx,jw] <;> rfl),by repeat (first | (with_reducible first | exact HB.out | apply qj | apply qz | apply qk) | exact HB.out)⟩
      ·replace c14 := Bool.eq_false_iff.mpr c14
       subst c14
       have H1 : (some true) = some r := by rw [if_neg (show ¬ (false = true) by decide)] at H;exact H
       clear H
       have H := H1
       clear H1
       obtain rfl := Option.some.inj H
       go_enter Try.func9,Try.ntmps9
       go_wp2_with (first | ((with_reducible refine kz (f := 41) rfl ?_);refine goesL_ (some 17) rfl rfl Try.func41 (by kernel_rfl) rfl #[.slice A0 l0.length c0] rfl (by (try simp only [List.map_toArray,List.map_cons,List.map_nil]);first | done | rfl | (simp only [List.length_drop,List.length_take];rfl)) ?_;(with_reducible refine (qqv.calls k _ _ l0 t101 _ ?side1 ?side2 A3.out).mono ?_);(case side1 => repeat (first | exact HR0.out | (with_reducible refine Kd.C_alloc ?_ _) | (with_reducible refine Kd.C_drewN ?_ _) | (with_reducible refine Kd.C_drew ?_)));(case side2 => exact HC0.out);rintro e w26 ⟨v102,rfl,ho0,hb⟩;refine ⟨_,rfl,?_⟩;have n0_ := qq.mk (Kd.R_lower ho0 (zw (by repeat (first | (with_reducible first | exact HB.out | apply qj | apply qz | apply qk) | exact HB.out))));have n1_ := qq.mk (zv (by repeat (first | (with_reducible first | exact HB.out | apply qj | apply qz | apply qk) | exact HB.out)) hb);clear HB;have HO103 := n0_;have HB := n1_;clear n0_ n1_;(try clear hb);(try clear hb2);(try clear hk);(try clear hi);(try clear ho0);obtain ⟨Ao27,co27,eo27⟩ := Kd.R_slice HO103.out;subst eo27) | ((with_reducible refine kz (f := 42) rfl ?_);refine goesL_ (some 19) rfl rfl Try.func42 (by kernel_rfl) rfl #[.slice Ao27 t101.length co27] rfl (by (try simp only [List.map_toArray,List.map_cons,List.map_nil]);first | done | rfl | (simp only [List.length_drop,List.length_take];rfl)) ?_;(with_reducible refine (wv.calls k _ _ t101 t104 _ ?side1 ?side2 A4.out).mono ?_);(case side1 => repeat (first | exact (Kd.R_reads' HO103.out).2.2 | (with_reducible refine Kd.C_alloc ?_ _) | (with_reducible refine Kd.C_drewN ?_ _) | (with_reducible refine Kd.C_drew ?_)));(case side2 => exact (Kd.R_reads' HO103.out).2.1);rintro e w28 ⟨rfl,hb⟩;refine ⟨_,rfl,?_⟩;have n0_ := qq.mk (Kd.R_below (by (with_reducible repeat (first | apply Kd.jq | apply Kd.zx | apply Kd.jz));exact HO103.out) hb);have n1_ := qq.mk (zv (by repeat (first | (with_reducible first | exact HB.out | apply qj | apply qz | apply qk) | exact HB.out)) hb);clear HO103;clear HB;have HO103 := n0_;have HB := n1_;clear n0_ n1_;(try clear hb);(try clear hb2);(try clear hk);(try clear hi)) | ((with_reducible refine kz (f := 43) rfl ?_);refine goesL_ (some 22) rfl rfl Try.func43 (by kernel_rfl) rfl #[.slice Ao27 t101.length co27] rfl (by (try simp only [List.map_toArray,List.map_cons,List.map_nil]);first | done | rfl | (simp only [List.length_drop,List.length_take];rfl)) ?_;(with_reducible refine (qzz.calls k _ _ t101 t105 _ ?side1 ?side2 A5.out).mono ?_);(case side1 => repeat (first | exact (Kd.R_reads' HO103.out).2.2 | (with_reducible refine Kd.C_alloc ?_ _) | (with_reducible refine Kd.C_drewN ?_ _) | (with_reducible refine Kd.C_drew ?_)));(case side2 => exact (Kd.R_reads' HO103.out).2.1);rintro e w29 ⟨rfl,hb⟩;refine ⟨_,rfl,?_⟩;have n0_ := qq.mk (Kd.R_below (by (with_reducible repeat (first | apply Kd.jq | apply Kd.zx | apply Kd.jz));exact HO103.out) hb);have n1_ := qq.mk (zv (by repeat (first | (with_reducible first | exact HB.out | apply qj | apply qz | apply qk) | exact HB.out)) hb);clear HO103;clear HB;have HO103 := n0_;have HB := n1_;clear n0_ n1_;(try clear hb);(try clear hb2);(try clear hk);(try clear hi)) | ((with_reducible refine kz (f := 47) rfl ?_);refine goesL_ (some 63) rfl rfl Try.func47 (by kernel_rfl) rfl #[.slice A0 l0.length c0] rfl (by (try simp only [List.map_toArray,List.map_cons,List.map_nil]);first | done | rfl | (simp only [List.length_drop,List.length_take];rfl)) ?_;(with_reducible refine (qqw.calls k _ _ l0 t106 _ ?side1 ?side2 A8.out).mono ?_);(case side1 => repeat (first | exact (Kd.C_below HR0.out HB.out) | (with_reducible refine Kd.C_alloc ?_ _) | (with_reducible refine Kd.C_drewN ?_ _) | (with_reducible refine Kd.C_drew ?_)));(case side2 => exact HC0.out);rintro e w30 ⟨rfl,hb⟩;refine ⟨_,rfl,?_⟩;have n0_ := qq.mk (Kd.R_below (by (with_reducible repeat (first | apply Kd.jq | apply Kd.zx | apply Kd.jz));exact HO103.out) hb);have n1_ := qq.mk (zv (by repeat (first | (with_reducible first | exact HB.out | apply qj | apply qz | apply qk) | exact HB.out)) hb);clear HO103;clear HB;have HO103 := n0_;have HB := n1_;clear n0_ n1_;(try clear hb);(try clear hb2);(try clear hk);(try clear hi)) | ((with_reducible refine kz (f := 44) rfl ?_);refine goesL_ (some 66) rfl rfl Try.func44 (by kernel_rfl) rfl #[.string t106] rfl (by (try simp only [List.map_toArray,List.map_cons,List.map_nil]);first | done | rfl | (simp only [List.length_drop,List.length_take];rfl)) ?_;(with_reducible refine (wx.calls k t106 t107 false _ A9.out).mono ?_);rintro e w31 ⟨v109,rfl,ho0,hb⟩;refine ⟨_,rfl,?_⟩;have n0_ := qq.mk (Kd.R_elder' (by (with_reducible repeat (first | apply Kd.jq | apply Kd.zx | apply Kd.jz));exact HO103.out) (Kd.R_base ho0) hb);have n1_ := qq.mk (Kd.R_lower (Kd.R_new' ho0 (Kd.R_lt (by (with_reducible repeat (first | apply Kd.jq | apply Kd.zx | apply Kd.jz));exact HO103.out))) (zw (by repeat (first | (with_reducible first | exact HB.out | apply qj | apply qz | apply qk) | exact HB.out))));have n2_ := qq.mk (zv (by repeat (first | (with_reducible first | exact HB.out | apply qj | apply qz | apply qk) | exact HB.out)) hb);clear HO103;clear HB;have HO103 := n0_;have HO110 := n1_;have HB := n2_;clear n0_ n1_ n2_;(try clear hb);(try clear hb2);(try clear hk);(try clear hi);(try clear ho0)) | ((with_reducible refine kz (f := 48) rfl ?_);refine goesL_ (some 71) rfl rfl Try.func48 (by kernel_rfl) rfl #[.string t106] rfl (by (try simp only [List.map_toArray,List.map_cons,List.map_nil]);first | done | rfl | (simp only [List.length_drop,List.length_take];rfl)) ?_;(with_reducible refine (qzj.calls k t106 t111 t112 _ A10.out).mono ?_);rintro e w32 ⟨v113,rfl,ho0,hb⟩;refine ⟨_,rfl,?_⟩;have n0_ := qq.mk (Kd.R_elder' (by (with_reducible repeat (first | apply Kd.jq | apply Kd.zx | apply Kd.jz));exact HO103.out) (Kd.R_base ho0) hb);have n1_ := qq.mk (Kd.R_elder' (by (with_reducible repeat (first | apply Kd.jq | apply Kd.zx | apply Kd.jz));exact HO110.out) (Kd.R_base ho0) hb);have n2_ := qq.mk (Kd.R_lower (Kd.R_new' (Kd.R_new' ho0 (Kd.R_lt (by (with_reducible repeat (first | apply Kd.jq | apply Kd.zx | apply Kd.jz));exact HO103.out))) (Kd.R_lt (by (with_reducible repeat (first | apply Kd.jq | apply Kd.zx | apply Kd.jz));exact HO110.out))) (zw (by repeat (first | (with_reducible first | exact HB.out | apply qj | apply qz | apply qk) | exact HB.out))));have n3_ := qq.mk (zv (by repeat (first | (with_reducible first | exact HB.out | apply qj | apply qz | apply qk) | exact HB.out)) hb);clear HO103;clear HO110;clear HB;have HO103 := n0_;have HO110 := n1_;have HO114 := n2_;have HB := n3_;clear n0_ n1_ n2_ n3_;(try clear hb);(try clear hb2);(try clear hk);(try clear hi);(try clear ho0);obtain ⟨Ao33,co33,eo33⟩ := Kd.R_slice HO110.out;subst eo33;obtain ⟨Ao34,co34,eo34⟩ := Kd.R_slice HO114.out;subst eo34) | (go_at_call 45;(with_reducible refine (qqk.calls k _ _ t107 _ _ t111 true _ ?side1 ?side2 ?side3 ?side4 A12.out).mono ?_);(case side1 => repeat (first | exact (Kd.R_reads' HO110.out).2.2 | (with_reducible refine Kd.C_alloc ?_ _) | (with_reducible refine Kd.C_drewN ?_ _) | (with_reducible refine Kd.C_drew ?_)));(case side2 => exact (Kd.R_reads' HO110.out).2.1);(case side3 => repeat (first | exact (Kd.R_reads' HO114.out).2.2 | (with_reducible refine Kd.C_alloc ?_ _) | (with_reducible refine Kd.C_drewN ?_ _) | (with_reducible refine Kd.C_drew ?_)));(case side4 => exact (Kd.R_reads' HO114.out).2.1);rintro e w' ⟨rfl,⟨nd,rfl⟩⟩))
       go_ret
       exact ⟨by first | rfl | (simp [*,jx,jw] <;> rfl),by repeat (first | (with_reducible first | exact HB.out | apply qj | apply qz | apply qk) | exact HB.out)⟩
     ·replace c13 := Bool.eq_false_iff.mpr c13
      subst c13
      have H1 : (none) = some r := by rw [if_neg (show ¬ (false = true) by decide)] at H;exact H
      clear H
      have H := H1
      clear H1
      exact absurd H (by simp)
    ·rw [if_neg c11] at H
     exact absurd H (by simp)
   ·rw [if_neg c7] at H
    have c7b0 : (t104.toList == ([] : List UInt8)) = false := beq_eq_false_iff_ne.mpr c7
    have c7b1 : (t104.toList != ([] : List UInt8)) = true := bne_iff_ne.mpr c7
    replace H := Option.bind_eq_some_iff.mp H
    obtain ⟨⟨t117,t118⟩,A350,H⟩ := H
    replace H : (if t118 = true then ((qqk.f k t117 t101).bind fun t121 => (if t121 = true then (qqj.l0 k l0 t101 0) else (none))) else (none)) = some r := H
    have A35 := qq.mk A350
    clear A350
    by_cases c36 : t118 = true
    ·subst c36
     have H1 : ((qqk.f k t117 t101).bind fun t121 => (if t121 = true then (qqj.l0 k l0 t101 0) else (none))) = some r := by rw [if_pos rfl] at H;exact H
     clear H
     have H := H1
     clear H1
     replace H := Option.bind_eq_some_iff.mp H
     obtain ⟨t121,A370,H⟩ := H
     replace H : (if t121 = true then (qqj.l0 k l0 t101 0) else (none)) = some r := H
     have A37 := qq.mk A370
     clear A370
     by_cases c38 : t121 = true
     ·subst c38
      have H1 : (qqj.l0 k l0 t101 0) = some r := by rw [if_pos rfl] at H;exact H
      clear H
      have H := H1
      clear H1
      have H' := qq.mk H
      clear H
      go_enter Try.func9,Try.ntmps9
      go_wp2_with (first | ((with_reducible refine kz (f := 41) rfl ?_);refine goesL_ (some 17) rfl rfl Try.func41 (by kernel_rfl) rfl #[.slice A0 l0.length c0] rfl (by (try simp only [List.map_toArray,List.map_cons,List.map_nil]);first | done | rfl | (simp only [List.length_drop,List.length_take];rfl)) ?_;(with_reducible refine (qqv.calls k _ _ l0 t101 _ ?side1 ?side2 A3.out).mono ?_);(case side1 => repeat (first | exact HR0.out | (with_reducible refine Kd.C_alloc ?_ _) | (with_reducible refine Kd.C_drewN ?_ _) | (with_reducible refine Kd.C_drew ?_)));(case side2 => exact HC0.out);rintro e w39 ⟨v102,rfl,ho0,hb⟩;refine ⟨_,rfl,?_⟩;have n0_ := qq.mk (Kd.R_lower ho0 (zw (by repeat (first | (with_reducible first | exact HB.out | apply qj | apply qz | apply qk) | exact HB.out))));have n1_ := qq.mk (zv (by repeat (first | (with_reducible first | exact HB.out | apply qj | apply qz | apply qk) | exact HB.out)) hb);clear HB;have HO103 := n0_;have HB := n1_;clear n0_ n1_;(try clear hb);(try clear hb2);(try clear hk);(try clear hi);(try clear ho0);obtain ⟨Ao40,co40,eo40⟩ := Kd.R_slice HO103.out;subst eo40) | ((with_reducible refine kz (f := 42) rfl ?_);refine goesL_ (some 19) rfl rfl Try.func42 (by kernel_rfl) rfl #[.slice Ao40 t101.length co40] rfl (by (try simp only [List.map_toArray,List.map_cons,List.map_nil]);first | done | rfl | (simp only [List.length_drop,List.length_take];rfl)) ?_;(with_reducible refine (wv.calls k _ _ t101 t104 _ ?side1 ?side2 A4.out).mono ?_);(case side1 => repeat (first | exact (Kd.R_reads' HO103.out).2.2 | (with_reducible refine Kd.C_alloc ?_ _) | (with_reducible refine Kd.C_drewN ?_ _) | (with_reducible refine Kd.C_drew ?_)));(case side2 => exact (Kd.R_reads' HO103.out).2.1);rintro e w41 ⟨rfl,hb⟩;refine ⟨_,rfl,?_⟩;have n0_ := qq.mk (Kd.R_below (by (with_reducible repeat (first | apply Kd.jq | apply Kd.zx | apply Kd.jz));exact HO103.out) hb);have n1_ := qq.mk (zv (by repeat (first | (with_reducible first | exact HB.out | apply qj | apply qz | apply qk) | exact HB.out)) hb);clear HO103;clear HB;have HO103 := n0_;have HB := n1_;clear n0_ n1_;(try clear hb);(try clear hb2);(try clear hk);(try clear hi)) | ((with_reducible refine kz (f := 43) rfl ?_);refine goesL_ (some 22) rfl rfl Try.func43 (by kernel_rfl) rfl #[.slice Ao40 t101.length co40] rfl (by (try simp only [List.map_toArray,List.map_cons,List.map_nil]);first | done | rfl | (simp only [List.length_drop,List.length_take];rfl)) ?_;(with_reducible refine (qzz.calls k _ _ t101 t105 _ ?side1 ?side2 A5.out).mono ?_);(case side1 => repeat (first | exact (Kd.R_reads' HO103.out).2.2 | (with_reducible refine Kd.C_alloc ?_ _) | (with_reducible refine Kd.C_drewN ?_ _) | (with_reducible refine Kd.C_drew ?_)));(case side2 => exact (Kd.R_reads' HO103.out).2.1);rintro e w42 ⟨rfl,hb⟩;refine ⟨_,rfl,?_⟩;have n0_ := qq.mk (Kd.R_below (by (with_reducible repeat (first | apply Kd.jq | apply Kd.zx | apply Kd.jz));exact HO103.out) hb);have n1_ := qq.mk (zv (by repeat (first | (with_reducible first | exact HB.out | apply qj | apply qz | apply qk) | exact HB.out)) hb);clear HO103;clear HB;have HO103 := n0_;have HB := n1_;clear n0_ n1_;(try clear hb);(try clear hb2);(try clear hk);(try clear hi)) | ((with_reducible refine kz (f := 44) rfl ?_);refine goesL_ (some 28) rfl rfl Try.func44 (by kernel_rfl) rfl #[.string t104] rfl (by (try simp only [List.map_toArray,List.map_cons,List.map_nil]);first | done | rfl | (simp only [List.length_drop,List.length_take];rfl)) ?_;(with_reducible refine (wx.calls k t104 t117 true _ A35.out).mono ?_);rintro e w43 ⟨v119,rfl,ho0,hb⟩;refine ⟨_,rfl,?_⟩;have n0_ := qq.mk (Kd.R_elder' (by (with_reducible repeat (first | apply Kd.jq | apply Kd.zx | apply Kd.jz));exact HO103.out) (Kd.R_base ho0) hb);have n1_ := qq.mk (Kd.R_lower (Kd.R_new' ho0 (Kd.R_lt (by (with_reducible repeat (first | apply Kd.jq | apply Kd.zx | apply Kd.jz));exact HO103.out))) (zw (by repeat (first | (with_reducible first | exact HB.out | apply qj | apply qz | apply qk) | exact HB.out))));have n2_ := qq.mk (zv (by repeat (first | (with_reducible first | exact HB.out | apply qj | apply qz | apply qk) | exact HB.out)) hb);clear HO103;clear HB;have HO103 := n0_;have HO120 := n1_;have HB := n2_;clear n0_ n1_ n2_;(try clear hb);(try clear hb2);(try clear hk);(try clear hi);(try clear ho0);obtain ⟨Ao44,co44,eo44⟩ := Kd.R_slice HO120.out;subst eo44) | (go_at_call 45;(with_reducible refine (qqk.calls k _ _ t117 _ _ t101 true _ ?side1 ?side2 ?side3 ?side4 A37.out).mono ?_);(case side1 => repeat (first | exact (Kd.R_reads' HO120.out).2.2 | (with_reducible refine Kd.C_alloc ?_ _) | (with_reducible refine Kd.C_drewN ?_ _) | (with_reducible refine Kd.C_drew ?_)));(case side2 => exact (Kd.R_reads' HO120.out).2.1);(case side3 => repeat (first | exact (Kd.R_reads' HO103.out).2.2 | (with_reducible refine Kd.C_alloc ?_ _) | (with_reducible refine Kd.C_drewN ?_ _) | (with_reducible refine Kd.C_drew ?_)));(case side4 => exact (Kd.R_reads' HO103.out).2.1);rintro e w' ⟨rfl,⟨nd,rfl⟩⟩))
      go_loopg [7] k (fun kq v7 w' => ∃ (x7_1 : Int),v7 = .int .i64 x7_1 ∧ qq (qqj.l0 kq l0 t101 x7_1 = some r) ∧ qq (kq ≤ k) ∧ qq (Kd.R k122 122 w' w.heap.size (fun _ => True) (.slice Ao40 t101.length co40) t101) ∧ qq (Below w.heap.size w w'))
      case atStart => exact ⟨(0),(by first | rfl | (simp;done) | (simp [*];done) | (generalize ByteArray.toList _ = l_;cases l_ <;> first | rfl | (simp;done))),H',⟨Nat.le_refl _⟩,⟨by (with_reducible repeat (first | apply Kd.jq | apply Kd.zx | apply Kd.jz));exact Kd.R_mono HO103.out (fun _ hk => trivial)⟩,⟨by repeat (first | (with_reducible first | exact HB.out | apply qj | apply qz | apply qk) | exact HB.out)⟩⟩
      case round =>
       clear H'
       try clear c1
       try clear c2
       try clear c2b0
       try clear c2b1
       try clear p2
       try clear c3
       try clear c4
       try clear c6
       try clear c6b0
       try clear c6b1
       try clear c7
       try clear c7b0
       try clear c7b1
       try clear c9
       try clear c11
       try clear c11b0
       try clear c11b1
       try clear c11b2
       try clear c13
       try clear c14
       try clear c36
       try clear c38
       try clear c41
       try clear c42
       try clear c43
       try clear c44
       obtain ⟨x7_1,rfl,HA,HK1,HO_3,HB⟩ := hrel
       cases gk with
       | zero => exact absurd HA.out (by simp [qqj.l0])
       | succ k1 =>
        have H := HA.out
        clear HA
        simp only [qqj.l0] at H
        by_cases c45 : x7_1 ≤ (t101.length : Int)
        ·rw [if_pos c45] at H
         have c45b0 : decide (x7_1 ≤ (t101.length : Int)) = true := decide_eq_true c45
         clear c45
         by_cases c46 : 0 ≤ x7_1
         ·rw [if_pos c46] at H
          have c46b0 := eq_true c46
          have c46b1 : decide (0 ≤ x7_1) = true := decide_eq_true c46
          clear c46
          have c47b0 := eq_true (of_decide_eq_true (by assumption) : x7_1 ≤ (t101.length : Int))
          obtain ⟨y122,hy122⟩ : ∃ y_ : List (S122),y_ = (t101.drop (x7_1 : Int).toNat) := ⟨_,rfl⟩
          replace H : ((xz.f k1 t101 y122).bind fun t126 => (if t126 = true then (if x7_1 > 0 then ((xz.f k1 (t101.drop (x7_1 : Int).toNat) t101).bind fun t131 => (if t131 = true then (none) else (qqj.l0 k1 l0 t101 (wrap64 (x7_1 + 1))))) else (qqj.l0 k1 l0 t101 (wrap64 (x7_1 + 1)))) else (none))) = some r := by first | (rw [hy122];with_reducible exact H) | (have H2_ := (Option.bind_some _ _).symm.trans H;rw [hy122];with_reducible exact H2_) | (have H2_ := (Option.bind_some _ _).symm.trans H;with_reducible exact H2_) | with_reducible exact H | (rw [hy122];exact H) | exact H
          have Ny122 := qq.mk hy122
          clear hy122
          replace H := Option.bind_eq_some_iff.mp H
          obtain ⟨t126,A480,H⟩ := H
          replace H : (if t126 = true then (if x7_1 > 0 then ((xz.f k1 (t101.drop (x7_1 : Int).toNat) t101).bind fun t131 => (if t131 = true then (none) else (qqj.l0 k1 l0 t101 (wrap64 (x7_1 + 1))))) else (qqj.l0 k1 l0 t101 (wrap64 (x7_1 + 1)))) else (none)) = some r := H
          have A48 := qq.mk A480
          clear A480
          by_cases c49 : t126 = true
          ·subst c49
           have H1 : (if x7_1 > 0 then ((xz.f k1 (t101.drop (x7_1 : Int).toNat) t101).bind fun t131 => (if t131 = true then (none) else (qqj.l0 k1 l0 t101 (wrap64 (x7_1 + 1))))) else (qqj.l0 k1 l0 t101 (wrap64 (x7_1 + 1)))) = some r := by rw [if_pos rfl] at H;exact H
           clear H
           have H := H1
           clear H1
           by_cases c50 : x7_1 > 0
           ·rw [if_pos c50] at H
            have c50b0 : decide (0 < x7_1) = true := decide_eq_true c50
            clear c50
            have c51b0 := eq_true (of_decide_eq_true (by assumption) : 0 ≤ x7_1)
            have c52b0 := eq_true (of_decide_eq_true (by assumption) : x7_1 ≤ (t101.length : Int))
            obtain ⟨y127,hy127⟩ : ∃ y_ : List (S122),y_ = (t101.drop (x7_1 : Int).toNat) := ⟨_,rfl⟩
            replace H : ((xz.f k1 y127 t101).bind fun t131 => (if t131 = true then (none) else (qqj.l0 k1 l0 t101 (wrap64 (x7_1 + 1))))) = some r := by first | (rw [hy127];with_reducible exact H) | (have H2_ := (Option.bind_some _ _).symm.trans H;rw [hy127];with_reducible exact H2_) | (have H2_ := (Option.bind_some _ _).symm.trans H;with_reducible exact H2_) | with_reducible exact H | (rw [hy127];exact H) | exact H
            have Ny127 := qq.mk hy127
            clear hy127
            replace H := Option.bind_eq_some_iff.mp H
            obtain ⟨t131,A530,H⟩ := H
            replace H : (if t131 = true then (none) else (qqj.l0 k1 l0 t101 (wrap64 (x7_1 + 1)))) = some r := H
            have A53 := qq.mk A530
            clear A530
            by_cases c54 : t131 = true
            ·subst c54
             have H1 : (none) = some r := by rw [if_pos rfl] at H;exact H
             clear H
             have H := H1
             clear H1
             exact absurd H (by simp)
            ·replace c54 := Bool.eq_false_iff.mpr c54
             subst c54
             have H1 : (qqj.l0 k1 l0 t101 (wrap64 (x7_1 + 1))) = some r := by rw [if_neg (show ¬ (false = true) by decide)] at H;exact H
             clear H
             have H := H1
             clear H1
             have H' := qq.mk H
             clear H
             have q55 : (x7_1 : Int) ≤ ((t101.length : Int) : Int) := of_decide_eq_true (by assumption)
             obtain ⟨i055,hi055,_,hsz55,_⟩ := info_parts info122
             have hroom55 : t101.length ≤ co40 := (Kd.R_reads' HO_3.out).2.1
             have hC55 : Kd.C k122 _ Ao40 t101.length t101 := (Kd.R_reads' HO_3.out).2.2
             have q055 : (0 : Int) ≤ (x7_1 : Int) := of_decide_eq_true (by assumption)
             have hcut55 := cut_from (P := Try.prog) 62 122 .i64 Try.underlying62 hi055 2 hsz55 Ao40 t101.length co40 x7_1 q055 q55
             have hr55 := Kd.C_drop (m := (x7_1 : Int).toNat) (c := co40) hC55 (by omega) hroom55
             obtain ⟨A55,hA55⟩ : ∃ A1,A1 = (if co40 = (x7_1 : Int).toNat then Ao40 else (Ao40 : Option Addr).map (·.add ((x7_1 : Int).toNat * 2))) := ⟨_,rfl⟩
             obtain ⟨c55,hc55⟩ : ∃ c1,c1 = co40 - (x7_1 : Int).toNat := ⟨_,rfl⟩
             have hy55 : y122.length = t101.length - (x7_1 : Int).toNat := (by rw [Ny122.out,List.length_drop] <;> omega)
             rw [show (t101).drop (x7_1 : Int).toNat = y122 from Ny122.out.symm] at hr55
             replace hr55 : Kd.C k122 _ A55 y122.length y122 := (by rw [hA55];exact hr55)
             rw [← hy55,← hA55,← hc55] at hcut55
             have HR125 := qq.mk hr55
             have HC125 := qq.mk (show y122.length ≤ c55 from by rw [hy55,hc55];exact Nat.sub_le_sub_right hroom55 _)
             clear hr55 hC55 hroom55 hi055 hsz55 hc55
             have KY55 := qq.mk hy55
             have KA55 := qq.mk hA55
             clear hy55 hA55
             have KL55 := qq.mk (show (x7_1 : Int).toNat ≤ t101.length from by omega)
             replace q55 := eq_true q55
             go_wp2_with (first | ((with_reducible refine kz (f := 46) rfl ?_);refine goesL_ (some 49) rfl rfl Try.func46 (by kernel_rfl) rfl #[.slice Ao40 t101.length co40,.slice A55 y122.length c55] rfl (by (try simp only [List.map_toArray,List.map_cons,List.map_nil]);first | done | rfl | (simp only [List.length_drop,List.length_take];rfl)) ?_;(with_reducible refine (xz.calls k1 _ _ t101 _ _ y122 true _ ?side1 ?side2 ?side3 ?side4 A48.out).mono ?_);(case side1 => repeat (first | exact (Kd.R_reads' HO_3.out).2.2 | (with_reducible refine Kd.C_alloc ?_ _) | (with_reducible refine Kd.C_drewN ?_ _) | (with_reducible refine Kd.C_drew ?_)));(case side2 => exact (Kd.R_reads' HO_3.out).2.1);(case side3 => repeat (first | exact (by repeat (first | (with_reducible exact HR125.out) | (with_reducible refine Kd.C_alloc ?_ _) | (with_reducible refine Kd.C_drewN ?_ _) | (with_reducible refine Kd.C_drew ?_) | exact HR125.out)) | (with_reducible refine Kd.C_alloc ?_ _) | (with_reducible refine Kd.C_drewN ?_ _) | (with_reducible refine Kd.C_drew ?_)));(case side4 => exact HC125.out);rintro e w56 ⟨rfl,hb⟩;refine ⟨_,rfl,?_⟩;have n0_ := qq.mk (Kd.R_below (by (with_reducible repeat (first | apply Kd.jq | apply Kd.zx | apply Kd.jz));exact HO_3.out) hb);have n1_ := qq.mk (Kd.C_below (by repeat (first | (with_reducible exact HR125.out) | (with_reducible refine Kd.C_alloc ?_ _) | (with_reducible refine Kd.C_drewN ?_ _) | (with_reducible refine Kd.C_drew ?_) | exact HR125.out)) hb);have n2_ := qq.mk (zv (by repeat (first | (with_reducible first | exact HB.out | apply qj | apply qz | apply qk) | exact HB.out)) hb);clear HO_3;clear HR125;clear HB;have HO_3 := n0_;have HR125 := n1_;have HB := n2_;clear n0_ n1_ n2_;(try clear hb);(try clear hb2);(try clear hk);(try clear hi);have q57 : (x7_1 : Int) ≤ ((t101.length : Int) : Int) := of_decide_eq_true (by assumption);obtain ⟨i057,hi057,_,hsz57,_⟩ := info_parts info122;have hroom57 : t101.length ≤ co40 := (Kd.R_reads' HO_3.out).2.1;have hC57 : Kd.C k122 _ Ao40 t101.length t101 := (Kd.R_reads' HO_3.out).2.2;have q057 : (0 : Int) ≤ (x7_1 : Int) := of_decide_eq_true (by assumption);have hcut57 := cut_from (P := Try.prog) 62 122 .i64 Try.underlying62 hi057 2 hsz57 Ao40 t101.length co40 x7_1 q057 q57;have hr57 := Kd.C_drop (m := (x7_1 : Int).toNat) (c := co40) hC57 (by omega) hroom57;obtain ⟨A57,hA57⟩ : ∃ A1,A1 = (if co40 = (x7_1 : Int).toNat then Ao40 else (Ao40 : Option Addr).map (·.add ((x7_1 : Int).toNat * 2))) := ⟨_,rfl⟩;obtain ⟨c57,hc57⟩ : ∃ c1,c1 = co40 - (x7_1 : Int).toNat := ⟨_,rfl⟩;have hy57 : y127.length = t101.length - (x7_1 : Int).toNat := (by rw [Ny127.out,List.length_drop] <;> omega);rw [show (t101).drop (x7_1 : Int).toNat = y127 from Ny127.out.symm] at hr57;replace hr57 : Kd.C k122 _ A57 y127.length y127 := (by rw [hA57];exact hr57);rw [← hy57,← hA57,← hc57] at hcut57;have HR130 := qq.mk hr57;have HC130 := qq.mk (show y127.length ≤ c57 from by rw [hy57,hc57];exact Nat.sub_le_sub_right hroom57 _);clear hr57 hC57 hroom57 hi057 hsz57 hc57;have KY57 := qq.mk hy57;have KA57 := qq.mk hA57;clear hy57 hA57;have KL57 := qq.mk (show (x7_1 : Int).toNat ≤ t101.length from by omega);replace q57 := eq_true q57) | (go_at_call 46;(with_reducible refine (xz.calls k1 _ _ y122 _ _ t101 false _ ?side1 ?side2 ?side3 ?side4 (by rw [Ny122.out,← Ny127.out];exact A53.out)).mono ?_);(case side1 => repeat (first | exact (by repeat (first | (with_reducible exact HR125.out) | (with_reducible refine Kd.C_alloc ?_ _) | (with_reducible refine Kd.C_drewN ?_ _) | (with_reducible refine Kd.C_drew ?_) | exact HR125.out)) | (with_reducible refine Kd.C_alloc ?_ _) | (with_reducible refine Kd.C_drewN ?_ _) | (with_reducible refine Kd.C_drew ?_)));(case side2 => exact HC125.out);(case side3 => repeat (first | exact (Kd.R_reads' HO_3.out).2.2 | (with_reducible refine Kd.C_alloc ?_ _) | (with_reducible refine Kd.C_drewN ?_ _) | (with_reducible refine Kd.C_drew ?_)));(case side4 => exact (Kd.R_reads' HO_3.out).2.1);rintro e w58 ⟨rfl,hb⟩;have n0_ := qq.mk (Kd.R_below (by (with_reducible repeat (first | apply Kd.jq | apply Kd.zx | apply Kd.jz));exact HO_3.out) hb);have n1_ := qq.mk (Kd.C_below (by repeat (first | (with_reducible exact HR125.out) | (with_reducible refine Kd.C_alloc ?_ _) | (with_reducible refine Kd.C_drewN ?_ _) | (with_reducible refine Kd.C_drew ?_) | exact HR125.out)) hb);have n2_ := qq.mk (Kd.C_below (by repeat (first | (with_reducible exact HR130.out) | (with_reducible refine Kd.C_alloc ?_ _) | (with_reducible refine Kd.C_drewN ?_ _) | (with_reducible refine Kd.C_drew ?_) | exact HR130.out)) hb);have n3_ := qq.mk (zv (by repeat (first | (with_reducible first | exact HB.out | apply qj | apply qz | apply qk) | exact HB.out)) hb);clear HO_3;clear HR125;clear HR130;clear HB;have HO_3 := n0_;have HR125 := n1_;have HR130 := n2_;have HB := n3_;clear n0_ n1_ n2_ n3_;(try clear hb);(try clear hb2);(try clear hk);(try clear hi)))
             go_roundg k1
             case measure => have := HK1.out;omega
             case rel => exact ⟨(wrap64 (x7_1 + 1)),(by first | rfl | (simp;done) | (simp [*];done) | (generalize ByteArray.toList _ = l_;cases l_ <;> first | rfl | (simp;done))),H',⟨by have := HK1.out;omega⟩,⟨by (with_reducible repeat (first | apply Kd.jq | apply Kd.zx | apply Kd.jz));exact HO_3.out⟩,⟨by repeat (first | (with_reducible first | exact HB.out | apply qj | apply qz | apply qk) | exact HB.out)⟩⟩
           ·rw [if_neg c50] at H
            have c50b0 : decide (0 < x7_1) = false := decide_eq_false c50
            clear c50
            have H' := qq.mk H
            clear H
            have q59 : (x7_1 : Int) ≤ ((t101.length : Int) : Int) := of_decide_eq_true (by assumption)
            obtain ⟨i059,hi059,_,hsz59,_⟩ := info_parts info122
            have hroom59 : t101.length ≤ co40 := (Kd.R_reads' HO_3.out).2.1
            have hC59 : Kd.C k122 _ Ao40 t101.length t101 := (Kd.R_reads' HO_3.out).2.2
            have q059 : (0 : Int) ≤ (x7_1 : Int) := of_decide_eq_true (by assumption)
            have hcut59 := cut_from (P := Try.prog) 62 122 .i64 Try.underlying62 hi059 2 hsz59 Ao40 t101.length co40 x7_1 q059 q59
            have hr59 := Kd.C_drop (m := (x7_1 : Int).toNat) (c := co40) hC59 (by omega) hroom59
            obtain ⟨A59,hA59⟩ : ∃ A1,A1 = (if co40 = (x7_1 : Int).toNat then Ao40 else (Ao40 : Option Addr).map (·.add ((x7_1 : Int).toNat * 2))) := ⟨_,rfl⟩
            obtain ⟨c59,hc59⟩ : ∃ c1,c1 = co40 - (x7_1 : Int).toNat := ⟨_,rfl⟩
            have hy59 : y122.length = t101.length - (x7_1 : Int).toNat := (by rw [Ny122.out,List.length_drop] <;> omega)
            rw [show (t101).drop (x7_1 : Int).toNat = y122 from Ny122.out.symm] at hr59
            replace hr59 : Kd.C k122 _ A59 y122.length y122 := (by rw [hA59];exact hr59)
            rw [← hy59,← hA59,← hc59] at hcut59
            have HR125 := qq.mk hr59
            have HC125 := qq.mk (show y122.length ≤ c59 from by rw [hy59,hc59];exact Nat.sub_le_sub_right hroom59 _)
            clear hr59 hC59 hroom59 hi059 hsz59 hc59
            have KY59 := qq.mk hy59
            have KA59 := qq.mk hA59
            clear hy59 hA59
            have KL59 := qq.mk (show (x7_1 : Int).toNat ≤ t101.length from by omega)
            replace q59 := eq_true q59
            go_wp2_with (first | ((with_reducible refine kz (f := 46) rfl ?_);refine goesL_ (some 49) rfl rfl Try.func46 (by kernel_rfl) rfl #[.slice Ao40 t101.length co40,.slice A59 y122.length c59] rfl (by (try simp only [List.map_toArray,List.map_cons,List.map_nil]);first | done | rfl | (simp only [List.length_drop,List.length_take];rfl)) ?_;(with_reducible refine (xz.calls k1 _ _ t101 _ _ y122 true _ ?side1 ?side2 ?side3 ?side4 A48.out).mono ?_);(case side1 => repeat (first | exact (Kd.R_reads' HO_3.out).2.2 | (with_reducible refine Kd.C_alloc ?_ _) | (with_reducible refine Kd.C_drewN ?_ _) | (with_reducible refine Kd.C_drew ?_)));(case side2 => exact (Kd.R_reads' HO_3.out).2.1);(case side3 => repeat (first | exact (by repeat (first | (with_reducible exact HR125.out) | (with_reducible refine Kd.C_alloc ?_ _) | (with_reducible refine Kd.C_drewN ?_ _) | (with_reducible refine Kd.C_drew ?_) | exact HR125.out)) | (with_reducible refine Kd.C_alloc ?_ _) | (with_reducible refine Kd.C_drewN ?_ _) | (with_reducible refine Kd.C_drew ?_)));(case side4 => exact HC125.out);rintro e w60 ⟨rfl,hb⟩;refine ⟨_,rfl,?_⟩;have n0_ := qq.mk (Kd.R_below (by (with_reducible repeat (first | apply Kd.jq | apply Kd.zx | apply Kd.jz));exact HO_3.out) hb);have n1_ := qq.mk (Kd.C_below (by repeat (first | (with_reducible exact HR125.out) | (with_reducible refine Kd.C_alloc ?_ _) | (with_reducible refine Kd.C_drewN ?_ _) | (with_reducible refine Kd.C_drew ?_) | exact HR125.out)) hb);have n2_ := qq.mk (zv (by repeat (first | (with_reducible first | exact HB.out | apply qj | apply qz | apply qk) | exact HB.out)) hb);clear HO_3;clear HR125;clear HB;have HO_3 := n0_;have HR125 := n1_;have HB := n2_;clear n0_ n1_ n2_;(try clear hb);(try clear hb2);(try clear hk);(try clear hi)))
            go_roundg k1
            case measure => have := HK1.out;omega
            case rel => exact ⟨(wrap64 (x7_1 + 1)),(by first | rfl | (simp;done) | (simp [*];done) | (generalize ByteArray.toList _ = l_;cases l_ <;> first | rfl | (simp;done))),H',⟨by have := HK1.out;omega⟩,⟨by (with_reducible repeat (first | apply Kd.jq | apply Kd.zx | apply Kd.jz));exact HO_3.out⟩,⟨by repeat (first | (with_reducible first | exact HB.out | apply qj | apply qz | apply qk) | exact HB.out)⟩⟩
          ·replace c49 := Bool.eq_false_iff.mpr c49
           subst c49
           have H1 : (none) = some r := by rw [if_neg (show ¬ (false = true) by decide)] at H;exact H
           clear H
           have H := H1
           clear H1
           exact absurd H (by simp)
         ·rw [if_neg c46] at H
          exact absurd H (by simp)
        ·rw [if_neg c45] at H
         have c45b0 : decide (x7_1 ≤ (t101.length : Int)) = false := decide_eq_false c45
         clear c45
         replace H := Option.bind_eq_some_iff.mp H
         obtain ⟨t132,A610,H⟩ := H
         replace H : ((wx.f k1 t132).bind fun bt133 => ((qzj.f k1 t132).bind fun bt137 => (if (bt133.2 == bt137.2) = true then ((qqk.f k1 bt133.1 bt137.1).bind fun t141 => (if t141 = true then (if bt133.2 = true then ((wv.f k1 bt133.1).bind fun t142 => (some (t142.toList == t132.toList))) else (some true)) else (none))) else (none)))) = some r := H
         have A61 := qq.mk A610
         clear A610
         replace H := Option.bind_eq_some_iff.mp H
         obtain ⟨⟨t133,t134⟩,A620,H⟩ := H
         replace H : ((qzj.f k1 t132).bind fun bt137 => (if (t134 == bt137.2) = true then ((qqk.f k1 t133 bt137.1).bind fun t141 => (if t141 = true then (if t134 = true then ((wv.f k1 t133).bind fun t142 => (some (t142.toList == t132.toList))) else (some true)) else (none))) else (none))) = some r := H
         have A62 := qq.mk A620
         clear A620
         replace H := Option.bind_eq_some_iff.mp H
         obtain ⟨⟨t137,t138⟩,A630,H⟩ := H
         replace H : (if (t134 == t138) = true then ((qqk.f k1 t133 t137).bind fun t141 => (if t141 = true then (if t134 = true then ((wv.f k1 t133).bind fun t142 => (some (t142.toList == t132.toList))) else (some true)) else (none))) else (none)) = some r := H
         have A63 := qq.mk A630
         clear A630
         by_cases c64 : (t134 == t138) = true
         ·rw [if_pos c64] at H
          have c64b0 : (t134 == t138) = true := c64
          (try (have c64b1 : decide (t134 = t138) = true := by simpa using c64))
          (try (have c64b2 : (t134 == t138) = true := by simpa using c64))
          clear c64
          replace H := Option.bind_eq_some_iff.mp H
          obtain ⟨t141,A650,H⟩ := H
          replace H : (if t141 = true then (if t134 = true then ((wv.f k1 t133).bind fun t142 => (some (t142.toList == t132.toList))) else (some true)) else (none)) = some r := H
          have A65 := qq.mk A650
          clear A650
          by_cases c66 : t141 = true
          ·subst c66
           have H1 : (if t134 = true then ((wv.f k1 t133).bind fun t142 => (some (t142.toList == t132.toList))) else (some true)) = some r := by rw [if_pos rfl] at H;exact H
           clear H
           have H := H1
           clear H1
           by_cases c67 : t134 = true
           ·subst c67
            have H1 : ((wv.f k1 t133).bind fun t142 => (some (t142.toList == t132.toList))) = some r := by rw [if_pos rfl] at H;exact H
            clear H
            have H := H1
            clear H1
            replace H := Option.bind_eq_some_iff.mp H
            obtain ⟨t142,A680,H⟩ := H
            replace H : (some (t142.toList == t132.toList)) = some r := H
            have A68 := qq.mk A680
            clear A680
            obtain rfl := Option.some.inj H
            go_wp2_with (first | ((with_reducible refine kz (f := 47) rfl ?_);refine goesL_ (some 63) rfl rfl Try.func47 (by kernel_rfl) rfl #[.slice A0 l0.length c0] rfl (by (try simp only [List.map_toArray,List.map_cons,List.map_nil]);first | done | rfl | (simp only [List.length_drop,List.length_take];rfl)) ?_;(with_reducible refine (qqw.calls k1 _ _ l0 t132 _ ?side1 ?side2 A61.out).mono ?_);(case side1 => repeat (first | exact (Kd.C_below HR0.out HB.out) | (with_reducible refine Kd.C_alloc ?_ _) | (with_reducible refine Kd.C_drewN ?_ _) | (with_reducible refine Kd.C_drew ?_)));(case side2 => exact HC0.out);rintro e w69 ⟨rfl,hb⟩;refine ⟨_,rfl,?_⟩;have n0_ := qq.mk (Kd.R_below (by (with_reducible repeat (first | apply Kd.jq | apply Kd.zx | apply Kd.jz));exact HO_3.out) hb);have n1_ := qq.mk (zv (by repeat (first | (with_reducible first | exact HB.out | apply qj | apply qz | apply qk) | exact HB.out)) hb);clear HO_3;clear HB;have HO_3 := n0_;have HB := n1_;clear n0_ n1_;(try clear hb);(try clear hb2);(try clear hk);(try clear hi)) | ((with_reducible refine kz (f := 44) rfl ?_);refine goesL_ (some 66) rfl rfl Try.func44 (by kernel_rfl) rfl #[.string t132] rfl (by (try simp only [List.map_toArray,List.map_cons,List.map_nil]);first | done | rfl | (simp only [List.length_drop,List.length_take];rfl)) ?_;(with_reducible refine (wx.calls k1 t132 t133 true _ A62.out).mono ?_);rintro e w70 ⟨v135,rfl,ho0,hb⟩;refine ⟨_,rfl,?_⟩;have n0_ := qq.mk (Kd.R_elder' (by (with_reducible repeat (first | apply Kd.jq | apply Kd.zx | apply Kd.jz));exact HO_3.out) (Kd.R_base ho0) hb);have n1_ := qq.mk (Kd.R_lower (Kd.R_new' ho0 (Kd.R_lt (by (with_reducible repeat (first | apply Kd.jq | apply Kd.zx | apply Kd.jz));exact HO_3.out))) (zw (by repeat (first | (with_reducible first | exact HB.out | apply qj | apply qz | apply qk) | exact HB.out))));have n2_ := qq.mk (zv (by repeat (first | (with_reducible first | exact HB.out | apply qj | apply qz | apply qk) | exact HB.out)) hb);clear HO_3;clear HB;have HO_3 := n0_;have HO136 := n1_;have HB := n2_;clear n0_ n1_ n2_;(try clear hb);(try clear hb2);(try clear hk);(try clear hi);(try clear ho0)) | ((with_reducible refine kz (f := 48) rfl ?_);refine goesL_ (some 71) rfl rfl Try.func48 (by kernel_rfl) rfl #[.string t132] rfl (by (try simp only [List.map_toArray,List.map_cons,List.map_nil]);first | done | rfl | (simp only [List.length_drop,List.length_take];rfl)) ?_;(with_reducible refine (qzj.calls k1 t132 t137 t138 _ A63.out).mono ?_);rintro e w71 ⟨v139,rfl,ho0,hb⟩;refine ⟨_,rfl,?_⟩;have n0_ := qq.mk (Kd.R_elder' (by (with_reducible repeat (first | apply Kd.jq | apply Kd.zx | apply Kd.jz));exact HO_3.out) (Kd.R_base ho0) hb);have n1_ := qq.mk (Kd.R_elder' (by (with_reducible repeat (first | apply Kd.jq | apply Kd.zx | apply Kd.jz));exact HO136.out) (Kd.R_base ho0) hb);have n2_ := qq.mk (Kd.R_lower (Kd.R_new' (Kd.R_new' ho0 (Kd.R_lt (by (with_reducible repeat (first | apply Kd.jq | apply Kd.zx | apply Kd.jz));exact HO_3.out))) (Kd.R_lt (by (with_reducible repeat (first | apply Kd.jq | apply Kd.zx | apply Kd.jz));exact HO136.out))) (zw (by repeat (first | (with_reducible first | exact HB.out | apply qj | apply qz | apply qk) | exact HB.out))));have n3_ := qq.mk (zv (by repeat (first | (with_reducible first | exact HB.out | apply qj | apply qz | apply qk) | exact HB.out)) hb);clear HO_3;clear HO136;clear HB;have HO_3 := n0_;have HO136 := n1_;have HO140 := n2_;have HB := n3_;clear n0_ n1_ n2_ n3_;(try clear hb);(try clear hb2);(try clear hk);(try clear hi);(try clear ho0);obtain ⟨Ao72,co72,eo72⟩ := Kd.R_slice HO136.out;subst eo72;obtain ⟨Ao73,co73,eo73⟩ := Kd.R_slice HO140.out;subst eo73) | (go_at_call 45;(with_reducible refine (qqk.calls k1 _ _ t133 _ _ t137 true _ ?side1 ?side2 ?side3 ?side4 A65.out).mono ?_);(case side1 => repeat (first | exact (Kd.R_reads' HO136.out).2.2 | (with_reducible refine Kd.C_alloc ?_ _) | (with_reducible refine Kd.C_drewN ?_ _) | (with_reducible refine Kd.C_drew ?_)));(case side2 => exact (Kd.R_reads' HO136.out).2.1);(case side3 => repeat (first | exact (Kd.R_reads' HO140.out).2.2 | (with_reducible refine Kd.C_alloc ?_ _) | (with_reducible refine Kd.C_drewN ?_ _) | (with_reducible refine Kd.C_drew ?_)));(case side4 => exact (Kd.R_reads' HO140.out).2.1);rintro e w' ⟨rfl,⟨nd,rfl⟩⟩) | (go_at_call 42;(with_reducible refine (wv.calls k1 _ _ t133 t142 _ ?side1 ?side2 A68.out).mono ?_);(case side1 => repeat (first | exact (Kd.R_reads' HO136.out).2.2 | (with_reducible refine Kd.C_alloc ?_ _) | (with_reducible refine Kd.C_drewN ?_ _) | (with_reducible refine Kd.C_drew ?_)));(case side2 => exact (Kd.R_reads' HO136.out).2.1);rintro e w74 ⟨rfl,hb⟩;have n0_ := qq.mk (Kd.R_below (by (with_reducible repeat (first | apply Kd.jq | apply Kd.zx | apply Kd.jz));exact HO_3.out) hb);have n1_ := qq.mk (Kd.R_below (by (with_reducible repeat (first | apply Kd.jq | apply Kd.zx | apply Kd.jz));exact HO136.out) hb);have n2_ := qq.mk (Kd.R_below (by (with_reducible repeat (first | apply Kd.jq | apply Kd.zx | apply Kd.jz));exact HO140.out) hb);have n3_ := qq.mk (zv (by repeat (first | (with_reducible first | exact HB.out | apply qj | apply qz | apply qk) | exact HB.out)) hb);clear HO_3;clear HO136;clear HO140;clear HB;have HO_3 := n0_;have HO136 := n1_;have HO140 := n2_;have HB := n3_;clear n0_ n1_ n2_ n3_;(try clear hb);(try clear hb2);(try clear hk);(try clear hi)))
            go_ret
            exact ⟨by first | rfl | (simp [*,jx,jw] <;> rfl),by repeat (first | (with_reducible first | exact HB.out | apply qj | apply qz | apply qk) | exact HB.out)⟩
           ·replace c67 := Bool.eq_false_iff.mpr c67
            subst c67
            have H1 : (some true) = some r := by rw [if_neg (show ¬ (false = true) by decide)] at H;exact H
            clear H
            have H := H1
            clear H1
            obtain rfl := Option.some.inj H
            go_wp2_with (first | ((with_reducible refine kz (f := 47) rfl ?_);refine goesL_ (some 63) rfl rfl Try.func47 (by kernel_rfl) rfl #[.slice A0 l0.length c0] rfl (by (try simp only [List.map_toArray,List.map_cons,List.map_nil]);first | done | rfl | (simp only [List.length_drop,List.length_take];rfl)) ?_;(with_reducible refine (qqw.calls k1 _ _ l0 t132 _ ?side1 ?side2 A61.out).mono ?_);(case side1 => repeat (first | exact (Kd.C_below HR0.out HB.out) | (with_reducible refine Kd.C_alloc ?_ _) | (with_reducible refine Kd.C_drewN ?_ _) | (with_reducible refine Kd.C_drew ?_)));(case side2 => exact HC0.out);rintro e w75 ⟨rfl,hb⟩;refine ⟨_,rfl,?_⟩;have n0_ := qq.mk (Kd.R_below (by (with_reducible repeat (first | apply Kd.jq | apply Kd.zx | apply Kd.jz));exact HO_3.out) hb);have n1_ := qq.mk (zv (by repeat (first | (with_reducible first | exact HB.out | apply qj | apply qz | apply qk) | exact HB.out)) hb);clear HO_3;clear HB;have HO_3 := n0_;have HB := n1_;clear n0_ n1_;(try clear hb);(try clear hb2);(try clear hk);(try clear hi)) | ((with_reducible refine kz (f := 44) rfl ?_);refine goesL_ (some 66) rfl rfl Try.func44 (by kernel_rfl) rfl #[.string t132] rfl (by (try simp only [List.map_toArray,List.map_cons,List.map_nil]);first | done | rfl | (simp only [List.length_drop,List.length_take];rfl)) ?_;(with_reducible refine (wx.calls k1 t132 t133 false _ A62.out).mono ?_);rintro e w76 ⟨v135,rfl,ho0,hb⟩;refine ⟨_,rfl,?_⟩;have n0_ := qq.mk (Kd.R_elder' (by (with_reducible repeat (first | apply Kd.jq | apply Kd.zx | apply Kd.jz));exact HO_3.out) (Kd.R_base ho0) hb);have n1_ := qq.mk (Kd.R_lower (Kd.R_new' ho0 (Kd.R_lt (by (with_reducible repeat (first | apply Kd.jq | apply Kd.zx | apply Kd.jz));exact HO_3.out))) (zw (by repeat (first | (with_reducible first | exact HB.out | apply qj | apply qz | apply qk) | exact HB.out))));have n2_ := qq.mk (zv (by repeat (first | (with_reducible first | exact HB.out | apply qj | apply qz | apply qk) | exact HB.out)) hb);clear HO_3;clear HB;have HO_3 := n0_;have HO136 := n1_;have HB := n2_;clear n0_ n1_ n2_;(try clear hb);(try clear hb2);(try clear hk);(try clear hi);(try clear ho0)) | ((with_reducible refine kz (f := 48) rfl ?_);refine goesL_ (some 71) rfl rfl Try.func48 (by kernel_rfl) rfl #[.string t132] rfl (by (try simp only [List.map_toArray,List.map_cons,List.map_nil]);first | done | rfl | (simp only [List.length_drop,List.length_take];rfl)) ?_;(with_reducible refine (qzj.calls k1 t132 t137 t138 _ A63.out).mono ?_);rintro e w77 ⟨v139,rfl,ho0,hb⟩;refine ⟨_,rfl,?_⟩;have n0_ := qq.mk (Kd.R_elder' (by (with_reducible repeat (first | apply Kd.jq | apply Kd.zx | apply Kd.jz));exact HO_3.out) (Kd.R_base ho0) hb);have n1_ := qq.mk (Kd.R_elder' (by (with_reducible repeat (first | apply Kd.jq | apply Kd.zx | apply Kd.jz));exact HO136.out) (Kd.R_base ho0) hb);have n2_ := qq.mk (Kd.R_lower (Kd.R_new' (Kd.R_new' ho0 (Kd.R_lt (by (with_reducible repeat (first | apply Kd.jq | apply Kd.zx | apply Kd.jz));exact HO_3.out))) (Kd.R_lt (by (with_reducible repeat (first | apply Kd.jq | apply Kd.zx | apply Kd.jz));exact HO136.out))) (zw (by repeat (first | (with_reducible first | exact HB.out | apply qj | apply qz | apply qk) | exact HB.out))));have n3_ := qq.mk (zv (by repeat (first | (with_reducible first | exact HB.out | apply qj | apply qz | apply qk) | exact HB.out)) hb);clear HO_3;clear HO136;clear HB;have HO_3 := n0_;have HO136 := n1_;have HO140 := n2_;have HB := n3_;clear n0_ n1_ n2_ n3_;(try clear hb);(try clear hb2);(try clear hk);(try clear hi);(try clear ho0);obtain ⟨Ao78,co78,eo78⟩ := Kd.R_slice HO136.out;subst eo78;obtain ⟨Ao79,co79,eo79⟩ := Kd.R_slice HO140.out;subst eo79) | (go_at_call 45;(with_reducible refine (qqk.calls k1 _ _ t133 _ _ t137 true _ ?side1 ?side2 ?side3 ?side4 A65.out).mono ?_);(case side1 => repeat (first | exact (Kd.R_reads' HO136.out).2.2 | (with_reducible refine Kd.C_alloc ?_ _) | (with_reducible refine Kd.C_drewN ?_ _) | (with_reducible refine Kd.C_drew ?_)));(case side2 => exact (Kd.R_reads' HO136.out).2.1);(case side3 => repeat (first | exact (Kd.R_reads' HO140.out).2.2 | (with_reducible refine Kd.C_alloc ?_ _) | (with_reducible refine Kd.C_drewN ?_ _) | (with_reducible refine Kd.C_drew ?_)));(case side4 => exact (Kd.R_reads' HO140.out).2.1);rintro e w' ⟨rfl,⟨nd,rfl⟩⟩))
            go_ret
            exact ⟨by first | rfl | (simp [*,jx,jw] <;> rfl),by repeat (first | (with_reducible first | exact HB.out | apply qj | apply qz | apply qk) | exact HB.out)⟩
          ·replace c66 := Bool.eq_false_iff.mpr c66
           subst c66
           have H1 : (none) = some r := by rw [if_neg (show ¬ (false = true) by decide)] at H;exact H
           clear H
           have H := H1
           clear H1
           exact absurd H (by simp)
         ·rw [if_neg c64] at H
          exact absurd H (by simp)
     ·replace c38 := Bool.eq_false_iff.mpr c38
      subst c38
      have H1 : (none) = some r := by rw [if_neg (show ¬ (false = true) by decide)] at H;exact H
      clear H
      have H := H1
      clear H1
      exact absurd H (by simp)
    ·replace c36 := Bool.eq_false_iff.mpr c36
     subst c36
     have H1 : (none) = some r := by rw [if_neg (show ¬ (false = true) by decide)] at H;exact H
     clear H
     have H := H1
     clear H1
     exact absurd H (by simp)
  ·rw [if_neg c6] at H
   exact absurd H (by simp)
end Go.Proofs.Ytccbjchlcelkgaa.Pr
namespace Go.Proofs.Ytccbjchlcelkgaa.Pr
open Go.RowKit Go.Proofs.Ytccbjchlcelkgaa.Read Go.Proofs.YtccbjchlcelkgaaW.PrintWords
set_option linter.unusedVariables false
def qqj.Pure : Prop := ∀ (l0 : (List Int)),(okL okB) l0 → ∃ k,qqj.f k l0 = some true
end Go.Proofs.Ytccbjchlcelkgaa.Pr
namespace Go.Proofs.Ytccbjchlcelkgaa.Pr
open Go.RowKit Go.Proofs.Ytccbjchlcelkgaa.Read Go.Proofs.YtccbjchlcelkgaaW.PrintWords
theorem w64 {n : Int} (h0 : -9223372036854775808 ≤ n) (h1 : n ≤ 9223372036854775807) : wrap64 n = n := by unfold wrap64;omega
end Go.Proofs.Ytccbjchlcelkgaa.Pr
namespace Go.Proofs.Ytccbjchlcelkgaa.Pr
open Go.RowKit Go.Proofs.Ytccbjchlcelkgaa.Read Go.Proofs.YtccbjchlcelkgaaW.PrintWords
def prtN (s : ByteArray) : Nat → Bool
 | 0 => true
 | d + 1 => if bt s ((s.size - (d + 1) : Nat) : Int) < 32 then false else if bt s ((s.size - (d + 1) : Nat) : Int) > 126 then false else prtN s d
def prt (s : ByteArray) : Bool := prtN s s.size
theorem l1Printed_l0 (s : ByteArray) (hs : s.size ≤ 9223372036854775807) (d : Nat) : ∀ (k i : Nat),s.size - i = d → i ≤ s.size → d < k → qjw.l0 k s i = some (prtN s d) := by
 induction d with
 | zero =>
  intro k i hd hi hk
  obtain ⟨k,rfl⟩ : ∃ m,k = m + 1 := ⟨k - 1,by omega⟩
  simp only [qjw.l0]
  rw [if_neg (by omega)];rfl
 | succ d ih =>
  intro k i hd hi hk
  obtain ⟨k,rfl⟩ : ∃ m,k = m + 1 := ⟨k - 1,by omega⟩
  have e0 : s.size - (d + 1) = i := by omega
  simp only [qjw.l0,prtN,e0]
  rw [if_pos (by omega),if_pos (by omega),w64 (by omega) (by omega),show ((i : Int) + 1) = ((i + 1 : Nat) : Int) from rfl,ih k (i + 1) (by omega) (by omega) (by omega)]
  split
  ·rfl
  ·split <;> rfl
theorem l1Printed_eq (s : ByteArray) (hs : s.size ≤ 9223372036854775807) (k : Nat) (hk : s.size < k) : qjw.f k s = some (prt s) :=
 l1Printed_l0 s hs s.size k 0 (by omega) (by omega) hk
theorem yprinted_l0 (s : ByteArray) (hs : s.size ≤ 9223372036854775807) (d : Nat) : ∀ (k i : Nat),s.size - i = d → i ≤ s.size → d < k → qqq.l0 k s (s.size : Int) i = some (prtN s d) := by
 induction d with
 | zero =>
  intro k i hd hi hk
  obtain ⟨k,rfl⟩ : ∃ m,k = m + 1 := ⟨k - 1,by omega⟩
  simp only [qqq.l0]
  rw [if_neg (by omega)];rfl
 | succ d ih =>
  intro k i hd hi hk
  obtain ⟨k,rfl⟩ : ∃ m,k = m + 1 := ⟨k - 1,by omega⟩
  have e0 : s.size - (d + 1) = i := by omega
  simp only [qqq.l0,prtN,e0]
  rw [if_pos (by omega),if_pos (by omega),if_pos (by omega),w64 (by omega) (by omega),show ((i : Int) + 1) = ((i + 1 : Nat) : Int) from rfl,ih k (i + 1) (by omega) (by omega) (by omega)]
  split
  ·rfl
  ·split <;> rfl
theorem yprinted_eq (s : ByteArray) (lo hi : Int) (hs : s.size ≤ 9223372036854775807) (k : Nat) (hk : s.size + 1 < k) : qqq.f k s lo hi = some (decide (lo ≤ s.size) && decide ((s.size : Int) ≤ hi) && prt s) := by
 obtain ⟨k,rfl⟩ : ∃ m,k = m + 1 := ⟨k - 1,by omega⟩
 unfold qqq.f
 have e := yprinted_l0 s hs s.size k 0 (by omega) (by omega) (by omega)
 by_cases h1 : (s.size : Int) < lo
 ·rw [if_pos h1]
  simp only [qqq.j0,if_true]
  simp;omega
 ·rw [if_neg h1]
  have h1' : decide (lo ≤ (s.size : Int)) = true := decide_eq_true (by omega)
  by_cases h2 : (s.size : Int) ≤ hi
  ·have h2' : decide ((s.size : Int) > hi) = false := decide_eq_false (by omega)
   have h2'' : decide ((s.size : Int) ≤ hi) = true := decide_eq_true h2
   rw [h1',h2',h2'']
   simp only [qqq.j0,Bool.false_eq_true,if_false,Bool.true_and]
   exact e
  ·have h2' : decide ((s.size : Int) > hi) = true := decide_eq_true (by omega)
   have h2'' : decide ((s.size : Int) ≤ hi) = false := decide_eq_false h2
   rw [h1',h2',h2'']
   simp [qqq.j0]
end Go.Proofs.Ytccbjchlcelkgaa.Pr
namespace Go.Proofs.Ytccbjchlcelkgaa.Pr
open Go.RowKit Go.Proofs.Ytccbjchlcelkgaa.Read Go.Proofs.YtccbjchlcelkgaaW.PrintWords
def nletC (c : Int) : Bool := decide (97 ≤ c ∧ c ≤ 122 ∨ 65 ≤ c ∧ c ≤ 90)
def ndigC (c : Int) : Bool := decide (48 ≤ c ∧ c ≤ 57)
theorem nsletter_eq (c : Int) : qjv.f c = some (nletC c) := by
 unfold qjv.f nletC
 split
 ·split
  ·congr 1;symm;rw [decide_eq_true_eq];omega
  ·split
   ·congr 1;rw [decide_eq_decide];omega
   ·congr 1;symm;rw [decide_eq_false_iff_not];omega
 ·split
  ·congr 1;rw [decide_eq_decide];omega
  ·congr 1;symm;rw [decide_eq_false_iff_not];omega
theorem nsdigit_eq (c : Int) : qjk.f c = some (ndigC c) := by
 unfold qjk.f ndigC
 split
 ·congr 1;rw [decide_eq_decide];omega
 ·congr 1;symm;rw [decide_eq_false_iff_not];omega
theorem niletter_eq (c : Int) : xx.f c = some (nletC c) := by
 unfold xx.f nletC
 split
 ·split
  ·congr 1;symm;rw [decide_eq_true_eq];omega
  ·split
   ·congr 1;rw [decide_eq_decide];omega
   ·congr 1;symm;rw [decide_eq_false_iff_not];omega
 ·split
  ·congr 1;rw [decide_eq_decide];omega
  ·congr 1;symm;rw [decide_eq_false_iff_not];omega
theorem nidigit_eq (c : Int) : xk.f c = some (ndigC c) := by
 unfold xk.f ndigC
 split
 ·congr 1;rw [decide_eq_decide];omega
 ·congr 1;symm;rw [decide_eq_false_iff_not];omega
def nameC (c : Int) : Bool := if nletC c = true then true else if ndigC c = true then true else if c = 95 then true else false
def nameN (s : ByteArray) : Nat → Bool
 | 0 => true
 | d + 1 => if nameC (bt s ((s.size - (d + 1) : Nat) : Int)) = true then nameN s d else false
theorem sName_l0 (s : ByteArray) (hs : s.size ≤ 9223372036854775807) (d : Nat) : ∀ (k i : Nat),s.size - i = d → i ≤ s.size → d < k → qzq.l0 k s i = some (nameN s d) := by
 induction d with
 | zero =>
  intro k i hd hi hk
  obtain ⟨k,rfl⟩ : ∃ m,k = m + 1 := ⟨k - 1,by omega⟩
  simp only [qzq.l0]
  rw [if_neg (by omega)]
  rfl
 | succ d ih =>
  intro k i hd hi hk
  obtain ⟨k,rfl⟩ : ∃ m,k = m + 1 := ⟨k - 1,by omega⟩
  have e0 : s.size - (d + 1) = i := by omega
  simp only [qzq.l0,nameN,e0,nsletter_eq,nsdigit_eq,Option.bind_some]
  rw [if_pos (by omega),if_pos (by omega),w64 (by omega) (by omega),show ((i : Int) + 1) = ((i + 1 : Nat) : Int) from rfl,ih k (i + 1) (by omega) (by omega) (by omega)]
  unfold nameC
  split
  ·simp only [if_true]
  ·split
   ·simp only [if_true]
   ·split <;> simp only [if_true,Bool.false_eq_true,if_false]
theorem iName_l0 (s : ByteArray) (hs : s.size ≤ 9223372036854775807) (d : Nat) : ∀ (k i : Nat),s.size - i = d → i ≤ s.size → d < k → wj.l0 k s (s.size : Int) i = some (nameN s d) := by
 induction d with
 | zero =>
  intro k i hd hi hk
  obtain ⟨k,rfl⟩ : ∃ m,k = m + 1 := ⟨k - 1,by omega⟩
  simp only [wj.l0]
  rw [if_neg (by omega)]
  rfl
 | succ d ih =>
  intro k i hd hi hk
  obtain ⟨k,rfl⟩ : ∃ m,k = m + 1 := ⟨k - 1,by omega⟩
  have e0 : s.size - (d + 1) = i := by omega
  simp only [wj.l0,nameN,e0,qqz.f,niletter_eq,nidigit_eq,Option.bind_some]
  rw [if_pos (by omega),if_pos (by omega),if_pos (by omega),w64 (by omega) (by omega),show ((i : Int) + 1) = ((i + 1 : Nat) : Int) from rfl,ih k (i + 1) (by omega) (by omega) (by omega)]
  unfold nameC
  by_cases h1 : nletC (bt s (i : Int)) = true
  ·simp only [h1,if_true,Option.bind_some]
  ·simp only [h1,Bool.false_eq_true,if_false]
   by_cases h2 : ndigC (bt s (i : Int)) = true
   ·simp only [h2,if_true,Option.bind_some]
   ·simp only [h2,Bool.false_eq_true,if_false,Option.bind_some,beq_iff_eq]
    by_cases h3 : bt s (i : Int) = 95
    ·simp only [h3,if_true]
    ·simp only [h3,if_false,Bool.false_eq_true]
def goodName (s : ByteArray) : Bool := if 1 ≤ s.size ∧ s.size ≤ 30 then (if ndigC (bt s 0) = true then false else nameN s s.size) else false
theorem name_size {s : ByteArray} (h : goodName s = true) : 1 ≤ s.size ∧ s.size ≤ 30 := by
 unfold goodName at h
 by_cases h1 : 1 ≤ s.size ∧ s.size ≤ 30
 ·exact h1
 ·rw [if_neg h1] at h;cases h
theorem list_nil_size {s : ByteArray} : s.toList = ([] : List UInt8) ↔ s.size = 0 := by
 rw [ByteArray.toList_eq]
 constructor
 ·intro h
  have := congrArg List.length h
  rwa [data_length] at this
 ·intro h
  exact List.eq_nil_of_length_eq_zero (by rw [data_length];exact h)
theorem specName_ev (s : ByteArray) (hs : s.size ≤ 9223372036854775807) : Ev (fun k => qzq.f k s) (goodName s) := by
 refine ⟨s.size + 3,fun k hk => ?_⟩
 obtain ⟨k,rfl⟩ : ∃ m,k = m + 1 := ⟨k - 1,by omega⟩
 show qzq.f (k + 1) s = _
 simp only [qzq.f,qzq.j0,if_true,goodName]
 by_cases h1 : (s.size : Int) < 1
 ·rw [if_pos h1,if_neg (show ¬ (1 ≤ s.size ∧ s.size ≤ 30) by omega)]
 by_cases h2 : (s.size : Int) > 30
 ·rw [if_neg h1,if_pos h2,if_neg (show ¬ (1 ≤ s.size ∧ s.size ≤ 30) by omega)]
 rw [if_neg h1,if_neg h2,if_pos (show 1 ≤ s.size ∧ s.size ≤ 30 by omega),if_pos (by omega),nsdigit_eq,Option.bind_some]
 by_cases h3 : ndigC (bt s 0) = true
 ·rw [if_pos h3,if_pos h3]
 ·rw [if_neg h3,if_neg h3]
  exact sName_l0 s hs s.size k 0 (by omega) (by omega) (by omega)
theorem implName_ev (s : ByteArray) (hs : s.size ≤ 9223372036854775807) : Ev (fun k => wj.f k s) (goodName s) := by
 refine ⟨s.size + 3,fun k hk => ?_⟩
 obtain ⟨k,rfl⟩ : ∃ m,k = m + 1 := ⟨k - 1,by omega⟩
 show wj.f (k + 1) s = _
 simp only [wj.f,wj.j0,if_true,goodName]
 by_cases h1 : s.size = 0
 ·rw [if_pos (list_nil_size.2 h1),if_neg (show ¬ (1 ≤ s.size ∧ s.size ≤ 30) by omega)]
 by_cases h2 : (s.size : Int) > 30
 ·rw [if_neg (fun e => h1 (list_nil_size.1 e)),if_pos h2,if_neg (show ¬ (1 ≤ s.size ∧ s.size ≤ 30) by omega)]
 rw [if_neg (fun e => h1 (list_nil_size.1 e)),if_neg h2,if_pos (show 1 ≤ s.size ∧ s.size ≤ 30 by omega),if_pos (by omega),nidigit_eq,Option.bind_some]
 by_cases h3 : ndigC (bt s 0) = true
 ·rw [if_pos h3,if_pos h3]
 ·rw [if_neg h3,if_neg h3]
  exact iName_l0 s hs s.size k 0 (by omega) (by omega) (by omega)
end Go.Proofs.Ytccbjchlcelkgaa.Pr
namespace Go.Proofs.Ytccbjchlcelkgaa.Pr
open Go.RowKit Go.Proofs.Ytccbjchlcelkgaa.Read Go.Proofs.YtccbjchlcelkgaaW.PrintWords
set_option linter.unusedVariables false
set_option linter.unusedSimpArgs false
abbrev PtT := S122
theorem Ev.upP {α : Type} {g : Nat → Option α} {r : α} (h : Ev (fun k => g (k + 1)) r) : Ev g r := by
 obtain ⟨n,h⟩ := h
 refine ⟨n + 1,fun k hk => ?_⟩
 obtain ⟨k,rfl⟩ : ∃ m,k = m + 1 := ⟨k - 1,by omega⟩
 exact h k (by omega)
theorem data_ext {a b : ByteArray} (h : a.data.toList = b.data.toList) : a = b := by
 cases a;cases b;congr 1;exact Array.toList_inj.1 h
theorem bt_cons (s : ByteArray) {i : Nat} (h : i < s.size) : ∃ b : UInt8,s.data.toList.drop i = b :: s.data.toList.drop (i + 1) ∧ bt s (i : Int) = (b.toNat : Int) := by
 have h1 : i < s.data.toList.length := by rw [data_length];exact h
 refine ⟨s.data.toList[i],List.drop_eq_getElem_cons h1,?_⟩
 rw [← bt_at s (i : Int) (by rw [Int.toNat_natCast];exact h)]
 rfl
theorem byte_eq {b c : UInt8} : ((b.toNat : Int) = (c.toNat : Int)) ↔ b = c := by
 constructor
 ·intro h;exact UInt8.toNat_inj.1 (by omega)
 ·intro h;rw [h]
theorem strOf_bytes (l : List UInt8) : strOfNums (l.map fun b => (b.toNat : Int)) = ⟨l.toArray⟩ := by
 unfold strOfNums
 rw [List.map_map]
 congr 2
 conv => rhs;rw [← List.map_id l]
 congr 1
 funext b
 show UInt8.ofNat ((b.toNat : Int)).toNat = b
 rw [Int.toNat_natCast]
 exact UInt8.ofNat_toNat
theorem arr_size (l : List UInt8) : (⟨l.toArray⟩ : ByteArray).size = l.length := by
 show l.toArray.size = l.length
 simp
def goodP (p : PtT) : Bool := if goodName p.f0 = true then (decide ((1 : Int) ≤ (p.f1.size : Int)) && decide ((p.f1.size : Int) ≤ 60) && prt p.f1) else false
def goodN (l : List PtT) : Bool := l.all goodP && decide ((l.length : Int) ≤ 8)
def okPt (x : PtT) : Prop := x.f0.size ≤ 100000 ∧ x.f1.size ≤ 100000
def okP (l : List PtT) : Prop := l.length ≤ 100000 ∧ ∀ x ∈ l,okPt x
theorem goodN_drop {l : List PtT} (h : goodN l = true) (i : Nat) : goodN (l.drop i) = true := by
 unfold goodN at *
 rw [Bool.and_eq_true,List.all_eq_true,decide_eq_true_eq] at *
 exact ⟨fun x hx => h.1 x (List.mem_of_mem_drop hx),by rw [List.length_drop];omega⟩
theorem any_ev {α : Type} (p : Nat → α → Option Bool) (q : α → Bool) : ∀ l : List α,(∀ x ∈ l,Ev (fun k => p k x) (q x)) → Ev (fun k => anyO (p k) l) (l.any q)
 | [],_ => Ev.now _
 | x :: l,h => by
  refine Ev.bind (h x List.mem_cons_self) ?_
  rw [List.any_cons]
  cases q x with
  | true => simp only [if_true,Bool.true_or];exact Ev.now _
  | false =>
   simp only [Bool.false_eq_true,if_false,Bool.false_or]
   exact any_ev p q l (fun y hy => h y (List.mem_cons_of_mem _ hy))
theorem goodPart_ev (x : PtT) (hx : okPt x) : Ev (fun k => xw.f k x.f0 x.f1 60) (goodP x) := by
 have h1 := hx.1
 have h2 := hx.2
 simp only [xw.f]
 refine Ev.bind (implName_ev x.f0 (by omega)) ?_
 unfold goodP
 by_cases h : goodName x.f0 = true
 ·simp only [if_pos h]
  exact Ev.bind ⟨x.f1.size + 2,fun k hk => yprinted_eq x.f1 1 60 (by omega) k (by omega)⟩ (Ev.now _)
 ·simp only [if_neg h];exact Ev.now _
theorem implDirName_ev (l : List PtT) (hl : okP l) : Ev (fun k => wq.f k l) (goodN l) := by
 simp only [wq.f]
 unfold goodN
 by_cases h : (l.length : Int) ≤ 8
 ·simp only [if_pos h]
  have e : (l.all goodP && decide ((l.length : Int) ≤ 8)) = !(l.any fun x => !goodP x) := by
   rw [decide_eq_true h,Bool.and_true,List.not_any_eq_all_not]
   simp only [Bool.not_not]
  rw [e]
  refine Ev.bind (a := l.any fun x => !goodP x) ?_ (Ev.now _)
  refine any_ev (fun k (x : PtT) => wz.f k x.f0 x.f1) (fun x => !goodP x) l (fun x hx => ?_)
  simp only [wz.f]
  exact Ev.bind (goodPart_ev x (hl.2 x hx)) (Ev.now _)
 ·simp only [if_neg h,decide_eq_false h,Bool.and_false]
  exact Ev.now _
theorem rdP_nat {l : List PtT} {i : Nat} (h : i < l.length) : vz l (i : Int) = l[i] := by
 show l.getD ((i : Int)).toNat _ = _
 rw [Int.toNat_natCast,List.getD_eq_getElem?_getD,List.getElem?_eq_getElem h,Option.getD_some]
theorem specDir_l0 (l : List PtT) (hl : okP l) (d : Nat) : ∀ i : Nat,i + d = l.length → Ev (fun k => qqx.l0 k l l (l.length : Int) (i : Int)) ((l.drop i).all goodP && decide ((l.length : Int) ≤ 8)) := by
 induction d with
 | zero =>
  intro i hi
  obtain rfl : i = l.length := by omega
  refine Ev.upP ?_
  simp only [qqx.l0,if_neg (Int.lt_irrefl _),List.drop_length,List.all_nil,Bool.true_and]
  exact Ev.now _
 | succ d ih =>
  intro i hi
  have hn := hl.1
  have hlt : i < l.length := by omega
  have e2 : wrap64 ((i : Int) + 1) = ((i + 1 : Nat) : Int) := by rw [w64 (by omega) (by omega)];rfl
  have hx := hl.2 _ (List.getElem_mem hlt)
  have h1 := hx.1
  have h2 := hx.2
  rw [List.drop_eq_getElem_cons hlt,List.all_cons]
  refine Ev.upP ?_
  simp only [qqx.l0,if_pos (show (i : Int) < (l.length : Int) by omega),if_pos (Int.natCast_nonneg i),rdP_nat hlt,e2]
  refine Ev.bind (specName_ev l[i].f0 (by omega)) ?_
  unfold goodP
  by_cases h : goodName l[i].f0 = true
  ·simp only [if_pos h]
   by_cases c1 : (l[i].f1.size : Int) < 1
   ·simp only [if_pos c1,decide_eq_false (show ¬ (1 : Int) ≤ (l[i].f1.size : Int) by omega),Bool.false_and];exact Ev.now _
   ·by_cases c2 : (l[i].f1.size : Int) > 60
    ·simp only [if_neg c1,if_pos c2,decide_eq_false (show ¬ (l[i].f1.size : Int) ≤ 60 by omega),Bool.false_and,Bool.and_false];exact Ev.now _
    ·simp only [if_neg c1,if_neg c2,decide_eq_true (show (1 : Int) ≤ (l[i].f1.size : Int) by omega),decide_eq_true (show (l[i].f1.size : Int) ≤ 60 by omega),Bool.true_and]
     refine Ev.bind ⟨l[i].f1.size + 1,fun k hk => l1Printed_eq l[i].f1 (by omega) k (by omega)⟩ ?_
     cases prt l[i].f1 with
     | true => simp only [if_true,Bool.true_and];exact ih (i + 1) (by omega)
     | false => simp only [Bool.false_eq_true,if_false,Bool.false_and];exact Ev.now _
  ·simp only [if_neg h,Bool.false_and];exact Ev.now _
theorem specDirName_ev (l : List PtT) (hl : okP l) : Ev (fun k => qqx.f k l) (goodN l) := by
 simp only [qqx.f]
 exact specDir_l0 l hl l.length 0 (by omega)
theorem goodP_sizes {x : PtT} (h : goodP x = true) : 1 ≤ x.f0.size ∧ x.f0.size ≤ 30 ∧ 1 ≤ x.f1.size ∧ x.f1.size ≤ 60 := by
 unfold goodP at h
 by_cases h0 : goodName x.f0 = true
 ·rw [if_pos h0,Bool.and_eq_true,Bool.and_eq_true,decide_eq_true_eq,decide_eq_true_eq] at h
  have := name_size h0
  omega
 ·rw [if_neg h0] at h;cases h
def comSet : List UInt8 := [44,92]
def escB (s : ByteArray) : ByteArray := ⟨(escL comSet s.data.toList).toArray⟩
theorem escB_size (s : ByteArray) : (escB s).size ≤ 2 * s.size := by
 unfold escB
 rw [arr_size,← data_length s]
 exact escL_len _ _
theorem escU_com (b : UInt8) : escU comSet b = if b = 44 ∨ b = 92 then [92,b] else [b] := by
 unfold escU comSet
 have e : (0 : Int) ≤ Lib.indexByte [44,92] b ↔ (b = 44 ∨ b = 92) := by
  simp only [Lib.indexByte]
  by_cases h1 : b = 44
  ·subst h1;decide
  ·by_cases h2 : b = 92
   ·subst h2;decide
   ·have g1 : ¬ ((44 : UInt8) = b) := fun e => h1 e.symm
    have g2 : ¬ ((92 : UInt8) = b) := fun e => h2 e.symm
    simp [h1,h2,g1,g2]
 by_cases h : b = 44 ∨ b = 92
 ·rw [if_pos (e.2 h),if_pos h]
 ·rw [if_neg (fun g => h (e.1 g)),if_neg h]
def intsU (l : List UInt8) : List Int := l.map fun b => (b.toNat : Int)
theorem specEsc_l0 (s : ByteArray) (hs : s.size ≤ 1000000) (d : Nat) : ∀ i : Nat,i + d = s.size → ∀ acc : List UInt8,acc.length ≤ 2 * i → Ev (fun k => qjx.l0 k s (⟨#[44,92]⟩ : ByteArray) (intsU acc) (i : Int)) ⟨(acc ++ escL comSet (s.data.toList.drop i)).toArray⟩ := by
 induction d with
 | zero =>
  intro i hi acc ha
  obtain rfl : i = s.size := by omega
  refine Ev.upP ?_
  have e : s.data.toList.drop s.size = [] := List.drop_of_length_le (by rw [data_length];exact Nat.le_refl _)
  simp only [qjx.l0,if_neg (Int.lt_irrefl _),e,intsU,strOf_bytes,escL,List.flatMap_nil,List.append_nil]
  exact Ev.now _
 | succ d ih =>
  intro i hi acc ha
  have hlt : i < s.size := by omega
  obtain ⟨b,hd,hb⟩ := bt_cons s hlt
  have e2 : wrap64 ((i : Int) + 1) = ((i + 1 : Nat) : Int) := by rw [w64 (by omega) (by omega)];rfl
  have e0 : wrap64 (0 + 1) = 1 := w64 (by decide) (by decide)
  have e1 : wrap64 (1 + 1) = 2 := w64 (by decide) (by decide)
  have t0 : bt (⟨#[44,92]⟩ : ByteArray) 0 = ((44 : UInt8).toNat : Int) := rfl
  have t1 : bt (⟨#[44,92]⟩ : ByteArray) 1 = ((92 : UInt8).toNat : Int) := rfl
  have z2 : ((⟨#[44,92]⟩ : ByteArray).size : Int) = 2 := rfl
  have ia : ∀ m : List UInt8,(intsU m).length = m.length := fun m => List.length_map _
  have hr : escL comSet (b :: s.data.toList.drop (i + 1)) = escU comSet b ++ escL comSet (s.data.toList.drop (i + 1)) := rfl
  rw [hd,hr,← List.append_assoc]
  have sn : ∀ (m : List UInt8) (c : UInt8),intsU m ++ [(c.toNat : Int)] = intsU (m ++ [c]) := fun m c => by simp [intsU]
  have s92 : ∀ (m : List UInt8),intsU m ++ [(92 : Int)] = intsU (m ++ [92]) := fun m => by simp [intsU]
  refine Ev.upP ?_
  simp only [qjx.l0,if_pos (show (i : Int) < (s.size : Int) by omega)]
  rw [escU_com]
  by_cases h44 : b = 44
  ·have h92 : ¬ b = 92 := by rw [h44];decide
   have c1 : ((b.toNat : Int) = ((44 : UInt8).toNat : Int)) := byte_eq.2 h44
   have c2 : ¬ ((b.toNat : Int) = ((92 : UInt8).toNat : Int)) := fun e => h92 (byte_eq.1 e)
   refine Ev.upP ?_
   simp only [qjx.l1,z2,if_pos (show (0 : Int) < 2 by decide),if_pos (Int.natCast_nonneg i),if_pos (show (i : Int) < (s.size : Int) by omega),if_pos (show (0 : Int) ≤ 0 by decide),hb,t0,if_pos c1,ia,if_pos (show acc.length < 140737488355328 by omega),e0]
   refine Ev.upP ?_
   simp only [qjx.l1,z2,if_pos (show (1 : Int) < 2 by decide),if_pos (Int.natCast_nonneg i),if_pos (show (i : Int) < (s.size : Int) by omega),if_pos (show (0 : Int) ≤ 1 by decide),hb,t1,if_neg c2,e1]
   refine Ev.upP ?_
   simp only [qjx.l1,z2,if_neg (show ¬ (2 : Int) < 2 by decide),if_pos (Int.natCast_nonneg i),if_pos (show (i : Int) < (s.size : Int) by omega),hb,s92,sn,ia,List.length_append,List.length_singleton,if_pos (show acc.length + 1 < 140737488355328 by omega),e2]
   have := ih (i + 1) (by omega) (acc ++ [92] ++ [b]) (by simp;omega)
   rw [if_pos (Or.inl h44)]
   simpa only [List.append_assoc,List.cons_append,List.nil_append] using this
  ·have c1 : ¬ ((b.toNat : Int) = ((44 : UInt8).toNat : Int)) := fun e => h44 (byte_eq.1 e)
   refine Ev.upP ?_
   simp only [qjx.l1,z2,if_pos (show (0 : Int) < 2 by decide),if_pos (Int.natCast_nonneg i),if_pos (show (i : Int) < (s.size : Int) by omega),if_pos (show (0 : Int) ≤ 0 by decide),hb,t0,if_neg c1,e0]
   by_cases h92 : b = 92
   ·have c2 : ((b.toNat : Int) = ((92 : UInt8).toNat : Int)) := byte_eq.2 h92
    refine Ev.upP ?_
    simp only [qjx.l1,z2,if_pos (show (1 : Int) < 2 by decide),if_pos (Int.natCast_nonneg i),if_pos (show (i : Int) < (s.size : Int) by omega),if_pos (show (0 : Int) ≤ 1 by decide),hb,t1,if_pos c2,ia,if_pos (show acc.length < 140737488355328 by omega),e1]
    refine Ev.upP ?_
    simp only [qjx.l1,z2,if_neg (show ¬ (2 : Int) < 2 by decide),if_pos (Int.natCast_nonneg i),if_pos (show (i : Int) < (s.size : Int) by omega),hb,s92,sn,ia,List.length_append,List.length_singleton,if_pos (show acc.length + 1 < 140737488355328 by omega),e2]
    have := ih (i + 1) (by omega) (acc ++ [92] ++ [b]) (by simp;omega)
    rw [if_pos (Or.inr h92)]
    simpa only [List.append_assoc,List.cons_append,List.nil_append] using this
   ·have c2 : ¬ ((b.toNat : Int) = ((92 : UInt8).toNat : Int)) := fun e => h92 (byte_eq.1 e)
    refine Ev.upP ?_
    simp only [qjx.l1,z2,if_pos (show (1 : Int) < 2 by decide),if_pos (Int.natCast_nonneg i),if_pos (show (i : Int) < (s.size : Int) by omega),if_pos (show (0 : Int) ≤ 1 by decide),hb,t1,if_neg c2,e1]
    refine Ev.upP ?_
    simp only [qjx.l1,z2,if_neg (show ¬ (2 : Int) < 2 by decide),if_pos (Int.natCast_nonneg i),if_pos (show (i : Int) < (s.size : Int) by omega),hb,sn,ia,if_pos (show acc.length < 140737488355328 by omega),e2]
    have := ih (i + 1) (by omega) (acc ++ [b]) (by simp;omega)
    rw [if_neg (fun e => e.elim h44 h92)]
    exact this
theorem specEsc_ev (s : ByteArray) (hs : s.size ≤ 1000000) : Ev (fun k => qjx.f k s (⟨#[44,92]⟩ : ByteArray)) (escB s) := by
 simp only [qjx.f]
 exact specEsc_l0 s hs s.size 0 (by omega) [] (by simp)
theorem implEsc_eq (s : ByteArray) (hs : s.size ≤ 1000000) : xv.f s (⟨#[44,92]⟩ : ByteArray) = some (escB s) := by
 unfold xv.f
 rw [if_pos hs]
 rfl
def partB (p : PtT) : ByteArray := (p.f0 ++ (⟨#[61]⟩ : ByteArray)) ++ escB p.f1
theorem partB_size (p : PtT) : (partB p).size ≤ p.f0.size + 1 + 2 * p.f1.size := by
 unfold partB
 rw [ByteArray.size_append,ByteArray.size_append]
 have := escB_size p.f1
 have e : (⟨#[61]⟩ : ByteArray).size = 1 := rfl
 omega
def nameT (l : List PtT) : ByteArray := ⟨(joinL [44] (l.map partB)).toArray⟩
def nameTxt (l : List PtT) : ByteArray := if goodN l = true then nameT l else ⟨#[]⟩
theorem joinL_snoc (sep : List UInt8) (l : List ByteArray) (y : ByteArray) (h : l ≠ []) : joinL sep (l ++ [y]) = joinL sep l ++ (sep ++ y.data.toList) := by
 cases l with
 | nil => exact absurd rfl h
 | cons x xs =>
  simp only [List.cons_append,joinL,List.flatMap_append,List.flatMap_cons,List.flatMap_nil,List.append_nil,List.append_assoc]
theorem joinL_len (l : List ByteArray) (B : Nat) (h : ∀ x ∈ l,x.size ≤ B) : (joinL [44] l).length ≤ l.length * (B + 1) := by
 cases l with
 | nil => simp [joinL]
 | cons x xs =>
  have h1 : ∀ m : List ByteArray,(∀ x ∈ m,x.size ≤ B) → (m.flatMap (fun y => [44] ++ y.data.toList)).length ≤ m.length * (B + 1) := by
   intro m
   induction m with
   | nil => intro _;simp
   | cons y m ih =>
    intro hm
    have := ih (fun z hz => hm z (List.mem_cons_of_mem _ hz))
    have hy := hm y List.mem_cons_self
    rw [List.flatMap_cons,List.length_append,List.length_append,data_length,show (y :: m).length = m.length + 1 from rfl,Nat.succ_mul,show ([44] : List UInt8).length = 1 from rfl]
    omega
  have h2 := h1 xs (fun z hz => h z (List.mem_cons_of_mem _ hz))
  have h3 := h x List.mem_cons_self
  simp only [joinL]
  rw [List.length_append,data_length,show (x :: xs).length = xs.length + 1 from rfl,Nat.succ_mul]
  omega
theorem nameT_size {l : List PtT} (h : goodN l = true) : (nameT l).size ≤ 1216 := by
 unfold goodN at h
 rw [Bool.and_eq_true,List.all_eq_true,decide_eq_true_eq] at h
 unfold nameT
 rw [arr_size]
 have := joinL_len (l.map partB) 151 (fun x hx => by
  obtain ⟨p,hp,rfl⟩ := List.mem_map.1 hx
  have h1 := partB_size p
  have h2 := goodP_sizes (h.1 p hp)
  omega)
 rw [List.length_map] at this
 omega
theorem implText_l0 (l : List PtT) (hg : goodN l = true) (d : Nat) : ∀ i : Nat,i + d = l.length → Ev (fun k => wv.l0 k ((l.take i).map partB) l (l.length : Int) (i : Int)) (nameT l) := by
 have hg0 := hg
 unfold goodN at hg
 rw [Bool.and_eq_true,List.all_eq_true,decide_eq_true_eq] at hg
 induction d with
 | zero =>
  intro i hi
  obtain rfl : i = l.length := by omega
  refine Ev.upP ?_
  have hj : qkj.f (l.map partB) (⟨#[44]⟩ : ByteArray) = some (nameT l) := by
   unfold qkj.f
   rw [if_pos]
   ·rfl
   ·refine ⟨by rw [List.length_map];omega,by decide,by decide,fun x hx => ?_⟩
    obtain ⟨p,hp,rfl⟩ := List.mem_map.1 hx
    have h1 := partB_size p
    have h2 := goodP_sizes (hg.1 p hp)
    omega
  simp only [wv.l0,if_neg (Int.lt_irrefl _),List.take_length,hj,Option.bind_some]
  exact Ev.now _
 | succ d ih =>
  intro i hi
  have hlt : i < l.length := by omega
  have hx := goodP_sizes (hg.1 _ (List.getElem_mem hlt))
  have e2 : wrap64 ((i : Int) + 1) = ((i + 1 : Nat) : Int) := by rw [w64 (by omega) (by omega)];rfl
  have hs := escB_size l[i].f1
  have e1 : (⟨#[61]⟩ : ByteArray).size = 1 := rfl
  have ht : ((l.take i).map partB) ++ [(l[i].f0 ++ (⟨#[61]⟩ : ByteArray)) ++ escB l[i].f1] = (l.take (i + 1)).map partB := by
   rw [List.take_succ_eq_append_getElem hlt,List.map_append];rfl
  refine Ev.upP ?_
  simp only [wv.l0,if_pos (show (i : Int) < (l.length : Int) by omega),if_pos (Int.natCast_nonneg i),rdP_nat hlt,if_pos (show l[i].f0.size + 1 ≤ 9223372036854775807 by omega),implEsc_eq l[i].f1 (by omega),Option.bind_some,ByteArray.size_append,e1,if_pos (show l[i].f0.size + 1 + (escB l[i].f1).size ≤ 9223372036854775807 by omega),List.length_map,List.length_take,if_pos (show min i l.length < 8796093022208 by omega),ht,e2]
  exact ih (i + 1) (by omega)
theorem implText_ev (l : List PtT) (hl : okP l) : Ev (fun k => wv.f k l) (nameTxt l) := by
 simp only [wv.f]
 refine Ev.bind (implDirName_ev l hl) ?_
 unfold nameTxt
 by_cases h : goodN l = true
 ·simp only [if_pos h];exact implText_l0 l h l.length 0 (by omega)
 ·simp only [if_neg h];exact Ev.now _
theorem specText_l0 (l : List PtT) (hg : goodN l = true) (d : Nat) : ∀ i : Nat,i + d = l.length → Ev (fun k => qzz.l0 k (nameT (l.take i)) l (l.length : Int) (i : Int)) (nameT l) := by
 have hg0 := hg
 unfold goodN at hg
 rw [Bool.and_eq_true,List.all_eq_true,decide_eq_true_eq] at hg
 induction d with
 | zero =>
  intro i hi
  obtain rfl : i = l.length := by omega
  refine Ev.upP ?_
  simp only [qzz.l0,if_neg (Int.lt_irrefl _),List.take_length]
  exact Ev.now _
 | succ d ih =>
  intro i hi
  have hlt : i < l.length := by omega
  have hx := goodP_sizes (hg.1 _ (List.getElem_mem hlt))
  have e2 : wrap64 ((i : Int) + 1) = ((i + 1 : Nat) : Int) := by rw [w64 (by omega) (by omega)];rfl
  have hs := escB_size l[i].f1
  have e1 : (⟨#[61]⟩ : ByteArray).size = 1 := rfl
  have e4 : (⟨#[44]⟩ : ByteArray).size = 1 := rfl
  have hgt : goodN (l.take i) = true := by
   unfold goodN
   rw [Bool.and_eq_true,List.all_eq_true,decide_eq_true_eq]
   exact ⟨fun x hx => hg.1 x (List.mem_of_mem_take hx),by rw [List.length_take];omega⟩
  have hz := nameT_size hgt
  refine Ev.upP ?_
  have hn := ih (i + 1) (by omega)
  by_cases hi0 : i = 0
  ·subst hi0
   have ht : nameT (l.take 0) ++ ((l[0].f0 ++ (⟨#[61]⟩ : ByteArray)) ++ escB l[0].f1) = nameT (l.take (0 + 1)) := by
    rw [List.take_succ_eq_append_getElem hlt]
    apply data_ext
    rw [ByteArray.data_append,Array.toList_append]
    simp [nameT,joinL,partB]
   simp only [qzz.l0,if_pos (show ((0 : Nat) : Int) < (l.length : Int) by omega),if_pos (Int.natCast_nonneg 0),rdP_nat hlt,if_neg (show ¬ ((0 : Nat) : Int) > 0 by decide),if_pos (show l[0].f0.size + 1 ≤ 9223372036854775807 by omega)]
   refine Ev.bind (specEsc_ev l[0].f1 (by omega)) ?_
   simp only [ByteArray.size_append,e1,if_pos (show l[0].f0.size + 1 + (escB l[0].f1).size ≤ 9223372036854775807 by omega),if_pos (show (nameT (l.take 0)).size + (l[0].f0.size + 1 + (escB l[0].f1).size) ≤ 9223372036854775807 by omega),ht,e2]
   exact hn
  ·have ht : (nameT (l.take i) ++ (⟨#[44]⟩ : ByteArray)) ++ ((l[i].f0 ++ (⟨#[61]⟩ : ByteArray)) ++ escB l[i].f1) = nameT (l.take (i + 1)) := by
    rw [List.take_succ_eq_append_getElem hlt]
    apply data_ext
    rw [ByteArray.data_append,Array.toList_append,ByteArray.data_append,Array.toList_append]
    unfold nameT
    rw [List.map_append,List.map_cons,List.map_nil,joinL_snoc _ _ _ (by
     intro e
     have := congrArg List.length e
     rw [List.length_map,List.length_take,List.length_nil] at this
     omega)]
    simp only [List.append_assoc]
    rfl
   simp only [qzz.l0,if_pos (show (i : Int) < (l.length : Int) by omega),if_pos (Int.natCast_nonneg i),rdP_nat hlt,if_pos (show (i : Int) > 0 by omega),if_pos (show l[i].f0.size + 1 ≤ 9223372036854775807 by omega),if_pos (show (nameT (l.take i)).size + 1 ≤ 9223372036854775807 by omega)]
   refine Ev.bind (specEsc_ev l[i].f1 (by omega)) ?_
   simp only [ByteArray.size_append,e1,e4,if_pos (show l[i].f0.size + 1 + (escB l[i].f1).size ≤ 9223372036854775807 by omega),if_pos (show (nameT (l.take i)).size + 1 + (l[i].f0.size + 1 + (escB l[i].f1).size) ≤ 9223372036854775807 by omega),ht,e2]
   exact hn
theorem specText_ev (l : List PtT) (hl : okP l) : Ev (fun k => qzz.f k l) (nameTxt l) := by
 simp only [qzz.f]
 refine Ev.bind (specDirName_ev l hl) ?_
 unfold nameTxt
 by_cases h : goodN l = true
 ·simp only [if_pos h]
  have := specText_l0 l h l.length 0 (by omega)
  exact this
 ·simp only [if_neg h];exact Ev.now _
end Go.Proofs.Ytccbjchlcelkgaa.Pr
namespace Go.Proofs.Ytccbjchlcelkgaa.Pr
open Go.RowKit Go.Proofs.Ytccbjchlcelkgaa.Read Go.Proofs.YtccbjchlcelkgaaW.PrintWords
set_option linter.unusedVariables false
set_option linter.unusedSimpArgs false
inductive Md | at | tx | es
def mkP (a c : List UInt8) : PtT := ⟨⟨a.toArray⟩,⟨c.toArray⟩⟩
def pR (acc : List PtT) (m : Md) (a cur : List UInt8) : List UInt8 → Option (List PtT)
 | [] => match m with | .tx => some (acc ++ [mkP a cur]) | _ => none
 | b :: t => match m with
  | .at => if b = 61 then pR acc .tx cur [] t else pR acc .at [] (cur ++ [b]) t
  | .tx => if b = 44 then pR (acc ++ [mkP a cur]) .at [] [] t else if b = 92 then pR acc .es a cur t else pR acc .tx a (cur ++ [b]) t
  | .es => pR acc .tx a (cur ++ [b]) t
theorem pR_at (acc : List PtT) (t : List UInt8) : ∀ (w cur : List UInt8),(61 : UInt8) ∉ w → pR acc .at [] cur (w ++ 61 :: t) = pR acc .tx (cur ++ w) [] t
 | [],cur,_ => by rw [List.nil_append,List.append_nil];simp only [pR,if_true]
 | b :: w,cur,h => by
  have hb : ¬ b = 61 := fun e => h (by rw [e];exact List.mem_cons_self)
  rw [List.cons_append]
  simp only [pR,if_neg hb]
  rw [pR_at acc t w (cur ++ [b]) (fun e => h (List.mem_cons_of_mem _ e)),List.append_assoc]
  rfl
theorem pR_none (acc : List PtT) : ∀ (w cur : List UInt8),(61 : UInt8) ∉ w → pR acc .at [] cur w = none
 | [],cur,_ => rfl
 | b :: w,cur,h => by
  have hb : ¬ b = 61 := fun e => h (by rw [e];exact List.mem_cons_self)
  simp only [pR,if_neg hb]
  exact pR_none acc w (cur ++ [b]) (fun e => h (List.mem_cons_of_mem _ e))
theorem pR_esc (acc : List PtT) (a t : List UInt8) : ∀ (w cur : List UInt8),pR acc .tx a cur (escL comSet w ++ t) = pR acc .tx a (cur ++ w) t
 | [],cur => by simp [escL]
 | b :: w,cur => by
  have e : escL comSet (b :: w) = escU comSet b ++ escL comSet w := rfl
  rw [e,escU_com,List.append_assoc]
  have ih := pR_esc acc a t w (cur ++ [b])
  rw [List.append_assoc] at ih
  by_cases h : b = 44 ∨ b = 92
  ·rw [if_pos h]
   have h1 : ¬ (92 : UInt8) = 44 := by decide
   simp only [List.cons_append,List.nil_append,pR,if_neg h1,if_true]
   exact ih
  ·rw [if_neg h]
   simp only [List.cons_append,List.nil_append,pR,if_neg (fun e => h (Or.inl e)),if_neg (fun e => h (Or.inr e))]
   exact ih
theorem mkP_self (x : PtT) : mkP x.f0.data.toList x.f1.data.toList = x := by
 cases x with | mk a b => cases a;cases b;rfl
theorem partB_list (x : PtT) : (partB x).data.toList = x.f0.data.toList ++ 61 :: escL comSet x.f1.data.toList := by
 unfold partB escB
 rw [ByteArray.data_append,Array.toList_append,ByteArray.data_append,Array.toList_append,List.append_assoc]
 rfl
theorem pR_join : ∀ (xs : List PtT) (x : PtT) (acc : List PtT),(∀ y ∈ x :: xs,(61 : UInt8) ∉ y.f0.data.toList) → pR acc .at [] [] (joinL [44] ((x :: xs).map partB)) = some (acc ++ x :: xs)
 | [],x,acc,h => by
  have hx := h x List.mem_cons_self
  simp only [List.map_cons,List.map_nil,joinL,List.flatMap_nil]
  rw [partB_list,List.append_assoc,List.cons_append,pR_at _ _ _ _ hx,pR_esc]
  simp only [pR,List.nil_append,mkP_self]
 | y :: ys,x,acc,h => by
  have hx := h x List.mem_cons_self
  have ih := pR_join ys y (acc ++ [x]) (fun z hz => h z (List.mem_cons_of_mem _ hz))
  simp only [List.map_cons,joinL,List.flatMap_cons] at ih ⊢
  rw [partB_list,List.append_assoc,List.cons_append,pR_at _ _ _ _ hx,pR_esc]
  simp only [List.append_assoc,List.cons_append,List.nil_append,pR,if_true,mkP_self] at ih ⊢
  exact ih
theorem nameN_all (s : ByteArray) : ∀ d,d ≤ s.size → nameN s d = true → ∀ i,s.size - d ≤ i → i < s.size → nameC (bt s (i : Int)) = true
 | 0,_,_,i,h1,h2 => by omega
 | d + 1,hd,h,i,h1,h2 => by
  unfold nameN at h
  by_cases hc : nameC (bt s ((s.size - (d + 1) : Nat) : Int)) = true
  ·rw [if_pos hc] at h
   by_cases e : i = s.size - (d + 1)
   ·rw [e];exact hc
   ·exact nameN_all s d (by omega) h i (by omega) h2
  ·rw [if_neg hc] at h;cases h
theorem name_no61 {s : ByteArray} (h : goodName s = true) : (61 : UInt8) ∉ s.data.toList := by
 intro hm
 obtain ⟨i,hi,e⟩ := List.getElem_of_mem hm
 have his : i < s.size := by rw [← data_length];exact hi
 have hn : nameN s s.size = true := by
  unfold goodName at h
  rw [if_pos (name_size h)] at h
  by_cases hd : ndigC (bt s 0) = true
  ·rw [if_pos hd] at h;cases h
  ·rw [if_neg hd] at h;exact h
 have hc := nameN_all s s.size (Nat.le_refl _) hn i (by omega) his
 obtain ⟨b,hb1,hb2⟩ := bt_cons s his
 rw [List.drop_eq_getElem_cons hi,e] at hb1
 have : b = 61 := (List.cons.inj hb1).1.symm
 rw [hb2,this] at hc
 revert hc
 decide
theorem goodP_no61 {x : PtT} (h : goodP x = true) : (61 : UInt8) ∉ x.f0.data.toList := by
 unfold goodP at h
 by_cases h0 : goodName x.f0 = true
 ·exact name_no61 h0
 ·rw [if_neg h0] at h;cases h
def fin (s : ByteArray) : Option (List PtT) → List PtT × Bool
 | none => ([],false)
 | some y => if nameTxt y = s then (y,true) else ([],false)
def readM (s : ByteArray) : List PtT × Bool := if s.size = 0 then ([],true) else if 2000 < s.size then ([],false) else fin s (pR [] .at [] [] s.data.toList)
theorem readM_text {l : List PtT} (h : goodN l = true) (hl : l ≠ []) : readM (nameT l) = (l,true) := by
 have hz := nameT_size h
 have hg := h
 unfold goodN at hg
 rw [Bool.and_eq_true,List.all_eq_true] at hg
 cases l with
 | nil => exact absurd rfl hl
 | cons x xs =>
  have h0 : (nameT (x :: xs)).size ≠ 0 := by
   unfold nameT
   rw [arr_size]
   simp only [List.map_cons,joinL]
   rw [List.length_append,partB_list,List.length_append,List.length_cons]
   omega
  unfold readM
  rw [if_neg h0,if_neg (by omega)]
  have e : (nameT (x :: xs)).data.toList = joinL [44] ((x :: xs).map partB) := by unfold nameT;rfl
  rw [e,pR_join xs x [] (fun y hy => goodP_no61 (hg.1 y hy)),List.nil_append]
  show (if nameTxt (x :: xs) = nameT (x :: xs) then (x :: xs,true) else ([],false)) = _
  rw [if_pos]
  unfold nameTxt
  rw [if_pos h]
theorem same_bytes {a b : ByteArray} : a.toList = b.toList ↔ a = b := by
 constructor
 ·intro h;rw [ByteArray.toList_eq,ByteArray.toList_eq] at h;exact data_ext h
 ·intro h;rw [h]
theorem nil_bytes {a : ByteArray} : a.toList = ([] : List UInt8) ↔ a.size = 0 := list_nil_size
theorem byte_beq (b c : UInt8) : ((b.toNat : Int) == (c.toNat : Int)) = decide (b = c) := by
 by_cases h : b = c
 ·rw [h];simp
 ·rw [decide_eq_false h];exact beq_eq_false_iff_ne.2 (fun e => h (byte_eq.1 e))
def okA (acc : List PtT) (r : Nat) : Prop := acc.length + r ≤ 3000 ∧ ∀ x ∈ acc,okPt x
theorem okA_snoc {acc : List PtT} {r : Nat} (h : okA acc (r + 1)) {a cur : List UInt8} (ha : a.length ≤ 4000) (hc : cur.length ≤ 4000) : okA (acc ++ [mkP a cur]) r := by
 refine ⟨by have := h.1;rw [List.length_append,List.length_singleton];omega,fun x hx => ?_⟩
 rcases List.mem_append.1 hx with hx | hx
 ·exact h.2 x hx
 ·rw [List.mem_singleton.1 hx]
  constructor
  ·show (⟨a.toArray⟩ : ByteArray).size ≤ _;rw [arr_size];omega
  ·show (⟨cur.toArray⟩ : ByteArray).size ≤ _;rw [arr_size];omega
theorem okP_snoc {acc : List PtT} {r : Nat} (h : okA acc r) {a cur : List UInt8} (ha : a.length ≤ 4000) (hc : cur.length ≤ 4000) : okP (acc ++ [mkP a cur]) := by
 refine ⟨by have := h.1;rw [List.length_append,List.length_singleton];omega,fun x hx => ?_⟩
 rcases List.mem_append.1 hx with hx | hx
 ·exact h.2 x hx
 ·rw [List.mem_singleton.1 hx]
  constructor
  ·show (⟨a.toArray⟩ : ByteArray).size ≤ _;rw [arr_size];omega
  ·show (⟨cur.toArray⟩ : ByteArray).size ≤ _;rw [arr_size];omega
theorem okA_less {acc : List PtT} {r q : Nat} (h : okA acc r) (hq : q ≤ r) : okA acc q := ⟨by have := h.1;omega,h.2⟩
theorem ints_nil : intsU [] = ([] : List Int) := rfl
theorem ints_len (m : List UInt8) : (intsU m).length = m.length := List.length_map _
theorem ints_snoc (m : List UInt8) (c : UInt8) : intsU m ++ [(c.toNat : Int)] = intsU (m ++ [c]) := by simp [intsU]
theorem ints_str (m : List UInt8) : strOfNums (intsU m) = ⟨m.toArray⟩ := strOf_bytes m
theorem sRead_l0 (s : ByteArray) (hs : s.size ≤ 2000) (h0 : s.size ≠ 0) (d : Nat) : ∀ (i : Nat),s.size - i ≤ d → i ≤ s.size → ∀ (acc : List PtT) (cur : List UInt8),okA acc (s.size - i) → cur.length + (s.size - i) ≤ 2000 →
  (∀ A B,Ev (fun k => qzj.l0 k s acc (intsU cur) false (i : Int) A B) (fin s (pR acc .at [] cur (s.data.toList.drop i)))) ∧
  (∀ (a : List UInt8) B,a.length ≤ 2000 → Ev (fun k => qzj.l0 k s acc (intsU cur) true (i : Int) ⟨a.toArray⟩ B) (fin s (pR acc .tx a cur (s.data.toList.drop i)))) := by
 induction d with
 | zero =>
  intro i hi hle acc cur hacc hcur
  obtain rfl : i = s.size := by omega
  have ha := hacc.1
  have e : s.data.toList.drop s.size = [] := List.drop_of_length_le (by rw [data_length];exact Nat.le_refl _)
  rw [e]
  constructor
  ·intro A B
   refine Ev.upP ?_
   simp only [qzj.l0,if_neg (Int.lt_irrefl _),if_pos (show acc.length < 4398046511104 by omega),Option.bind_some,Bool.false_eq_true,if_false]
   exact Ev.now _
  ·intro a B hal
   refine Ev.upP ?_
   simp only [qzj.l0,if_neg (Int.lt_irrefl _),if_pos (show acc.length < 4398046511104 by omega),Option.bind_some,if_true,ints_str]
   refine Ev.bind (specText_ev (acc ++ [mkP a cur]) (okP_snoc hacc (by omega) (by omega))) ?_
   show Ev _ (if nameTxt (acc ++ [mkP a cur]) = s then (acc ++ [mkP a cur],true) else ([],false))
   by_cases hq : nameTxt (acc ++ [mkP a cur]) = s
   ·simp only [if_pos hq,if_pos (same_bytes.2 hq)];exact Ev.now _
   ·simp only [if_neg hq,if_neg (fun e => hq (same_bytes.1 e))];exact Ev.now _
 | succ d ih =>
  intro i hi hle acc cur hacc hcur
  by_cases hlt : i < s.size
  case neg => exact (ih i (by omega) hle acc cur hacc hcur)
  have ha := hacc.1
  obtain ⟨b,hd,hb⟩ := bt_cons s hlt
  have e2 : wrap64 ((i : Int) + 1) = ((i + 1 : Nat) : Int) := by rw [w64 (by omega) (by omega)];rfl
  have b61 : ((b.toNat : Int) == 61) = decide (b = 61) := byte_beq b 61
  have b44 : ((b.toNat : Int) == 44) = decide (b = 44) := byte_beq b 44
  have b92 : ((b.toNat : Int) == 92) = decide (b = 92) := byte_beq b 92
  rw [hd]
  constructor
  ·intro A B
   refine Ev.upP ?_
   simp only [qzj.l0,if_pos (show (i : Int) < (s.size : Int) by omega),if_pos (Int.natCast_nonneg i),Bool.false_eq_true,if_false,hb,b61]
   refine Ev.upP ?_
   by_cases h61 : b = 61
   ·simp only [qzj.j1,decide_eq_true h61,if_true,ints_str,e2,pR,if_pos h61]
    have := (ih (i + 1) (by omega) (by omega) acc [] (okA_less hacc (by omega)) (by simp;omega)).2 cur B (by omega)
    rw [ints_nil] at this
    exact this
   ·simp only [qzj.j1,decide_eq_false h61,Bool.false_eq_true,if_false,pR,if_neg h61]
    refine Ev.upP ?_
    simp only [qzj.j2,Bool.false_eq_true,if_false]
    refine Ev.upP ?_
    simp only [qzj.j3,Bool.false_eq_true,if_false,ints_len,if_pos (show cur.length < 140737488355328 by omega),ints_snoc,e2]
    exact (ih (i + 1) (by omega) (by omega) acc (cur ++ [b]) (okA_less hacc (by omega)) (by simp;omega)).1 A B
  ·intro a B hal
   refine Ev.upP ?_
   simp only [qzj.l0,if_pos (show (i : Int) < (s.size : Int) by omega),if_pos (Int.natCast_nonneg i),if_true,hb]
   refine Ev.upP ?_
   simp only [qzj.j1,Bool.false_eq_true,if_false,if_true,b44]
   refine Ev.upP ?_
   by_cases h44 : b = 44
   ·simp only [qzj.j2,decide_eq_true h44,if_true,ints_str,e2,pR,if_pos h44,if_pos (show acc.length < 4398046511104 by omega)]
    have := (ih (i + 1) (by omega) (by omega) (acc ++ [mkP a cur]) [] (okA_snoc (okA_less hacc (by omega)) (by omega) (by omega)) (by simp;omega)).1 ⟨a.toArray⟩ ⟨cur.toArray⟩
    rw [ints_nil] at this
    exact this
   ·simp only [qzj.j2,decide_eq_false h44,Bool.false_eq_true,if_false,if_true,pR,if_neg h44,b92]
    refine Ev.upP ?_
    by_cases h92 : b = 92
    ·simp only [qzj.j3,decide_eq_true h92,if_true,if_pos h92,e2]
     by_cases hend : i + 1 = s.size
     ·have e : s.data.toList.drop (i + 1) = [] := List.drop_of_length_le (by rw [data_length];omega)
      simp only [if_pos (show ((i + 1 : Nat) : Int) = (s.size : Int) by omega),e,pR]
      exact Ev.now _
     ·have f1 : ¬ ((i + 1 : Nat) : Int) = (s.size : Int) := by omega
      have f2 : ((i + 1 : Nat) : Int) < (s.size : Int) := by omega
      have f3 : cur.length < 140737488355328 := by omega
      have f4 : s.size - (i + 1 + 1) ≤ d := by omega
      have f5 : i + 1 + 1 ≤ s.size := by omega
      have f6 : s.size - (i + 1 + 1) ≤ s.size - i := by omega
      have f7 : (cur.length + 1) + (s.size - (i + 1 + 1)) ≤ 2000 := by omega
      obtain ⟨c,hd2,hc⟩ := bt_cons s (i := i + 1) (by omega)
      have e3 : wrap64 (((i + 1 : Nat) : Int) + 1) = ((i + 1 + 1 : Nat) : Int) := by rw [w64 (by omega) (by omega)];rfl
      simp only [if_neg f1,if_pos (Int.natCast_nonneg (i + 1)),if_pos f2,ints_len,if_pos f3,hc,ints_snoc]
      rw [e3,hd2]
      simp only [pR]
      exact (ih (i + 1 + 1) f4 f5 acc (cur ++ [c]) (okA_less hacc f6) (by rw [List.length_append];exact f7)).2 a B hal
    ·simp only [qzj.j3,decide_eq_false h92,Bool.false_eq_true,if_false,if_neg h92,ints_len,if_pos (show cur.length < 140737488355328 by omega),ints_snoc,e2]
     exact (ih (i + 1) (by omega) (by omega) acc (cur ++ [b]) (okA_less hacc (by omega)) (by simp;omega)).2 a B hal
theorem specRead_ev (s : ByteArray) : Ev (fun k => qzj.f k s) (readM s) := by
 simp only [qzj.f,readM]
 by_cases h0 : s.size = 0
 ·simp only [if_pos h0,if_pos (nil_bytes.2 h0)];exact Ev.now _
 ·simp only [if_neg h0,if_neg (fun e => h0 (nil_bytes.1 e))]
  by_cases h2 : 2000 < s.size
  ·simp only [if_pos h2,if_pos (show (s.size : Int) > 2000 by omega)];exact Ev.now _
  ·simp only [if_neg h2,if_neg (show ¬ (s.size : Int) > 2000 by omega)]
   exact (sRead_l0 s (by omega) h0 s.size 0 (by omega) (by omega) [] [] ⟨by simp;omega,fun x hx => absurd hx List.not_mem_nil⟩ (by simp;omega)).1 _ _
theorem ext_list (s : ByteArray) (i j : Nat) : (s.extract i j).data.toList = (s.data.toList.drop i).take (j - i) := by
 rw [ByteArray.data_extract,Array.toList_extract,List.extract_eq_take_drop]
theorem app_one (s : ByteArray) (cur : List UInt8) {i : Nat} {b : UInt8} {t : List UInt8} (h : s.data.toList.drop i = b :: t) : (⟨cur.toArray⟩ : ByteArray) ++ s.extract i (i + 1) = ⟨(cur ++ [b]).toArray⟩ := by
 apply data_ext
 rw [ByteArray.data_append,Array.toList_append,ext_list,h,show i + 1 - i = 1 by omega]
 rfl
theorem one_size (s : ByteArray) {i : Nat} (h : i < s.size) : (s.extract i (i + 1)).size = 1 := by rw [ByteArray.size_extract];omega
theorem iRead_l (s : ByteArray) (h0 : s.size ≠ 0) (n : Nat) :
  (∀ (rest : ByteArray) (acc : List PtT),rest.size ≤ n → rest.size ≤ 2000 → okA acc rest.size → Ev (fun k => wx.l0 k s acc rest true) (fin s (pR acc .at [] [] rest.data.toList))) ∧
  (∀ (X tail : ByteArray) (i : Nat) (acc : List PtT) (a cur : List UInt8),tail.size - i ≤ n → i ≤ tail.size → tail.size ≤ 2000 → okA acc (tail.size - i + 1) → a.length ≤ 2000 → cur.length + (tail.size - i) ≤ 2000 → Ev (fun k => wx.l1 k s acc X false tail (i : Int) ⟨a.toArray⟩ ⟨cur.toArray⟩) (fin s (pR acc .tx a cur (tail.data.toList.drop i)))) := by
 have fn : ∀ (X : ByteArray) (acc : List PtT) (a cur : List UInt8),okA acc 1 → a.length ≤ 2000 → cur.length ≤ 2000 → Ev (fun k => wx.l0 k s (acc ++ [mkP a cur]) X false) (fin s (some (acc ++ [mkP a cur]))) := by
  intro X acc a cur hacc hal hcur
  have hok := okP_snoc hacc (a := a) (cur := cur) (by omega) (by omega)
  refine Ev.upP ?_
  simp only [wx.l0,Bool.false_eq_true,if_false]
  refine Ev.bind (implDirName_ev _ hok) ?_
  show Ev _ (if nameTxt (acc ++ [mkP a cur]) = s then (acc ++ [mkP a cur],true) else ([],false))
  by_cases hg : goodN (acc ++ [mkP a cur]) = true
  ·simp only [if_pos hg]
   refine Ev.bind (implText_ev _ hok) ?_
   by_cases hq : nameTxt (acc ++ [mkP a cur]) = s
   ·simp only [if_pos hq,if_pos (same_bytes.2 hq)];exact Ev.now _
   ·simp only [if_neg hq,if_neg (fun e => hq (same_bytes.1 e))];exact Ev.now _
  ·have hq : ¬ nameTxt (acc ++ [mkP a cur]) = s := by
    unfold nameTxt
    rw [if_neg hg]
    intro e
    exact h0 (by rw [← e];rfl)
   simp only [if_neg hg,if_neg hq];exact Ev.now _
 have step : ∀ m,(∀ (X tail : ByteArray) (i : Nat) (acc : List PtT) (a cur : List UInt8),tail.size - i ≤ m → i ≤ tail.size → tail.size ≤ 2000 → okA acc (tail.size - i + 1) → a.length ≤ 2000 → cur.length + (tail.size - i) ≤ 2000 → Ev (fun k => wx.l1 k s acc X false tail (i : Int) ⟨a.toArray⟩ ⟨cur.toArray⟩) (fin s (pR acc .tx a cur (tail.data.toList.drop i)))) →
   ∀ (rest : ByteArray) (acc : List PtT),rest.size ≤ m + 1 → rest.size ≤ 2000 → okA acc rest.size → Ev (fun k => wx.l0 k s acc rest true) (fin s (pR acc .at [] [] rest.data.toList)) := by
  intro m hm rest acc hr hr2 hacc
  have hcut : qkq.f rest (⟨#[61]⟩ : ByteArray) = some (cut1 rest 61) := by
   unfold qkq.f
   rw [if_pos (show (rest.size : Int) ≤ 9223372036854775807 by omega)]
  refine Ev.upP ?_
  simp only [wx.l0,if_true,hcut,Option.bind_some]
  unfold cut1
  by_cases hc : 0 ≤ Lib.indexByte rest.data.toList 61
  ·obtain ⟨o,ho⟩ := Int.eq_ofNat_of_zero_le hc
   obtain ⟨g1,g2⟩ := Lib.indexByte_some ho
   obtain ⟨hol,g3⟩ := List.getElem?_eq_some_iff.1 g1
   have hos : o < rest.size := by rw [← data_length];exact hol
   simp only [if_pos hc,if_true]
   rw [ho]
   have e1 : rest.extract 0 ((o : Int)).toNat = ⟨(rest.data.toList.take o).toArray⟩ := by
    apply data_ext
    rw [ext_list,Int.toNat_natCast,List.drop_zero,Nat.sub_zero]
   have e2 : (((o : Int)) + 1).toNat = o + 1 := by omega
   rw [e2,e1]
   have hts : (rest.extract (o + 1) rest.size).size = rest.size - (o + 1) := by rw [ByteArray.size_extract];omega
   have htl : (rest.extract (o + 1) rest.size).data.toList = rest.data.toList.drop (o + 1) := by
    rw [ext_list,List.take_of_length_le (by rw [List.length_drop,data_length];omega)]
   have hw : (61 : UInt8) ∉ rest.data.toList.take o := by
    intro hmem
    obtain ⟨j,hj,e⟩ := List.getElem_of_mem hmem
    rw [List.length_take] at hj
    rw [List.getElem_take] at e
    exact g2 j (by omega) (by rw [List.getElem?_eq_getElem (by omega),e])
   have hsp : rest.data.toList = rest.data.toList.take o ++ 61 :: rest.data.toList.drop (o + 1) := by
    conv => lhs;rw [← List.take_append_drop o rest.data.toList]
    rw [List.drop_eq_getElem_cons hol,g3]
   have := hm rest (rest.extract (o + 1) rest.size) 0 acc (rest.data.toList.take o) [] (by omega) (by omega) (by omega) (okA_less hacc (by omega)) (by rw [List.length_take];omega) (by simp;omega)
   rw [htl,List.drop_zero] at this
   rw [hsp,pR_at _ _ _ _ hw,List.nil_append,← hsp]
   exact this
  ·have hge := Lib.indexByte_ge rest.data.toList 61
   have hno := Lib.indexByte_none (show Lib.indexByte rest.data.toList 61 = -1 by omega)
   have hw : (61 : UInt8) ∉ rest.data.toList := by
    intro hmem
    obtain ⟨j,hj,e⟩ := List.getElem_of_mem hmem
    exact hno j (by rw [List.getElem?_eq_getElem hj,e])
   simp only [if_neg hc,Bool.false_eq_true,if_false,pR_none _ _ _ hw]
   exact Ev.now _
 have endl : ∀ (X tail : ByteArray) (i : Nat) (acc : List PtT) (a cur : List UInt8),i = tail.size → okA acc (tail.size - i + 1) → a.length ≤ 2000 → cur.length + (tail.size - i) ≤ 2000 → Ev (fun k => wx.l1 k s acc X false tail (i : Int) ⟨a.toArray⟩ ⟨cur.toArray⟩) (fin s (pR acc .tx a cur (tail.data.toList.drop i))) := by
  intro X tail i acc a cur hi hacc hal hcur
  subst hi
  have ha := hacc.1
  have e : tail.data.toList.drop tail.size = [] := List.drop_of_length_le (by rw [data_length];exact Nat.le_refl _)
  rw [e]
  refine Ev.upP ?_
  simp only [wx.l1,if_neg (Int.lt_irrefl _),if_pos (show acc.length < 4398046511104 by omega),Option.bind_some,Bool.false_eq_true,if_false,pR]
  exact fn X acc a cur (okA_less hacc (by omega)) hal (by omega)
 induction n with
 | zero =>
  have l1 : ∀ (X tail : ByteArray) (i : Nat) (acc : List PtT) (a cur : List UInt8),tail.size - i ≤ 0 → i ≤ tail.size → tail.size ≤ 2000 → okA acc (tail.size - i + 1) → a.length ≤ 2000 → cur.length + (tail.size - i) ≤ 2000 → Ev (fun k => wx.l1 k s acc X false tail (i : Int) ⟨a.toArray⟩ ⟨cur.toArray⟩) (fin s (pR acc .tx a cur (tail.data.toList.drop i))) :=
   fun X tail i acc a cur h1 h2 h3 h4 h5 h6 => endl X tail i acc a cur (by omega) h4 h5 h6
  exact ⟨fun rest acc hr hr2 hacc => step 0 l1 rest acc (by omega) hr2 hacc,l1⟩
 | succ n ih =>
  refine ⟨fun rest acc hr hr2 hacc => step n ih.2 rest acc hr hr2 hacc,?_⟩
  intro X tail i acc a cur hi hle ht hacc hal hcur
  by_cases hlt : i < tail.size
  case neg => exact endl X tail i acc a cur (by omega) hacc hal hcur
  have ha := hacc.1
  obtain ⟨b,hd,hb⟩ := bt_cons tail hlt
  have e2 : wrap64 ((i : Int) + 1) = ((i + 1 : Nat) : Int) := by rw [w64 (by omega) (by omega)];rfl
  have c44 : ((b.toNat : Int) = 44) ↔ b = 44 := byte_eq (c := 44)
  have c92 : ((b.toNat : Int) = 92) ↔ b = 92 := byte_eq (c := 92)
  rw [hd]
  refine Ev.upP ?_
  simp only [wx.l1,if_pos (show (i : Int) < (tail.size : Int) by omega),if_pos (Int.natCast_nonneg i),hb,e2]
  by_cases h44 : b = 44
  ·simp only [if_pos (c44.2 h44),if_pos (show acc.length < 4398046511104 by omega),if_pos (Int.natCast_nonneg (i + 1)),if_pos (show ((i + 1 : Nat) : Int) ≤ (tail.size : Int) by omega),Int.toNat_natCast,pR,if_pos h44]
   have hts : (tail.extract (i + 1) tail.size).size = tail.size - (i + 1) := by rw [ByteArray.size_extract];omega
   have htl : (tail.extract (i + 1) tail.size).data.toList = tail.data.toList.drop (i + 1) := by
    rw [ext_list,List.take_of_length_le (by rw [List.length_drop,data_length];omega)]
   have := ih.1 (tail.extract (i + 1) tail.size) (acc ++ [mkP a cur]) (by omega) (by omega) (by rw [hts];exact okA_snoc (okA_less hacc (by omega)) (by omega) (by omega))
   rw [htl] at this
   exact this
  ·simp only [if_neg (fun e => h44 (c44.1 e)),pR,if_neg h44]
   by_cases h92 : b = 92
   ·simp only [if_pos (c92.2 h92),if_pos h92]
    by_cases hend : i + 1 = tail.size
    ·have e : tail.data.toList.drop (i + 1) = [] := List.drop_of_length_le (by rw [data_length];omega)
     simp only [if_pos (show ((i + 1 : Nat) : Int) = (tail.size : Int) by omega),e,pR]
     exact Ev.now _
    ·have f1 : ¬ ((i + 1 : Nat) : Int) = (tail.size : Int) := by omega
     have f2 : ((i + 1 : Nat) : Int) ≤ ((i + 1 + 1 : Nat) : Int) := by omega
     have f3 : ((i + 1 + 1 : Nat) : Int) ≤ (tail.size : Int) := by omega
     have f4 : cur.length + 1 ≤ 9223372036854775807 := by omega
     have f5 : tail.size - (i + 1 + 1) ≤ n := by omega
     have f6 : i + 1 + 1 ≤ tail.size := by omega
     have f7 : tail.size - (i + 1 + 1) + 1 ≤ tail.size - i + 1 := by omega
     have f8 : (cur.length + 1) + (tail.size - (i + 1 + 1)) ≤ 2000 := by omega
     have ez := one_size tail (i := i + 1) (by omega)
     obtain ⟨c,hd2,hc⟩ := bt_cons tail (i := i + 1) (by omega)
     have e3 : wrap64 (((i + 1 : Nat) : Int) + 1) = ((i + 1 + 1 : Nat) : Int) := by rw [w64 (by omega) (by omega)];rfl
     have ea := app_one tail cur hd2
     simp only [if_neg f1,if_pos (Int.natCast_nonneg (i + 1)),e3,if_pos f2,if_pos f3,Int.toNat_natCast,ez,arr_size,if_pos f4,ea]
     rw [hd2]
     simp only [pR]
     exact ih.2 X tail (i + 1 + 1) acc a (cur ++ [c]) f5 f6 ht (okA_less hacc f7) hal (by rw [List.length_append];exact f8)
   ·have ez := one_size tail hlt
    have ea := app_one tail cur hd
    simp only [if_neg (fun e => h92 (c92.1 e)),if_neg h92,if_pos (show (i : Int) ≤ ((i + 1 : Nat) : Int) by omega),if_pos (show ((i + 1 : Nat) : Int) ≤ (tail.size : Int) by omega),Int.toNat_natCast,ez,arr_size,if_pos (show cur.length + 1 ≤ 9223372036854775807 by omega),ea]
    exact ih.2 X tail (i + 1) acc a (cur ++ [b]) (by omega) (by omega) ht (okA_less hacc (by omega)) hal (by simp;omega)
theorem implRead_ev (s : ByteArray) : Ev (fun k => wx.f k s) (readM s) := by
 simp only [wx.f,readM]
 by_cases h0 : s.size = 0
 ·simp only [if_pos h0,if_pos (nil_bytes.2 h0)];exact Ev.now _
 ·simp only [if_neg h0,if_neg (fun e => h0 (nil_bytes.1 e))]
  by_cases h2 : 2000 < s.size
  ·simp only [if_pos h2,if_pos (show (s.size : Int) > 2000 by omega)];exact Ev.now _
  ·simp only [if_neg h2,if_neg (show ¬ (s.size : Int) > 2000 by omega)]
   exact (iRead_l s h0 s.size).1 s [] (Nat.le_refl _) (by omega) ⟨by simp;omega,fun x hx => absurd hx List.not_mem_nil⟩
end Go.Proofs.Ytccbjchlcelkgaa.Pr
namespace Go.Proofs.Ytccbjchlcelkgaa.Pr
open Go.RowKit Go.Proofs.Ytccbjchlcelkgaa.Read Go.Proofs.YtccbjchlcelkgaaW.PrintWords
theorem and255 (X : Int) : 0 ≤ Go.bits .and .u64 X 255 ∧ Go.bits .and .u64 X 255 ≤ 255 := by
 have h : ((BitVec.ofInt 64 X) &&& (BitVec.ofInt 64 255)).toNat ≤ 255 := by
  rw [BitVec.toNat_and]
  exact Nat.le_trans Nat.and_le_right (by decide)
 have e : Go.bits .and .u64 X 255 = IntKind.u64.wrap ((((BitVec.ofInt 64 X) &&& (BitVec.ofInt 64 255)).toNat : Nat) : Int) := rfl
 rw [e,IntKind.wrap_u64]
 omega
theorem cur_next (s : List Int) (hs : okL okB s) (p h : Int) (h0 : 0 ≤ p) (h1 : p ≤ 1000000000000) : ∃ v h',qzv.f s p h = some (v,p + 1,h') ∧ 0 ≤ v ∧ v ≤ 255 := by
 have e : wrap64 (p + 1) = p + 1 := w64 (by omega) (by omega)
 unfold qzv.f
 simp only [e]
 by_cases hp : p < (s.length : Int)
 ·rw [if_pos hp,if_pos h0,if_pos (by omega)]
  have hm : rd s p ∈ s := by
   have : p.toNat < s.length := by omega
   simp [rd,List.getD_eq_getElem?_getD,List.getElem?_eq_getElem this]
  have hb : 0 ≤ rd s p ∧ rd s p ≤ 255 := hs.2 _ hm
  exact ⟨_,_,rfl,by rw [w64 (by omega) (by omega)];exact hb.1,by rw [w64 (by omega) (by omega)];exact hb.2⟩
 ·rw [if_neg hp,if_neg (by omega)]
  have hb := and255 ((IntKind.u64.wrap ((IntKind.u64.wrap (IntKind.u64.wrap (h * 6364136223846793005))) + 1442695040888963407)) / 1099511627776)
  exact ⟨_,_,rfl,by rw [w64 (by omega) (by omega)];exact hb.1,by rw [w64 (by omega) (by omega)];exact hb.2⟩
theorem cur_pick (s : List Int) (hs : okL okB s) (p h n : Int) (h0 : 0 ≤ p) (h1 : p ≤ 999999999999) : ∃ v p' h',qjz.f s p h n = some (v,p',h') ∧ 0 ≤ v ∧ (v < n ∨ v = 0) ∧ p ≤ p' ∧ p' ≤ p + 2 := by
 unfold qjz.f
 by_cases hn : n ≤ 1
 ·rw [if_pos hn]
  exact ⟨_,_,_,rfl,by omega,.inr rfl,by omega,by omega⟩
 ·rw [if_neg hn]
  obtain ⟨v,h',e,v0,v1⟩ := cur_next s hs p h h0 (by omega)
  simp only [e,Option.bind_some]
  by_cases h2 : n > 200
  ·rw [if_pos h2]
   obtain ⟨v2,h2',e2,v20,v21⟩ := cur_next s hs (p + 1) h' (by omega) (by omega)
   simp only [e2,Option.bind_some,if_neg (show ¬ n = 0 by omega),w64 (show -9223372036854775808 ≤ v * 256 by omega) (show v * 256 ≤ 9223372036854775807 by omega),w64 (show -9223372036854775808 ≤ v * 256 + v2 by omega) (show v * 256 + v2 ≤ 9223372036854775807 by omega)]
   refine ⟨_,_,_,rfl,?_,.inl ?_,by omega,by omega⟩
   ·rw [Int.tmod_eq_emod_of_nonneg (by omega)];exact Int.emod_nonneg _ (by omega)
   ·rw [Int.tmod_eq_emod_of_nonneg (by omega)];exact Int.emod_lt_of_pos _ (by omega)
  ·rw [if_neg h2,if_neg (show ¬ n = 0 by omega)]
   refine ⟨_,_,_,rfl,?_,.inl ?_,by omega,by omega⟩
   ·rw [Int.tmod_eq_emod_of_nonneg (by omega)];exact Int.emod_nonneg _ (by omega)
   ·rw [Int.tmod_eq_emod_of_nonneg (by omega)];exact Int.emod_lt_of_pos _ (by omega)
theorem cur_one (s : List Int) (hs : okL okB s) (p h n : Int) (h0 : 0 ≤ p) (h1 : p ≤ 999999999999) : ∃ b p' h',qjq.f s p h n = some (b,p',h') ∧ p ≤ p' ∧ p' ≤ p + 2 := by
 obtain ⟨v,p',h',e,_,_,g1,g2⟩ := cur_pick s hs p h n h0 h1
 unfold qjq.f
 simp only [e,Option.bind_some]
 exact ⟨_,_,_,rfl,g1,g2⟩
end Go.Proofs.Ytccbjchlcelkgaa.Pr
namespace Go.Proofs.Ytccbjchlcelkgaa.Pr
open Go.RowKit Go.Proofs.YtccbjchlcelkgaaW.PrintWords Go.Proofs.YtccbjchlcelkgaaW.PrintLast Go.Proofs.YtccbjchlcelkgaaW.PrintMore
attribute [local go_sem] max2_int min2_int max_two min_two max_three min_three max_four min_four
set_option linter.unusedVariables false
set_option linter.unusedSimpArgs false
end Go.Proofs.Ytccbjchlcelkgaa.Pr
namespace Go.Proofs.Ytccbjchlcelkgaa.Pr
open Go.RowKit Go.Proofs.YtccbjchlcelkgaaW.PrintWords Go.Proofs.YtccbjchlcelkgaaW.PrintLast Go.Proofs.YtccbjchlcelkgaaW.PrintMore
set_option linter.unusedVariables false
def mulT : List Int := [1103515245,69069,1664525,22695477]
structure OnlyB (w w' : World) (g : Nat) : Prop where
 os : w'.os = w.os
 tape : w'.tape = w.tape
 output : w'.output = w.output
 size : w'.heap.size = w.heap.size
 block : ∀ k,k ≠ g → w'.heap[k]? = w.heap[k]?
theorem OnlyB.refl (w : World) (g : Nat) : OnlyB w w g := ⟨rfl,rfl,rfl,rfl,fun _ _ => rfl⟩
theorem OnlyB.drew {w w' : World} {g : Nat} (h : OnlyB w w' g) : OnlyB w w'.drew g := ⟨h.os,h.tape,h.output,h.size,h.block⟩
theorem OnlyB.set {w w' : World} {g : Nat} (h : OnlyB w w' g) (j : Nat) (u : Value) : OnlyB w (w'.setCell ⟨g,j,none⟩ u) g :=
 ⟨h.os,h.tape,h.output,by simpa [World.setCell] using h.size,fun k hk => (Below.heap_setCell w' ⟨g,j,none⟩ u k hk).trans (h.block k hk)⟩
def isBytes (l : List Int) : Prop := ∀ x ∈ l,0 ≤ x ∧ x ≤ 255
instance (l : List Int) : Decidable (isBytes l) := by unfold isBytes;infer_instance
structure DigInv (w wr : World) (a : List Int) : Prop where
 A : wr.heap[w.heap.size]? = some (.cells (nums .i64 a).toArray 163 (0,0))
 M : wr.heap[w.heap.size + 1]? = some (.cells (nums .i64 mulT).toArray 163 (0,0))
 B : Below w.heap.size w wr
 len : a.length = 4
 bd : ∀ j,j < 4 → 0 ≤ a.getD j 0 ∧ a.getD j 0 < 2147483579
theorem DigInv.drew {w wr : World} {a : List Int} (h : DigInv w wr a) : DigInv w wr.drew a := ⟨h.A,h.M,h.B.drew,h.len,h.bd⟩
theorem DigInv.lt {w wr : World} {a : List Int} (h : DigInv w wr a) : w.heap.size + 2 ≤ wr.heap.size := blk_lt h.M
end Go.Proofs.Ytccbjchlcelkgaa.Pr
namespace Go.Proofs.Ytccbjchlcelkgaa.Pr
open Go.RowKit Go.Proofs.YtccbjchlcelkgaaW.PrintWords Go.Proofs.YtccbjchlcelkgaaW.PrintLast Go.Proofs.YtccbjchlcelkgaaW.PrintMore
attribute [local go_sem] max2_int min2_int max_two min_two max_three min_three max_four min_four
set_option linter.unusedVariables false
set_option linter.unusedSimpArgs false
end Go.Proofs.Ytccbjchlcelkgaa.Pr
namespace Go.Proofs.Ytccbjchlcelkgaa.Pr
open Go.RowKit Go.Proofs.YtccbjchlcelkgaaW.PrintWords Go.Proofs.YtccbjchlcelkgaaW.PrintLast Go.Proofs.YtccbjchlcelkgaaW.PrintMore
attribute [local go_sem] max2_int min2_int max_two min_two max_three min_three max_four min_four
set_option linter.unusedVariables false
set_option linter.unusedSimpArgs false
end Go.Proofs.Ytccbjchlcelkgaa.Pr
namespace Go.Proofs.Ytccbjchlcelkgaa.Pr
open Go.RowKit Go.Proofs.Ytccbjchlcelkgaa.Read Go.Proofs.YtccbjchlcelkgaaW.PrintWords Go.Proofs.YtccbjchlcelkgaaW.PrintLast Go.Proofs.YtccbjchlcelkgaaW.PrintMore
set_option linter.unusedVariables false
theorem ext_pre (t : ByteArray) (n : Nat) (h : n ≤ t.size) : (t.extract 0 n).size = n := by rw [ByteArray.size_extract,Nat.min_eq_left h,Nat.sub_zero]
theorem ext_suf (t : ByteArray) (n : Nat) : (t.extract n t.size).size = t.size - n := by rw [ByteArray.size_extract,Nat.min_self]
theorem size_one (x : Int) : (strOfNums [x]).size = 1 := rfl
theorem spoilt_l0 (s : List Int) (hs : okL okB s) (wi : ByteArray) (hw : 1 ≤ wi.size ∧ wi.size ≤ 1000) (d : Nat) : ∀ (t : ByteArray) (p h : Int),t.size + d ≤ 1000 → 0 ≤ p → p + 6 * d ≤ 900000000000 → ∃ (t' : ByteArray) (p' h' : Int),(∀ k,2 * d + 2 < k → qjj.l0 k t wi (d : Int) s p h = some (t',p',h')) ∧ p ≤ p' ∧ p' ≤ p + 6 * d := by
 induction d with
 | zero =>
  intro t p h ht h0 h1
  refine ⟨t,p,h,fun k hk => ?_,by omega,by omega⟩
  obtain ⟨k,rfl⟩ : ∃ m,k = m + 1 + 1 := ⟨k - 2,by omega⟩
  rw [qjj.l0,if_neg (show ¬ (((0 : Nat) : Int) > 0) by omega),qjj.j1,if_neg Bool.false_ne_true]
 | succ d ih =>
  intro t p h ht h0 h1
  by_cases hz : t.size = 0
  ·refine ⟨t,p,h,fun k hk => ?_,by omega,by omega⟩
   obtain ⟨k,rfl⟩ : ∃ m,k = m + 1 + 1 := ⟨k - 2,by omega⟩
   rw [qjj.l0,if_pos (show (((d + 1 : Nat) : Int) > 0) by omega),qjj.j1,decide_eq_false (show ¬ ((t.size : Int) > 0) by omega),if_neg Bool.false_ne_true]
  obtain ⟨i,p1,h1',e1,i0,i1,g1,g2⟩ := cur_pick s hs p h t.size h0 (by omega)
  obtain ⟨j,p2,h2',e2,j0,j1,g3,g4⟩ := cur_pick s hs p1 h1' wi.size (by omega) (by omega)
  obtain ⟨c,p3,h3',e3,c0,c1,g5,g6⟩ := cur_pick s hs p2 h2' 3 (by omega) (by omega)
  have hi : i < t.size := by omega
  obtain ⟨n,rfl⟩ := Int.eq_ofNat_of_zero_le i0
  have ew : qq (wrap64 ((n : Int) + 1) = ((n + 1 : Nat) : Int)) := ⟨by rw [w64 (by omega) (by omega)];rfl⟩
  have ed : qq (wrap64 (((d + 1 : Nat) : Int) - 1) = (d : Int)) := ⟨by rw [w64 (by omega) (by omega)];omega⟩
  have z1 : (t.extract 0 n).size = n := ext_pre t n (by omega)
  have z2 : (t.extract n t.size).size = t.size - n := ext_suf t n
  have z3 : (t.extract (n + 1) t.size).size = t.size - (n + 1) := ext_suf t (n + 1)
  have hd1 : (((d + 1 : Nat) : Int) > 0) := by omega
  have hdt : decide ((t.size : Int) > 0) = true := decide_eq_true (by omega)
  have hj : j < (wi.size : Int) := by omega
  have hn : (n : Int) ≤ (t.size : Int) := by omega
  by_cases hc0 : c = 0
  ·obtain ⟨t',p',h',e,q1,q2⟩ := ih (((t.extract 0 n) ++ (strOfNums [bt wi j])) ++ (t.extract n t.size)) p3 h3' (by rw [ByteArray.size_append,ByteArray.size_append,z1,z2,size_one];omega) (by omega) (by omega)
   refine ⟨t',p',h',fun k hk => ?_,by omega,by omega⟩
   obtain ⟨k,rfl⟩ : ∃ m,k = m + 1 + 1 := ⟨k - 2,by omega⟩
   rw [qjj.l0,if_pos hd1,qjj.j1,hdt,if_pos rfl,e1,Option.bind_some]
   dsimp only
   rw [e2,Option.bind_some]
   dsimp only
   rw [if_pos j0,if_pos hj,Option.bind_some,e3,Option.bind_some]
   dsimp only
   rw [if_pos hc0,if_pos i0,if_pos hn,Int.toNat_natCast,z1,size_one,if_pos (show n + 1 ≤ 9223372036854775807 by omega),ByteArray.size_append,z1,size_one,z2,if_pos (show n + 1 + (t.size - n) ≤ 9223372036854775807 by omega),ed.out]
   exact e k (by omega)
  by_cases hc1 : c = 1
  ·obtain ⟨t',p',h',e,q1,q2⟩ := ih (((t.extract 0 n) ++ (strOfNums [bt wi j])) ++ (t.extract (n + 1) t.size)) p3 h3' (by rw [ByteArray.size_append,ByteArray.size_append,z1,z3,size_one];omega) (by omega) (by omega)
   refine ⟨t',p',h',fun k hk => ?_,by omega,by omega⟩
   obtain ⟨k,rfl⟩ : ∃ m,k = m + 1 + 1 := ⟨k - 2,by omega⟩
   rw [qjj.l0,if_pos hd1,qjj.j1,hdt,if_pos rfl,e1,Option.bind_some]
   dsimp only
   rw [e2,Option.bind_some]
   dsimp only
   rw [if_pos j0,if_pos hj,Option.bind_some,e3,Option.bind_some]
   dsimp only
   rw [if_neg hc0,if_pos hc1,if_pos i0,if_pos hn,Int.toNat_natCast,z1,size_one,if_pos (show n + 1 ≤ 9223372036854775807 by omega),ew.out,if_pos (show (0 : Int) ≤ ((n + 1 : Nat) : Int) by omega),if_pos (show ((n + 1 : Nat) : Int) ≤ (t.size : Int) by omega),Int.toNat_natCast,ByteArray.size_append,z1,size_one,z3,if_pos (show n + 1 + (t.size - (n + 1)) ≤ 9223372036854775807 by omega),ed.out]
   exact e k (by omega)
  ·obtain ⟨t',p',h',e,q1,q2⟩ := ih ((t.extract 0 n) ++ (t.extract (n + 1) t.size)) p3 h3' (by rw [ByteArray.size_append,z1,z3];omega) (by omega) (by omega)
   refine ⟨t',p',h',fun k hk => ?_,by omega,by omega⟩
   obtain ⟨k,rfl⟩ : ∃ m,k = m + 1 + 1 := ⟨k - 2,by omega⟩
   rw [qjj.l0,if_pos hd1,qjj.j1,hdt,if_pos rfl,e1,Option.bind_some]
   dsimp only
   rw [e2,Option.bind_some]
   dsimp only
   rw [if_pos j0,if_pos hj,Option.bind_some,e3,Option.bind_some]
   dsimp only
   rw [if_neg hc0,if_neg hc1,if_pos i0,if_pos hn,Int.toNat_natCast,ew.out,if_pos (show (0 : Int) ≤ ((n + 1 : Nat) : Int) by omega),if_pos (show ((n + 1 : Nat) : Int) ≤ (t.size : Int) by omega),Int.toNat_natCast,z1,z3,if_pos (show n + (t.size - (n + 1)) ≤ 9223372036854775807 by omega),ed.out]
   exact e k (by omega)
theorem cur_spoilt (s : List Int) (hs : okL okB s) (wi : ByteArray) (hw : 1 ≤ wi.size ∧ wi.size ≤ 1000) (t : ByteArray) (ht : t.size ≤ 100) (p h : Int) (h0 : 0 ≤ p) (h1 : p ≤ 800000000000) : ∃ (t' : ByteArray) (p' h' : Int),(∀ k,10 < k → qjj.f k s p h t wi = some (t',p',h')) ∧ p ≤ p' ∧ p' ≤ p + 20 := by
 obtain ⟨v,p1,h1',e,v0,v1,g1,g2⟩ := cur_pick s hs p h 3 h0 (by omega)
 obtain ⟨m,rfl⟩ := Int.eq_ofNat_of_zero_le v0
 obtain ⟨t',p',h',e2,q1,q2⟩ := spoilt_l0 s hs wi hw m t p1 h1' (by omega) (by omega) (by omega)
 refine ⟨t',p',h',fun k hk => ?_,by omega,by omega⟩
 unfold qjj.f
 rw [e,Option.bind_some]
 exact e2 k (by omega)
end Go.Proofs.Ytccbjchlcelkgaa.Pr
