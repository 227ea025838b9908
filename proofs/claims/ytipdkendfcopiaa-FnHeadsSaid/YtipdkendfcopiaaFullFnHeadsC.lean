/- Printed texts, walks and plain facts that the law FnHeads leans on, joined. -/
import Derived.Test.YtipdkendfcopiaaFullFnHeadsB
import Derived.Lib.SliceRun
import Derived.WalkSpells
import Derived.Lib.AppendZeros
set_option maxHeartbeats 8000000
set_option maxRecDepth 100000
open List renaming map_toArray → jq0, map_cons → jq1, map_nil → jq2, length_drop → jq3, length_take → jq4, setIfInBounds_toArray → jq5, set_cons_zero → jq6, set_cons_succ → jq7
open Option renaming bind_eq_some_iff → jq8
open Bool renaming eq_false_iff → jq9, true → Z, false → Y
namespace Go.Proofs.Ytipdkendfcopiaa.Pr
open Go.RowKit Go.Proofs.YtipdkendfcopiaaW.PrintWords Go.Proofs.YtipdkendfcopiaaW.PrintLast Go.Proofs.YtipdkendfcopiaaW.PrintMore
attribute [local go_sem] max2_int min2_int max_two min_two max_three min_three max_four min_four
set_option linter.unusedVariables false
set_option linter.unusedSimpArgs false
def xz.f (k:Nat) (a0:Int) (a1_0:Int) (l1_1:List Int) (a1_2:Int) (a1_3:Int):Option (Bool):=if a1_0 ≥ 0 then(if a1_0≤200 then((qjz.f (([l1_1]:List (List Int)))).bind fun t105=>(if t105=true then((qzz.f a1_0 l1_1).bind fun t106=>((qqk.f k a0 t106 a1_2 a1_3).bind fun t109=>(some t109))) else(some false))) else(some false)) else(some false)
def xz.T1:Bool × List (List Nat × List Nat):=(true,[([],[]),([0],[0]),([1],[1]),([2],[2]),([3],[3]),([4,3],[3,4]),([5,3],[3,5]),([3,6],[3,6]),([7,3],[7]),([8],[8]),([9,8],[8,9]),([10,8],[8,10]),([11,8,8],[8,11]),([8,12],[8,12]),([13,12],[13]),([14],[14]),([14],[14]),([16,14],[14,16]),([14],[14]),([18,14],[14,18]),([17,19,14,14],[14,17,19]),([14],[14]),([21,14],[14,21]),([15,20,22,20,14],[14,15,20,22]),([14,23],[14,23]),([24,23,0,1,2,3,4,5,6,7,8,9,10,11,12,13,14,15,16,17,18,19,20,21,22,23,24],[24])])
def xz.B1:List Nat:=[0,1,3,7,15,31,63,127,255,511,1023,2047,4095,8191,16383,32767,32767,98303,32767,294911,1015807,32767,2129919,8388607,16777215,33554431]
theorem xz.tab1:rtab .any (opsOf Try.f56 1)=xz.T1:=by kernel_rfl
theorem xz.bits1:waitsOk xz.T1.2 xz.B1=true:=by kernel_rfl
theorem xz.calls (k:Nat) (a0:Int) (a1_0:Int) (P1_1_:Nat→Prop) (A1_1:Option Addr) (c1_1:Nat) (l1_1:List Int) (a1_2:Int) (a1_3:Int) (r:Bool) (w:World) (hs1_1:Kd.V (Kd.int .u8) 5 w w.heap.size (fun k_=>P1_1_ k_) (.slice A1_1 l1_1.length c1_1) l1_1) (h:xz.f k a0 a1_0 l1_1 a1_2 a1_3=some r) :
  Calls Try.prog 56 #[.int .i64 a0,.agg #[.int .i64 a1_0,.slice A1_1 l1_1.length c1_1,.int .i64 a1_2,.int .i64 a1_3]] w fun e w'=>e=.returned (.bool r)∧Below w.heap.size w w':=by
 have hu61:=Try.underlying61
 have hu59:=Try.underlying59
 have HO1_1:=U.mk (show Kd.V (Kd.int .u8) 5 w w.heap.size (fun k_=>(P1_1_ k_∨w.heap.size≤k_)) (.slice A1_1 l1_1.length c1_1) l1_1 from Kd.V_mono hs1_1 (fun k_ hk=>.inl hk))
 have HB:=U.mk (Below.refl w.heap.size w)
 unfold xz.f at h
 have H:=h
 clear h
 by_cases c3:a1_0 ≥ 0
 ·rw[if_pos c3] at H
  have c3b0:decide (0≤a1_0)=true:=decide_eq_true c3
  clear c3
  by_cases c4:a1_0≤200
  ·rw[if_pos c4] at H
   have c4b0:decide (a1_0≤200)=true:=decide_eq_true c4
   clear c4
   obtain⟨y102,hy102⟩ : ∃ y_:List (List Int),y_=(([l1_1]:List (List Int))):=⟨_,rfl⟩
   replace H:((qjz.f y102).bind fun t105=>(if t105=true then((qzz.f a1_0 l1_1).bind fun t106=>((qqk.f k a0 t106 a1_2 a1_3).bind fun t109=>(some t109))) else(some false)))=some r:=by first|(rw[hy102];with_reducible exact H)|(have H2_:=(Option.bind_some _ _).symm.trans H;rw[hy102];with_reducible exact H2_)|(have H2_:=(Option.bind_some _ _).symm.trans H;with_reducible exact H2_)|with_reducible exact H|(rw[hy102];exact H)|exact H
   have Ny102:=U.mk hy102
   clear hy102
   replace H:=jq8.mp H
   obtain⟨t105,A50,H⟩:=H
   try dsimp only at H
   have A5:=U.mk A50
   clear A50
   by_cases c6:t105=true
   ·subst c6
    have H1:((qzz.f a1_0 l1_1).bind fun t106=>((qqk.f k a0 t106 a1_2 a1_3).bind fun t109=>(some t109)))=some r:=by rw[if_pos rfl] at H;exact H
    clear H
    have H:=H1
    clear H1
    replace H:=jq8.mp H
    obtain⟨t106,A70,H⟩:=H
    try dsimp only at H
    have A7:=U.mk A70
    clear A70
    replace H:=jq8.mp H
    obtain⟨t109,A80,H⟩:=H
    replace H:(some t109)=some r:=H
    have A8:=U.mk A80
    clear A80
    obtain rfl:=Option.some.inj H
    go_enter Try.func56,Try.ntmps56
    try go_wp2_with (first|((with_reducible refine gate_dst (N:=3) rfl ?_);(try (refine gate_guard (by rfl) ?_;dsimp only));refine box_event ?hg (N:=3) ?hd (cs:=#[.int .i64 a1_0,.slice A1_1 l1_1.length c1_1,.int .i64 a1_2,.int .i64 a1_3]) (t:=61) ?hr ?_;(case hd=>rfl);(case hg=>rfl);(case hr=>first|(go_simp;done)|(go_simp;rfl));intro gb101 hg w9 hbox hb;replace HO1_1:=U.mk (Kd.V_below (Kd.V_elderB (by(with_reducible repeat(first|apply Kd.vv|apply Kd.vk|apply Kd.vw));exact HO1_1.out) gb101 (Nat.le_of_eq hg.symm)) hb);have BK101:=U.mk (hbox);have GW101:=U.mk ((by rw[hg];exact(zj (by solve_by_elim only[HB.out,G,J,qq])):w.heap.size≤gb101));have GE101:=U.mk ((by rw[hg];exact(zj (by solve_by_elim only[HB.out,G,J,qq])):w.heap.size≤gb101));replace HB:=U.mk (zz (by solve_by_elim only[HB.out,G,J,qq]) hb);clear hb hbox hg))
    replace HO1_1:=U.mk (Kd.vw HO1_1.out)
    replace BK101:=U.mk (qx BK101.out)
    replace HB:=U.mk (qq HB.out)
    refine start_ (n:=26) (S:=fun w'=>w'.cell? ⟨gb101,0,none⟩ = some (.int .i64 a1_0)∧w'.cell? ⟨gb101,1,none⟩ = some (.slice A1_1 l1_1.length c1_1)∧w'.cell? ⟨gb101,2,none⟩ = some (.int .i64 a1_2)∧w'.cell? ⟨gb101,3,none⟩ = some (.int .i64 a1_3)) (ds:=[]) #[Y,Y,Y,Y,Y,Y,Y,Y,Y,Y,Y,Y,Y,Y,Y,Y,Y,Y,Y,Y,Y,Y,Y,Y,Y,Y] (by kernel_rfl) rfl rfl ⟨(qj BK101.out 0).trans rfl,(qj BK101.out 1).trans rfl,(qj BK101.out 2).trans rfl,(qj BK101.out 3).trans rfl⟩ (fun hHeld=>?_);refine with_tabW xz.tab1 xz.bits1 (fun HT_ HW_=>?_)
    generalize w9.drew=w10 at HO1_1 BK101 HB hHeld ⊢
    refine pure_ (i:=0) (N:=some 5) (v:=?_) (a':=?_) #[Z,Y,Y,Y,Y,Y,Y,Y,Y,Y,Y,Y,Y,Y,Y,Y,Y,Y,Y,Y,Y,Y,Y,Y,Y,Y] rfl rfl (any_of HT_.out (by kernel_rfl)) (fun _ _ _ h=>h) (Or.inl ⟨by rfl,?_⟩) ?_ ?_
    rotate_left
    ·intro w'
     go_simp
     with_reducible rfl
    rotate_left
    ·simp only[Act.put,jq5,jq6,jq7,i64_w,i32_w]
     rfl
    refine take_ (i:=1) (N:=some 6) (v:=?_) (a':=?_) #[Z,Z,Y,Y,Y,Y,Y,Y,Y,Y,Y,Y,Y,Y,Y,Y,Y,Y,Y,Y,Y,Y,Y,Y,Y,Y] rfl rfl (take_ofW HT_.out HW_.out (by kernel_rfl)) (fun _ _ _ h=>h) (Or.inl ⟨by rfl,?_⟩) hHeld ?_ ?_
    rotate_left
    ·rintro w' ⟨s0,s1,s2,s3⟩
     go_simp
     with_reducible rfl
    rotate_left
    ·simp only[Act.put,jq5,jq6,jq7,i64_w,i32_w]
     rfl
    refine pure_ (i:=2) (N:=some 7) (v:=?_) (a':=?_) #[Z,Z,Z,Y,Y,Y,Y,Y,Y,Y,Y,Y,Y,Y,Y,Y,Y,Y,Y,Y,Y,Y,Y,Y,Y,Y] rfl rfl (any_of HT_.out (by kernel_rfl)) (fun _ _ _ h=>h) (Or.inl ⟨by rfl,?_⟩) ?_ ?_
    rotate_left
    ·intro w'
     go_simp
     with_reducible rfl
    rotate_left
    ·simp only[Act.put,jq5,jq6,jq7,i64_w,i32_w]
     rfl
    refine pure_ (i:=3) (N:=some 8) (v:=?_) (a':=?_) #[Z,Z,Z,Z,Y,Y,Y,Y,Y,Y,Y,Y,Y,Y,Y,Y,Y,Y,Y,Y,Y,Y,Y,Y,Y,Y] rfl rfl (any_of HT_.out (by kernel_rfl)) (fun _ _ _ h=>h) (Or.inl ⟨by rfl,?_⟩) ?_ ?_
    rotate_left
    ·intro w'
     go_simp
     with_reducible rfl
    rotate_left
    ·simp only[Act.put,jq5,jq6,jq7,i64_w,i32_w]
     rfl
    refine pure_ (i:=4) (N:=some 9) (v:=?_) (a':=?_) #[Z,Z,Z,Z,Z,Y,Y,Y,Y,Y,Y,Y,Y,Y,Y,Y,Y,Y,Y,Y,Y,Y,Y,Y,Y,Y] rfl rfl (any_of HT_.out (by kernel_rfl)) (fun _ _ _ h=>h) (Or.inl ⟨by rfl,?_⟩) ?_ ?_
    rotate_left
    ·intro w'
     go_simp
     with_reducible rfl
    rotate_left
    ·simp only[Act.put,jq5,jq6,jq7,i64_w,i32_w]
     rfl
    refine take_ (i:=5) (N:=some 10) (v:=?_) (a':=?_) #[Z,Z,Z,Z,Z,Z,Y,Y,Y,Y,Y,Y,Y,Y,Y,Y,Y,Y,Y,Y,Y,Y,Y,Y,Y,Y] rfl rfl (take_ofW HT_.out HW_.out (by kernel_rfl)) (fun _ _ _ h=>h) (Or.inl ⟨by rfl,?_⟩) hHeld ?_ ?_
    rotate_left
    ·rintro w' ⟨s0,s1,s2,s3⟩
     go_simp
     with_reducible rfl
    rotate_left
    ·simp only[Act.put,jq5,jq6,jq7,i64_w,i32_w]
     rfl
    refine pure_ (i:=6) (N:=some 11) (v:=?_) (a':=?_) #[Z,Z,Z,Z,Z,Z,Z,Y,Y,Y,Y,Y,Y,Y,Y,Y,Y,Y,Y,Y,Y,Y,Y,Y,Y,Y] rfl rfl (any_of HT_.out (by kernel_rfl)) (fun _ _ _ h=>h) (Or.inl ⟨by rfl,?_⟩) ?_ ?_
    rotate_left
    ·intro w'
     go_simp
     with_reducible rfl
    rotate_left
    ·simp only[Act.put,jq5,jq6,jq7,i64_w,i32_w]
     rfl
    refine pure_ (i:=7) (N:=some 12) (v:=?_) (a':=?_) #[Z,Z,Z,Z,Z,Z,Z,Z,Y,Y,Y,Y,Y,Y,Y,Y,Y,Y,Y,Y,Y,Y,Y,Y,Y,Y] rfl rfl (any_of HT_.out (by kernel_rfl)) (fun _ _ _ h=>h) (Or.inl ⟨by rfl,?_⟩) ?_ ?_
    rotate_left
    ·intro w'
     go_simp
     with_reducible rfl
    rotate_left
    ·simp only[Act.put,jq5,jq6,jq7,i64_w,i32_w]
     rfl
    refine pure_ (i:=8) (N:=some 13) (v:=?_) (a':=?_) #[Z,Z,Z,Z,Z,Z,Z,Z,Z,Y,Y,Y,Y,Y,Y,Y,Y,Y,Y,Y,Y,Y,Y,Y,Y,Y] rfl rfl (any_of HT_.out (by kernel_rfl)) (fun _ _ _ h=>h) (Or.inl ⟨by rfl,?_⟩) ?_ ?_
    rotate_left
    ·intro w'
     go_simp
     with_reducible rfl
    rotate_left
    ·simp only[Act.put,jq5,jq6,jq7,i64_w,i32_w]
     rfl
    refine pure_ (i:=9) (N:=some 14) (v:=?_) (a':=?_) #[Z,Z,Z,Z,Z,Z,Z,Z,Z,Z,Y,Y,Y,Y,Y,Y,Y,Y,Y,Y,Y,Y,Y,Y,Y,Y] rfl rfl (any_of HT_.out (by kernel_rfl)) (fun _ _ _ h=>h) (Or.inl ⟨by rfl,?_⟩) ?_ ?_
    rotate_left
    ·intro w'
     go_simp
     with_reducible rfl
    rotate_left
    ·simp only[Act.put,jq5,jq6,jq7,i64_w,i32_w]
     rfl
    refine take_ (i:=10) (N:=some 15) (v:=?_) (a':=?_) #[Z,Z,Z,Z,Z,Z,Z,Z,Z,Z,Z,Y,Y,Y,Y,Y,Y,Y,Y,Y,Y,Y,Y,Y,Y,Y] rfl rfl (take_ofW HT_.out HW_.out (by kernel_rfl)) (fun _ _ _ h=>h) (Or.inl ⟨by rfl,?_⟩) hHeld ?_ ?_
    rotate_left
    ·rintro w' ⟨s0,s1,s2,s3⟩
     go_simp
     with_reducible rfl
    rotate_left
    ·simp only[Act.put,jq5,jq6,jq7,i64_w,i32_w]
     rfl
    refine one_ (i:=11) (N:=some 16) #[Z,Z,Z,Z,Z,Z,Z,Z,Z,Z,Z,Z,Y,Y,Y,Y,Y,Y,Y,Y,Y,Y,Y,Y,Y,Y] rfl rfl (one_of HT_.out (by kernel_rfl)) (by decide) (fun K hK=>?_)
    refine Kd.N_lit_step (Kd.slice 5 (Kd.int .u8)) _ 22 ?hg (N':=16) ?hd (xs:=([l1_1]:List (List Int))) (inner:=[.slice A1_1 l1_1.length c1_1]) (ok:=(fun k_=>(P1_1_ k_∨w.heap.size≤k_)∧k_≠gb101)) (okp:=(fun k_=>(P1_1_ k_∨w.heap.size≤k_)∧k_≠gb101)) ?hr ?hp (fun _ hk=>hk) ((show ∀ k_,w10.heap.size≤k_→(fun k_=>(P1_1_ k_∨w.heap.size≤k_)∧k_≠gb101) k_ from fun k_ hk=>⟨(.inr (Nat.le_trans (zj (by solve_by_elim (maxDepth:=20) only[HB.out,G,J,qq,qk,GE101.out])) hk)),Kd.freshB (g:=gb101) (o:=.cells #[.int .i64 a1_0,.slice A1_1 l1_1.length c1_1,.int .i64 a1_2,.int .i64 a1_3] 61 (0,0)) (by solve_by_elim only[BK101.out,qw,qx,qv]) k_ hk⟩) _ (Nat.le_refl _)) (Below.refl _ _) (Nat.le_refl _) (by simp) ?_;(case hd=>rfl);(case hg=>rfl);(case hr=>first|(go_simp;done)|(go_simp;rfl));(case hp=>exact(Reps.one (show Kd.FK (Kd.slice 5 (Kd.int .u8)) _ _ l1_1 [.slice A1_1 l1_1.length c1_1] from(Kd.FK_slice_mk (Kd.V_reads' (Kd.V_mono (ok':=(fun k_=>(P1_1_ k_∨w.heap.size≤k_)∧k_≠gb101)) (HO1_1.out) (fun k_ hk=>⟨hk.1,hk.2⟩))).2.1 (Kd.V_F (Kd.V_mono (ok':=(fun k_=>(P1_1_ k_∨w.heap.size≤k_)∧k_≠gb101)) (HO1_1.out) (fun k_ hk=>⟨hk.1,hk.2⟩))))) (Reps.none _ _)))
    intro v103 w11 ho12 hb hg_ hnew_
    clear hg_ hnew_
    (first|rw[← Ny102.out] at ho12|(simp only[Int.reduceToNat] at ho12;rw[← Ny102.out] at ho12))
    replace HO1_1:=U.mk (Kd.V_elder' (by(with_reducible repeat(first|apply Kd.vv|apply Kd.vk|apply Kd.vw));exact HO1_1.out) (Kd.N_base ho12) hb)
    have HO104:=U.mk (Kd.N_lower ho12 (zj (by solve_by_elim (maxDepth:=20) only[HB.out,G,J,qq,qk,GE101.out])))
    replace BK101:=U.mk (vx (g:=gb101) (o:=.cells #[.int .i64 a1_0,.slice A1_1 l1_1.length c1_1,.int .i64 a1_2,.int .i64 a1_3] 61 (0,0)) (by solve_by_elim only[BK101.out,qw,qx,qv]) hb)
    replace HB:=U.mk (zz (by solve_by_elim (maxDepth:=20) only[HB.out,G,J,qq,qk,GE101.out]) hb)
    clear hb ho12
    obtain⟨Ao13,co13,eo13⟩:=Kd.N_slice HO104.out
    (first|subst eo13|(injection eo13 with f1_ f2_ f3_;have f4_:=f1_.symm;have f5_:=f3_.symm;clear f1_ f2_ f3_;subst f4_;subst f5_))
    refine hK.out _ _ ⟨(qj BK101.out 0).trans rfl,(qj BK101.out 1).trans rfl,(qj BK101.out 2).trans rfl,(qj BK101.out 3).trans rfl⟩ (fun hHeld=>?_)
    clear hK K
    refine norm_ (a':=?_) ?_ ?_
    rotate_left
    ·show Act.put _ (some 16) _=_
     simp only[Act.put,jq5,jq6,jq7,i64_w,i32_w]
     rfl
    refine one_ (i:=12) (N:=some 17) #[Z,Z,Z,Z,Z,Z,Z,Z,Z,Z,Z,Z,Z,Y,Y,Y,Y,Y,Y,Y,Y,Y,Y,Y,Y,Y] rfl rfl (one_of HT_.out (by kernel_rfl)) (by decide) (fun K hK=>?_)
    refine goes_ Try.func92 (by kernel_rfl) rfl #[.slice Ao13 y102.length co13] (by rfl) rfl rfl (by(try simp only[jq0,jq1,jq2]);first|done|rfl|(simp only[jq3,jq4];rfl)) ?_
    with_reducible refine(qjz.calls _ _ y102 true _ ?side1 ?side2 A5.out).mono ?_
    (case side1=>solve_by_elim only[(Kd.N_reads' HO104.out).2.2,Kd.C_alloc,Kd.C_drewN,Kd.C_drew])
    (case side2=>exact(Kd.N_reads' HO104.out).2.1)
    rintro e w' ⟨rfl,⟨nd,rfl⟩⟩
    refine⟨_,rfl,?_⟩
    refine hK.out _ _ ⟨(qj BK101.out 0).trans rfl,(qj BK101.out 1).trans rfl,(qj BK101.out 2).trans rfl,(qj BK101.out 3).trans rfl⟩ (fun hHeld=>?_)
    clear hK K
    refine norm_ (a':=?_) ?_ ?_
    rotate_left
    ·show Act.put _ (some 17) _=_
     simp only[Act.put,jq5,jq6,jq7,i64_w,i32_w]
     rfl
    refine pure_ (i:=13) (N:=some 18) (v:=?_) (a':=?_) #[Z,Z,Z,Z,Z,Z,Z,Z,Z,Z,Z,Z,Z,Z,Y,Y,Y,Y,Y,Y,Y,Y,Y,Y,Y,Y] rfl rfl (any_of HT_.out (by kernel_rfl)) (fun _ _ _ h=>h) (Or.inl ⟨by rfl,?_⟩) ?_ ?_
    rotate_left
    ·intro w'
     go_simp
     with_reducible rfl
    rotate_left
    ·simp only[Act.put,jq5,jq6,jq7,i64_w,i32_w]
     rfl
    refine pure_ (i:=14) (N:=some 19) (v:=?_) (a':=?_) #[Z,Z,Z,Z,Z,Z,Z,Z,Z,Z,Z,Z,Z,Z,Z,Y,Y,Y,Y,Y,Y,Y,Y,Y,Y,Y] rfl rfl (any_of HT_.out (by kernel_rfl)) (fun _ _ _ h=>h) (Or.inl ⟨by rfl,?_⟩) ?_ ?_
    rotate_left
    ·intro w'
     go_simp
     with_reducible rfl
    rotate_left
    ·simp only[Act.put,jq5,jq6,jq7,i64_w,i32_w]
     rfl
    refine pure_ (i:=15) (N:=some 20) (v:=?_) (a':=?_) #[Z,Z,Z,Z,Z,Z,Z,Z,Z,Z,Z,Z,Z,Z,Z,Z,Y,Y,Y,Y,Y,Y,Y,Y,Y,Y] rfl rfl (any_of HT_.out (by kernel_rfl)) (fun _ _ _ h=>h) (Or.inl ⟨by rfl,?_⟩) ?_ ?_
    rotate_left
    ·intro w'
     go_simp
     with_reducible rfl
    rotate_left
    ·simp only[Act.put,jq5,jq6,jq7,i64_w,i32_w]
     rfl
    refine pure_ (i:=16) (N:=some 21) (v:=?_) (a':=?_) #[Z,Z,Z,Z,Z,Z,Z,Z,Z,Z,Z,Z,Z,Z,Z,Z,Z,Y,Y,Y,Y,Y,Y,Y,Y,Y] rfl rfl (any_of HT_.out (by kernel_rfl)) (fun _ _ _ h=>h) (Or.inl ⟨by rfl,?_⟩) ?_ ?_
    rotate_left
    ·intro w'
     go_simp
     with_reducible rfl
    rotate_left
    ·simp only[Act.put,jq5,jq6,jq7,i64_w,i32_w]
     rfl
    refine pure_ (i:=18) (N:=some 23) (v:=?_) (a':=?_) #[Z,Z,Z,Z,Z,Z,Z,Z,Z,Z,Z,Z,Z,Z,Z,Z,Z,Y,Z,Y,Y,Y,Y,Y,Y,Y] rfl rfl (any_of HT_.out (by kernel_rfl)) (fun _ _ _ h=>h) (Or.inl ⟨by rfl,?_⟩) ?_ ?_
    rotate_left
    ·intro w'
     go_simp
     with_reducible rfl
    rotate_left
    ·simp only[Act.put,jq5,jq6,jq7,i64_w,i32_w]
     rfl
    refine pure_ (i:=21) (N:=some 26) (v:=?_) (a':=?_) #[Z,Z,Z,Z,Z,Z,Z,Z,Z,Z,Z,Z,Z,Z,Z,Z,Z,Y,Z,Y,Y,Z,Y,Y,Y,Y] rfl rfl (any_of HT_.out (by kernel_rfl)) (fun _ _ _ h=>h) (Or.inl ⟨by rfl,?_⟩) ?_ ?_
    rotate_left
    ·intro w'
     go_simp
     with_reducible rfl
    rotate_left
    ·simp only[Act.put,jq5,jq6,jq7,i64_w,i32_w]
     rfl
    refine take_ (i:=17) (N:=some 22) (v:=?_) (a':=?_) #[Z,Z,Z,Z,Z,Z,Z,Z,Z,Z,Z,Z,Z,Z,Z,Z,Z,Z,Z,Y,Y,Z,Y,Y,Y,Y] rfl rfl (take_ofW HT_.out HW_.out (by kernel_rfl)) (fun _ _ _ h=>h) (Or.inl ⟨by rfl,?_⟩) hHeld ?_ ?_
    rotate_left
    ·rintro w' ⟨s0,s1,s2,s3⟩
     go_simp
     with_reducible rfl
    rotate_left
    ·simp only[Act.put,jq5,jq6,jq7,i64_w,i32_w]
     rfl
    refine take_ (i:=19) (N:=some 24) (v:=?_) (a':=?_) #[Z,Z,Z,Z,Z,Z,Z,Z,Z,Z,Z,Z,Z,Z,Z,Z,Z,Z,Z,Z,Y,Z,Y,Y,Y,Y] rfl rfl (take_ofW HT_.out HW_.out (by kernel_rfl)) (fun _ _ _ h=>h) (Or.inl ⟨by rfl,?_⟩) hHeld ?_ ?_
    rotate_left
    ·rintro w' ⟨s0,s1,s2,s3⟩
     go_simp
     with_reducible rfl
    rotate_left
    ·simp only[Act.put,jq5,jq6,jq7,i64_w,i32_w]
     rfl
    refine take_ (i:=22) (N:=some 27) (v:=?_) (a':=?_) #[Z,Z,Z,Z,Z,Z,Z,Z,Z,Z,Z,Z,Z,Z,Z,Z,Z,Z,Z,Z,Y,Z,Z,Y,Y,Y] rfl rfl (take_ofW HT_.out HW_.out (by kernel_rfl)) (fun _ _ _ h=>h) (Or.inl ⟨by rfl,?_⟩) hHeld ?_ ?_
    rotate_left
    ·rintro w' ⟨s0,s1,s2,s3⟩
     go_simp
     with_reducible rfl
    rotate_left
    ·simp only[Act.put,jq5,jq6,jq7,i64_w,i32_w]
     rfl
    refine one_ (i:=20) (N:=some 25) #[Z,Z,Z,Z,Z,Z,Z,Z,Z,Z,Z,Z,Z,Z,Z,Z,Z,Z,Z,Z,Z,Z,Z,Y,Y,Y] rfl rfl (one_of HT_.out (by kernel_rfl)) (by decide) (fun K hK=>?_)
    refine goes_ Try.func101 (by kernel_rfl) rfl #[.int .i64 a1_0,.slice A1_1 l1_1.length c1_1] (by rfl) rfl rfl (by(try simp only[jq0,jq1,jq2]);first|done|rfl|(simp only[jq3,jq4];rfl)) ?_
    with_reducible refine(qzz.calls a1_0 _ _ l1_1 t106 _ ?side1 ?side2 A7.out).mono ?_
    (case side1=>solve_by_elim only[(Kd.V_reads' HO1_1.out).2.2,Kd.C_alloc,Kd.C_drewN,Kd.C_drew])
    (case side2=>exact(Kd.V_reads' HO1_1.out).2.1)
    rintro e w14 ⟨v107,rfl,ho0,hb⟩
    refine⟨_,rfl,?_⟩
    replace HO1_1:=U.mk (Kd.V_elder' (by(with_reducible repeat(first|apply Kd.vv|apply Kd.vk|apply Kd.vw));exact HO1_1.out) (Kd.R_base ho0) hb)
    replace HO104:=U.mk (Kd.N_elder' (by solve_by_elim only[HO104.out,Kd.kv,Kd.kk,Kd.kw]) (Kd.R_base ho0) hb)
    have HO108:=U.mk (Kd.R_lower (Kd.R_newM (M:=fun k_=>(w.heap.size≤k_)) ho0 (zj (by solve_by_elim (maxDepth:=20) only[HB.out,G,J,qq,qk,GE101.out])) (fun k_ h_=>h_)) (zj (by solve_by_elim (maxDepth:=20) only[HB.out,G,J,qq,qk,GE101.out])))
    replace BK101:=U.mk (vx (g:=gb101) (o:=.cells #[.int .i64 a1_0,.slice A1_1 l1_1.length c1_1,.int .i64 a1_2,.int .i64 a1_3] 61 (0,0)) (by solve_by_elim only[BK101.out,qw,qx,qv]) hb)
    replace HB:=U.mk (zz (by solve_by_elim (maxDepth:=20) only[HB.out,G,J,qq,qk,GE101.out]) hb)
    (try clear hb)
    (try clear hb2)
    (try clear hk)
    (try clear hi)
    (try clear ho0)
    obtain⟨Ao15,co15,eo15⟩:=Kd.R_slice HO108.out
    (first|subst eo15|(injection eo15 with f1_ f2_ f3_;have f4_:=f1_.symm;have f5_:=f3_.symm;clear f1_ f2_ f3_;subst f4_;subst f5_))
    refine hK.out _ _ ⟨(qj BK101.out 0).trans rfl,(qj BK101.out 1).trans rfl,(qj BK101.out 2).trans rfl,(qj BK101.out 3).trans rfl⟩ (fun hHeld=>?_)
    clear hK K
    refine norm_ (a':=?_) ?_ ?_
    rotate_left
    ·show Act.put _ (some 25) _=_
     simp only[Act.put,jq5,jq6,jq7,i64_w,i32_w]
     rfl
    refine one_ (i:=23) (N:=some 28) #[Z,Z,Z,Z,Z,Z,Z,Z,Z,Z,Z,Z,Z,Z,Z,Z,Z,Z,Z,Z,Z,Z,Z,Z,Y,Y] rfl rfl (one_of HT_.out (by kernel_rfl)) (by decide) (fun K hK=>?_)
    refine goes_ Try.func100 (by kernel_rfl) rfl #[.int .i64 a0,.slice Ao15 t106.length co15,.agg #[.int .i64 a1_2,.int .i64 a1_3]] (by rfl) rfl rfl (by(try simp only[jq0,jq1,jq2]);first|done|rfl|(simp only[jq3,jq4];rfl)) ?_
    with_reducible refine(qqk.calls k a0 _ _ t106 a1_2 a1_3 t109 _ ?side1 ?side2 A8.out).mono ?_
    (case side1=>solve_by_elim only[(Kd.R_reads' HO108.out).2.2,Kd.C_alloc,Kd.C_drewN,Kd.C_drew])
    (case side2=>exact(Kd.R_reads' HO108.out).2.1)
    rintro e w16 ⟨rfl,hb⟩
    refine⟨_,rfl,?_⟩
    replace HO1_1:=U.mk (Kd.V_below (by(with_reducible repeat(first|apply Kd.vv|apply Kd.vk|apply Kd.vw));exact HO1_1.out) hb)
    replace HO104:=U.mk (Kd.N_below (by solve_by_elim only[HO104.out,Kd.kv,Kd.kk,Kd.kw]) hb)
    replace HO108:=U.mk (Kd.R_below (by solve_by_elim only[HO108.out,Kd.zv,Kd.zk,Kd.zw]) hb)
    replace BK101:=U.mk (vx (g:=gb101) (o:=.cells #[.int .i64 a1_0,.slice A1_1 l1_1.length c1_1,.int .i64 a1_2,.int .i64 a1_3] 61 (0,0)) (by solve_by_elim only[BK101.out,qw,qx,qv]) hb)
    replace HB:=U.mk (zz (by solve_by_elim (maxDepth:=20) only[HB.out,G,J,qq,qk,GE101.out]) hb)
    (try clear hb)
    (try clear hb2)
    (try clear hk)
    (try clear hi)
    refine hK.out _ _ ⟨(qj BK101.out 0).trans rfl,(qj BK101.out 1).trans rfl,(qj BK101.out 2).trans rfl,(qj BK101.out 3).trans rfl⟩ (fun hHeld=>?_)
    clear hK K
    refine norm_ (a':=?_) ?_ ?_
    rotate_left
    ·show Act.put _ (some 28) _=_
     simp only[Act.put,jq5,jq6,jq7,i64_w,i32_w]
     rfl
    refine pure_ (i:=24) (N:=some 29) (v:=?_) (a':=?_) #[Z,Z,Z,Z,Z,Z,Z,Z,Z,Z,Z,Z,Z,Z,Z,Z,Z,Z,Z,Z,Z,Z,Z,Z,Z,Y] rfl rfl (any_of HT_.out (by kernel_rfl)) (fun _ _ _ h=>h) (Or.inl ⟨by rfl,?_⟩) ?_ ?_
    rotate_left
    ·intro w'
     go_simp
     with_reducible rfl
    rotate_left
    ·simp only[Act.put,jq5,jq6,jq7,i64_w,i32_w]
     rfl
    refine pure_ (i:=25) (N:=some 4) (v:=?_) (a':=?_) #[Z,Z,Z,Z,Z,Z,Z,Z,Z,Z,Z,Z,Z,Z,Z,Z,Z,Z,Z,Z,Z,Z,Z,Z,Z,Z] rfl rfl (any_of HT_.out (by kernel_rfl)) (fun _ _ _ h=>h) (Or.inl ⟨by rfl,?_⟩) ?_ ?_
    rotate_left
    ·intro w'
     go_simp
     with_reducible rfl
    rotate_left
    ·simp only[Act.put,jq5,jq6,jq7,i64_w,i32_w]
     rfl
    refine done_ (done_of HT_.out (by kernel_rfl)) ?_
    try go_wp2
    go_ret
    exact⟨by first|rfl|(simp[*,jv,jk] <;> rfl),by repeat(first|(with_reducible first|exact HB.out|apply G|apply J|apply qq|refine qk ?_ GE101.out)|exact HB.out)⟩
   ·replace c6:=jq9.mpr c6
    subst c6
    have H1:(some false)=some r:=by rw[if_neg (show ¬ (false=true) by decide)] at H;exact H
    clear H
    have H:=H1
    clear H1
    obtain rfl:=Option.some.inj H
    go_enter Try.func56,Try.ntmps56
    try go_wp2_with (first|((with_reducible refine gate_dst (N:=3) rfl ?_);(try (refine gate_guard (by rfl) ?_;dsimp only));refine box_event ?hg (N:=3) ?hd (cs:=#[.int .i64 a1_0,.slice A1_1 l1_1.length c1_1,.int .i64 a1_2,.int .i64 a1_3]) (t:=61) ?hr ?_;(case hd=>rfl);(case hg=>rfl);(case hr=>first|(go_simp;done)|(go_simp;rfl));intro gb101 hg w17 hbox hb;replace HO1_1:=U.mk (Kd.V_below (Kd.V_elderB (by(with_reducible repeat(first|apply Kd.vv|apply Kd.vk|apply Kd.vw));exact HO1_1.out) gb101 (Nat.le_of_eq hg.symm)) hb);have BK101:=U.mk (hbox);have GW101:=U.mk ((by rw[hg];exact(zj (by solve_by_elim only[HB.out,G,J,qq])):w.heap.size≤gb101));have GE101:=U.mk ((by rw[hg];exact(zj (by solve_by_elim only[HB.out,G,J,qq])):w.heap.size≤gb101));replace HB:=U.mk (zz (by solve_by_elim only[HB.out,G,J,qq]) hb);clear hb hbox hg))
    replace HO1_1:=U.mk (Kd.vw HO1_1.out)
    replace BK101:=U.mk (qx BK101.out)
    replace HB:=U.mk (qq HB.out)
    refine start_ (n:=26) (S:=fun w'=>w'.cell? ⟨gb101,0,none⟩ = some (.int .i64 a1_0)∧w'.cell? ⟨gb101,1,none⟩ = some (.slice A1_1 l1_1.length c1_1)∧w'.cell? ⟨gb101,2,none⟩ = some (.int .i64 a1_2)∧w'.cell? ⟨gb101,3,none⟩ = some (.int .i64 a1_3)) (ds:=[]) #[Y,Y,Y,Y,Y,Y,Y,Y,Y,Y,Y,Y,Y,Y,Y,Y,Y,Y,Y,Y,Y,Y,Y,Y,Y,Y] (by kernel_rfl) rfl rfl ⟨(qj BK101.out 0).trans rfl,(qj BK101.out 1).trans rfl,(qj BK101.out 2).trans rfl,(qj BK101.out 3).trans rfl⟩ (fun hHeld=>?_);refine with_tabW xz.tab1 xz.bits1 (fun HT_ HW_=>?_)
    generalize w17.drew=w18 at HO1_1 BK101 HB hHeld ⊢
    refine pure_ (i:=0) (N:=some 5) (v:=?_) (a':=?_) #[Z,Y,Y,Y,Y,Y,Y,Y,Y,Y,Y,Y,Y,Y,Y,Y,Y,Y,Y,Y,Y,Y,Y,Y,Y,Y] rfl rfl (any_of HT_.out (by kernel_rfl)) (fun _ _ _ h=>h) (Or.inl ⟨by rfl,?_⟩) ?_ ?_
    rotate_left
    ·intro w'
     go_simp
     with_reducible rfl
    rotate_left
    ·simp only[Act.put,jq5,jq6,jq7,i64_w,i32_w]
     rfl
    refine take_ (i:=1) (N:=some 6) (v:=?_) (a':=?_) #[Z,Z,Y,Y,Y,Y,Y,Y,Y,Y,Y,Y,Y,Y,Y,Y,Y,Y,Y,Y,Y,Y,Y,Y,Y,Y] rfl rfl (take_ofW HT_.out HW_.out (by kernel_rfl)) (fun _ _ _ h=>h) (Or.inl ⟨by rfl,?_⟩) hHeld ?_ ?_
    rotate_left
    ·rintro w' ⟨s0,s1,s2,s3⟩
     go_simp
     with_reducible rfl
    rotate_left
    ·simp only[Act.put,jq5,jq6,jq7,i64_w,i32_w]
     rfl
    refine pure_ (i:=2) (N:=some 7) (v:=?_) (a':=?_) #[Z,Z,Z,Y,Y,Y,Y,Y,Y,Y,Y,Y,Y,Y,Y,Y,Y,Y,Y,Y,Y,Y,Y,Y,Y,Y] rfl rfl (any_of HT_.out (by kernel_rfl)) (fun _ _ _ h=>h) (Or.inl ⟨by rfl,?_⟩) ?_ ?_
    rotate_left
    ·intro w'
     go_simp
     with_reducible rfl
    rotate_left
    ·simp only[Act.put,jq5,jq6,jq7,i64_w,i32_w]
     rfl
    refine pure_ (i:=3) (N:=some 8) (v:=?_) (a':=?_) #[Z,Z,Z,Z,Y,Y,Y,Y,Y,Y,Y,Y,Y,Y,Y,Y,Y,Y,Y,Y,Y,Y,Y,Y,Y,Y] rfl rfl (any_of HT_.out (by kernel_rfl)) (fun _ _ _ h=>h) (Or.inl ⟨by rfl,?_⟩) ?_ ?_
    rotate_left
    ·intro w'
     go_simp
     with_reducible rfl
    rotate_left
    ·simp only[Act.put,jq5,jq6,jq7,i64_w,i32_w]
     rfl
    refine pure_ (i:=4) (N:=some 9) (v:=?_) (a':=?_) #[Z,Z,Z,Z,Z,Y,Y,Y,Y,Y,Y,Y,Y,Y,Y,Y,Y,Y,Y,Y,Y,Y,Y,Y,Y,Y] rfl rfl (any_of HT_.out (by kernel_rfl)) (fun _ _ _ h=>h) (Or.inl ⟨by rfl,?_⟩) ?_ ?_
    rotate_left
    ·intro w'
     go_simp
     with_reducible rfl
    rotate_left
    ·simp only[Act.put,jq5,jq6,jq7,i64_w,i32_w]
     rfl
    refine take_ (i:=5) (N:=some 10) (v:=?_) (a':=?_) #[Z,Z,Z,Z,Z,Z,Y,Y,Y,Y,Y,Y,Y,Y,Y,Y,Y,Y,Y,Y,Y,Y,Y,Y,Y,Y] rfl rfl (take_ofW HT_.out HW_.out (by kernel_rfl)) (fun _ _ _ h=>h) (Or.inl ⟨by rfl,?_⟩) hHeld ?_ ?_
    rotate_left
    ·rintro w' ⟨s0,s1,s2,s3⟩
     go_simp
     with_reducible rfl
    rotate_left
    ·simp only[Act.put,jq5,jq6,jq7,i64_w,i32_w]
     rfl
    refine pure_ (i:=6) (N:=some 11) (v:=?_) (a':=?_) #[Z,Z,Z,Z,Z,Z,Z,Y,Y,Y,Y,Y,Y,Y,Y,Y,Y,Y,Y,Y,Y,Y,Y,Y,Y,Y] rfl rfl (any_of HT_.out (by kernel_rfl)) (fun _ _ _ h=>h) (Or.inl ⟨by rfl,?_⟩) ?_ ?_
    rotate_left
    ·intro w'
     go_simp
     with_reducible rfl
    rotate_left
    ·simp only[Act.put,jq5,jq6,jq7,i64_w,i32_w]
     rfl
    refine pure_ (i:=7) (N:=some 12) (v:=?_) (a':=?_) #[Z,Z,Z,Z,Z,Z,Z,Z,Y,Y,Y,Y,Y,Y,Y,Y,Y,Y,Y,Y,Y,Y,Y,Y,Y,Y] rfl rfl (any_of HT_.out (by kernel_rfl)) (fun _ _ _ h=>h) (Or.inl ⟨by rfl,?_⟩) ?_ ?_
    rotate_left
    ·intro w'
     go_simp
     with_reducible rfl
    rotate_left
    ·simp only[Act.put,jq5,jq6,jq7,i64_w,i32_w]
     rfl
    refine pure_ (i:=8) (N:=some 13) (v:=?_) (a':=?_) #[Z,Z,Z,Z,Z,Z,Z,Z,Z,Y,Y,Y,Y,Y,Y,Y,Y,Y,Y,Y,Y,Y,Y,Y,Y,Y] rfl rfl (any_of HT_.out (by kernel_rfl)) (fun _ _ _ h=>h) (Or.inl ⟨by rfl,?_⟩) ?_ ?_
    rotate_left
    ·intro w'
     go_simp
     with_reducible rfl
    rotate_left
    ·simp only[Act.put,jq5,jq6,jq7,i64_w,i32_w]
     rfl
    refine pure_ (i:=9) (N:=some 14) (v:=?_) (a':=?_) #[Z,Z,Z,Z,Z,Z,Z,Z,Z,Z,Y,Y,Y,Y,Y,Y,Y,Y,Y,Y,Y,Y,Y,Y,Y,Y] rfl rfl (any_of HT_.out (by kernel_rfl)) (fun _ _ _ h=>h) (Or.inl ⟨by rfl,?_⟩) ?_ ?_
    rotate_left
    ·intro w'
     go_simp
     with_reducible rfl
    rotate_left
    ·simp only[Act.put,jq5,jq6,jq7,i64_w,i32_w]
     rfl
    refine take_ (i:=10) (N:=some 15) (v:=?_) (a':=?_) #[Z,Z,Z,Z,Z,Z,Z,Z,Z,Z,Z,Y,Y,Y,Y,Y,Y,Y,Y,Y,Y,Y,Y,Y,Y,Y] rfl rfl (take_ofW HT_.out HW_.out (by kernel_rfl)) (fun _ _ _ h=>h) (Or.inl ⟨by rfl,?_⟩) hHeld ?_ ?_
    rotate_left
    ·rintro w' ⟨s0,s1,s2,s3⟩
     go_simp
     with_reducible rfl
    rotate_left
    ·simp only[Act.put,jq5,jq6,jq7,i64_w,i32_w]
     rfl
    refine one_ (i:=11) (N:=some 16) #[Z,Z,Z,Z,Z,Z,Z,Z,Z,Z,Z,Z,Y,Y,Y,Y,Y,Y,Y,Y,Y,Y,Y,Y,Y,Y] rfl rfl (one_of HT_.out (by kernel_rfl)) (by decide) (fun K hK=>?_)
    refine Kd.N_lit_step (Kd.slice 5 (Kd.int .u8)) _ 22 ?hg (N':=16) ?hd (xs:=([l1_1]:List (List Int))) (inner:=[.slice A1_1 l1_1.length c1_1]) (ok:=(fun k_=>(P1_1_ k_∨w.heap.size≤k_)∧k_≠gb101)) (okp:=(fun k_=>(P1_1_ k_∨w.heap.size≤k_)∧k_≠gb101)) ?hr ?hp (fun _ hk=>hk) ((show ∀ k_,w18.heap.size≤k_→(fun k_=>(P1_1_ k_∨w.heap.size≤k_)∧k_≠gb101) k_ from fun k_ hk=>⟨(.inr (Nat.le_trans (zj (by solve_by_elim (maxDepth:=20) only[HB.out,G,J,qq,qk,GE101.out])) hk)),Kd.freshB (g:=gb101) (o:=.cells #[.int .i64 a1_0,.slice A1_1 l1_1.length c1_1,.int .i64 a1_2,.int .i64 a1_3] 61 (0,0)) (by solve_by_elim only[BK101.out,qw,qx,qv]) k_ hk⟩) _ (Nat.le_refl _)) (Below.refl _ _) (Nat.le_refl _) (by simp) ?_;(case hd=>rfl);(case hg=>rfl);(case hr=>first|(go_simp;done)|(go_simp;rfl));(case hp=>exact(Reps.one (show Kd.FK (Kd.slice 5 (Kd.int .u8)) _ _ l1_1 [.slice A1_1 l1_1.length c1_1] from(Kd.FK_slice_mk (Kd.V_reads' (Kd.V_mono (ok':=(fun k_=>(P1_1_ k_∨w.heap.size≤k_)∧k_≠gb101)) (HO1_1.out) (fun k_ hk=>⟨hk.1,hk.2⟩))).2.1 (Kd.V_F (Kd.V_mono (ok':=(fun k_=>(P1_1_ k_∨w.heap.size≤k_)∧k_≠gb101)) (HO1_1.out) (fun k_ hk=>⟨hk.1,hk.2⟩))))) (Reps.none _ _)))
    intro v103 w19 ho20 hb hg_ hnew_
    clear hg_ hnew_
    (first|rw[← Ny102.out] at ho20|(simp only[Int.reduceToNat] at ho20;rw[← Ny102.out] at ho20))
    replace HO1_1:=U.mk (Kd.V_elder' (by(with_reducible repeat(first|apply Kd.vv|apply Kd.vk|apply Kd.vw));exact HO1_1.out) (Kd.N_base ho20) hb)
    have HO104:=U.mk (Kd.N_lower ho20 (zj (by solve_by_elim (maxDepth:=20) only[HB.out,G,J,qq,qk,GE101.out])))
    replace BK101:=U.mk (vx (g:=gb101) (o:=.cells #[.int .i64 a1_0,.slice A1_1 l1_1.length c1_1,.int .i64 a1_2,.int .i64 a1_3] 61 (0,0)) (by solve_by_elim only[BK101.out,qw,qx,qv]) hb)
    replace HB:=U.mk (zz (by solve_by_elim (maxDepth:=20) only[HB.out,G,J,qq,qk,GE101.out]) hb)
    clear hb ho20
    obtain⟨Ao21,co21,eo21⟩:=Kd.N_slice HO104.out
    (first|subst eo21|(injection eo21 with f1_ f2_ f3_;have f4_:=f1_.symm;have f5_:=f3_.symm;clear f1_ f2_ f3_;subst f4_;subst f5_))
    refine hK.out _ _ ⟨(qj BK101.out 0).trans rfl,(qj BK101.out 1).trans rfl,(qj BK101.out 2).trans rfl,(qj BK101.out 3).trans rfl⟩ (fun hHeld=>?_)
    clear hK K
    refine norm_ (a':=?_) ?_ ?_
    rotate_left
    ·show Act.put _ (some 16) _=_
     simp only[Act.put,jq5,jq6,jq7,i64_w,i32_w]
     rfl
    refine one_ (i:=12) (N:=some 17) #[Z,Z,Z,Z,Z,Z,Z,Z,Z,Z,Z,Z,Z,Y,Y,Y,Y,Y,Y,Y,Y,Y,Y,Y,Y,Y] rfl rfl (one_of HT_.out (by kernel_rfl)) (by decide) (fun K hK=>?_)
    refine goes_ Try.func92 (by kernel_rfl) rfl #[.slice Ao21 y102.length co21] (by rfl) rfl rfl (by(try simp only[jq0,jq1,jq2]);first|done|rfl|(simp only[jq3,jq4];rfl)) ?_
    with_reducible refine(qjz.calls _ _ y102 false _ ?side1 ?side2 A5.out).mono ?_
    (case side1=>solve_by_elim only[(Kd.N_reads' HO104.out).2.2,Kd.C_alloc,Kd.C_drewN,Kd.C_drew])
    (case side2=>exact(Kd.N_reads' HO104.out).2.1)
    rintro e w' ⟨rfl,⟨nd,rfl⟩⟩
    refine⟨_,rfl,?_⟩
    refine hK.out _ _ ⟨(qj BK101.out 0).trans rfl,(qj BK101.out 1).trans rfl,(qj BK101.out 2).trans rfl,(qj BK101.out 3).trans rfl⟩ (fun hHeld=>?_)
    clear hK K
    refine norm_ (a':=?_) ?_ ?_
    rotate_left
    ·show Act.put _ (some 17) _=_
     simp only[Act.put,jq5,jq6,jq7,i64_w,i32_w]
     rfl
    refine pure_ (i:=13) (N:=some 18) (v:=?_) (a':=?_) #[Z,Z,Z,Z,Z,Z,Z,Z,Z,Z,Z,Z,Z,Z,Y,Y,Y,Y,Y,Y,Y,Y,Y,Y,Y,Y] rfl rfl (any_of HT_.out (by kernel_rfl)) (fun _ _ _ h=>h) (Or.inl ⟨by rfl,?_⟩) ?_ ?_
    rotate_left
    ·intro w'
     go_simp
     with_reducible rfl
    rotate_left
    ·simp only[Act.put,jq5,jq6,jq7,i64_w,i32_w]
     rfl
    refine pure_ (i:=14) (N:=some 19) (v:=?_) (a':=?_) #[Z,Z,Z,Z,Z,Z,Z,Z,Z,Z,Z,Z,Z,Z,Z,Y,Y,Y,Y,Y,Y,Y,Y,Y,Y,Y] rfl rfl (any_of HT_.out (by kernel_rfl)) (fun _ _ _ h=>h) (Or.inl ⟨by rfl,?_⟩) ?_ ?_
    rotate_left
    ·intro w'
     go_simp
     with_reducible rfl
    rotate_left
    ·simp only[Act.put,jq5,jq6,jq7,i64_w,i32_w]
     rfl
    refine pure_ (i:=15) (N:=some 20) (v:=undef) (a':=?_) #[Z,Z,Z,Z,Z,Z,Z,Z,Z,Z,Z,Z,Z,Z,Z,Z,Y,Y,Y,Y,Y,Y,Y,Y,Y,Y] rfl rfl (any_of HT_.out (by kernel_rfl)) (fun _ _ _ h=>h) (Or.inr ⟨by rfl,rfl⟩) ?_ ?_
    rotate_left
    ·simp only[Act.put,jq5,jq6,jq7,i64_w,i32_w]
     rfl
    refine pure_ (i:=16) (N:=some 21) (v:=undef) (a':=?_) #[Z,Z,Z,Z,Z,Z,Z,Z,Z,Z,Z,Z,Z,Z,Z,Z,Z,Y,Y,Y,Y,Y,Y,Y,Y,Y] rfl rfl (any_of HT_.out (by kernel_rfl)) (fun _ _ _ h=>h) (Or.inr ⟨by rfl,rfl⟩) ?_ ?_
    rotate_left
    ·simp only[Act.put,jq5,jq6,jq7,i64_w,i32_w]
     rfl
    refine pure_ (i:=17) (N:=some 22) (v:=undef) (a':=?_) #[Z,Z,Z,Z,Z,Z,Z,Z,Z,Z,Z,Z,Z,Z,Z,Z,Z,Z,Y,Y,Y,Y,Y,Y,Y,Y] rfl rfl (any_of HT_.out (by kernel_rfl)) (fun _ _ _ h=>h) (Or.inr ⟨by rfl,rfl⟩) ?_ ?_
    rotate_left
    ·simp only[Act.put,jq5,jq6,jq7,i64_w,i32_w]
     rfl
    refine pure_ (i:=18) (N:=some 23) (v:=undef) (a':=?_) #[Z,Z,Z,Z,Z,Z,Z,Z,Z,Z,Z,Z,Z,Z,Z,Z,Z,Z,Z,Y,Y,Y,Y,Y,Y,Y] rfl rfl (any_of HT_.out (by kernel_rfl)) (fun _ _ _ h=>h) (Or.inr ⟨by rfl,rfl⟩) ?_ ?_
    rotate_left
    ·simp only[Act.put,jq5,jq6,jq7,i64_w,i32_w]
     rfl
    refine pure_ (i:=19) (N:=some 24) (v:=undef) (a':=?_) #[Z,Z,Z,Z,Z,Z,Z,Z,Z,Z,Z,Z,Z,Z,Z,Z,Z,Z,Z,Z,Y,Y,Y,Y,Y,Y] rfl rfl (any_of HT_.out (by kernel_rfl)) (fun _ _ _ h=>h) (Or.inr ⟨by rfl,rfl⟩) ?_ ?_
    rotate_left
    ·simp only[Act.put,jq5,jq6,jq7,i64_w,i32_w]
     rfl
    refine pure_ (i:=20) (N:=some 25) (v:=undef) (a':=?_) #[Z,Z,Z,Z,Z,Z,Z,Z,Z,Z,Z,Z,Z,Z,Z,Z,Z,Z,Z,Z,Z,Y,Y,Y,Y,Y] rfl rfl (any_of HT_.out (by kernel_rfl)) (fun _ _ _ h=>h) (Or.inr ⟨by rfl,rfl⟩) ?_ ?_
    rotate_left
    ·simp only[Act.put,jq5,jq6,jq7,i64_w,i32_w]
     rfl
    refine pure_ (i:=21) (N:=some 26) (v:=undef) (a':=?_) #[Z,Z,Z,Z,Z,Z,Z,Z,Z,Z,Z,Z,Z,Z,Z,Z,Z,Z,Z,Z,Z,Z,Y,Y,Y,Y] rfl rfl (any_of HT_.out (by kernel_rfl)) (fun _ _ _ h=>h) (Or.inr ⟨by rfl,rfl⟩) ?_ ?_
    rotate_left
    ·simp only[Act.put,jq5,jq6,jq7,i64_w,i32_w]
     rfl
    refine pure_ (i:=22) (N:=some 27) (v:=undef) (a':=?_) #[Z,Z,Z,Z,Z,Z,Z,Z,Z,Z,Z,Z,Z,Z,Z,Z,Z,Z,Z,Z,Z,Z,Z,Y,Y,Y] rfl rfl (any_of HT_.out (by kernel_rfl)) (fun _ _ _ h=>h) (Or.inr ⟨by rfl,rfl⟩) ?_ ?_
    rotate_left
    ·simp only[Act.put,jq5,jq6,jq7,i64_w,i32_w]
     rfl
    refine pure_ (i:=23) (N:=some 28) (v:=undef) (a':=?_) #[Z,Z,Z,Z,Z,Z,Z,Z,Z,Z,Z,Z,Z,Z,Z,Z,Z,Z,Z,Z,Z,Z,Z,Z,Y,Y] rfl rfl (any_of HT_.out (by kernel_rfl)) (fun _ _ _ h=>h) (Or.inr ⟨by rfl,rfl⟩) ?_ ?_
    rotate_left
    ·simp only[Act.put,jq5,jq6,jq7,i64_w,i32_w]
     rfl
    refine pure_ (i:=24) (N:=some 29) (v:=?_) (a':=?_) #[Z,Z,Z,Z,Z,Z,Z,Z,Z,Z,Z,Z,Z,Z,Z,Z,Z,Z,Z,Z,Z,Z,Z,Z,Z,Y] rfl rfl (any_of HT_.out (by kernel_rfl)) (fun _ _ _ h=>h) (Or.inl ⟨by rfl,?_⟩) ?_ ?_
    rotate_left
    ·intro w'
     go_simp
     with_reducible rfl
    rotate_left
    ·simp only[Act.put,jq5,jq6,jq7,i64_w,i32_w]
     rfl
    refine pure_ (i:=25) (N:=some 4) (v:=?_) (a':=?_) #[Z,Z,Z,Z,Z,Z,Z,Z,Z,Z,Z,Z,Z,Z,Z,Z,Z,Z,Z,Z,Z,Z,Z,Z,Z,Z] rfl rfl (any_of HT_.out (by kernel_rfl)) (fun _ _ _ h=>h) (Or.inl ⟨by rfl,?_⟩) ?_ ?_
    rotate_left
    ·intro w'
     go_simp
     with_reducible rfl
    rotate_left
    ·simp only[Act.put,jq5,jq6,jq7,i64_w,i32_w]
     rfl
    refine done_ (done_of HT_.out (by kernel_rfl)) ?_
    try go_wp2
    go_ret
    exact⟨by first|rfl|(simp[*,jv,jk] <;> rfl),by repeat(first|(with_reducible first|exact HB.out|apply G|apply J|apply qq|refine qk ?_ GE101.out)|exact HB.out)⟩
  ·rw[if_neg c4] at H
   have c4b0:decide (a1_0≤200)=false:=decide_eq_false c4
   clear c4
   obtain rfl:=Option.some.inj H
   go_enter Try.func56,Try.ntmps56
   try go_wp2_with (first|((with_reducible refine gate_dst (N:=3) rfl ?_);(try (refine gate_guard (by rfl) ?_;dsimp only));refine box_event ?hg (N:=3) ?hd (cs:=#[.int .i64 a1_0,.slice A1_1 l1_1.length c1_1,.int .i64 a1_2,.int .i64 a1_3]) (t:=61) ?hr ?_;(case hd=>rfl);(case hg=>rfl);(case hr=>first|(go_simp;done)|(go_simp;rfl));intro gb101 hg w22 hbox hb;replace HO1_1:=U.mk (Kd.V_below (Kd.V_elderB (by(with_reducible repeat(first|apply Kd.vv|apply Kd.vk|apply Kd.vw));exact HO1_1.out) gb101 (Nat.le_of_eq hg.symm)) hb);have BK101:=U.mk (hbox);have GW101:=U.mk ((by rw[hg];exact(zj (by solve_by_elim only[HB.out,G,J,qq])):w.heap.size≤gb101));have GE101:=U.mk ((by rw[hg];exact(zj (by solve_by_elim only[HB.out,G,J,qq])):w.heap.size≤gb101));replace HB:=U.mk (zz (by solve_by_elim only[HB.out,G,J,qq]) hb);clear hb hbox hg))
   replace HO1_1:=U.mk (Kd.vw HO1_1.out)
   replace BK101:=U.mk (qx BK101.out)
   replace HB:=U.mk (qq HB.out)
   refine start_ (n:=26) (S:=fun w'=>w'.cell? ⟨gb101,0,none⟩ = some (.int .i64 a1_0)∧w'.cell? ⟨gb101,1,none⟩ = some (.slice A1_1 l1_1.length c1_1)∧w'.cell? ⟨gb101,2,none⟩ = some (.int .i64 a1_2)∧w'.cell? ⟨gb101,3,none⟩ = some (.int .i64 a1_3)) (ds:=[]) #[Y,Y,Y,Y,Y,Y,Y,Y,Y,Y,Y,Y,Y,Y,Y,Y,Y,Y,Y,Y,Y,Y,Y,Y,Y,Y] (by kernel_rfl) rfl rfl ⟨(qj BK101.out 0).trans rfl,(qj BK101.out 1).trans rfl,(qj BK101.out 2).trans rfl,(qj BK101.out 3).trans rfl⟩ (fun hHeld=>?_);refine with_tabW xz.tab1 xz.bits1 (fun HT_ HW_=>?_)
   generalize w22.drew=w23 at HO1_1 BK101 HB hHeld ⊢
   refine pure_ (i:=0) (N:=some 5) (v:=?_) (a':=?_) #[Z,Y,Y,Y,Y,Y,Y,Y,Y,Y,Y,Y,Y,Y,Y,Y,Y,Y,Y,Y,Y,Y,Y,Y,Y,Y] rfl rfl (any_of HT_.out (by kernel_rfl)) (fun _ _ _ h=>h) (Or.inl ⟨by rfl,?_⟩) ?_ ?_
   rotate_left
   ·intro w'
    go_simp
    with_reducible rfl
   rotate_left
   ·simp only[Act.put,jq5,jq6,jq7,i64_w,i32_w]
    rfl
   refine take_ (i:=1) (N:=some 6) (v:=?_) (a':=?_) #[Z,Z,Y,Y,Y,Y,Y,Y,Y,Y,Y,Y,Y,Y,Y,Y,Y,Y,Y,Y,Y,Y,Y,Y,Y,Y] rfl rfl (take_ofW HT_.out HW_.out (by kernel_rfl)) (fun _ _ _ h=>h) (Or.inl ⟨by rfl,?_⟩) hHeld ?_ ?_
   rotate_left
   ·rintro w' ⟨s0,s1,s2,s3⟩
    go_simp
    with_reducible rfl
   rotate_left
   ·simp only[Act.put,jq5,jq6,jq7,i64_w,i32_w]
    rfl
   refine pure_ (i:=2) (N:=some 7) (v:=?_) (a':=?_) #[Z,Z,Z,Y,Y,Y,Y,Y,Y,Y,Y,Y,Y,Y,Y,Y,Y,Y,Y,Y,Y,Y,Y,Y,Y,Y] rfl rfl (any_of HT_.out (by kernel_rfl)) (fun _ _ _ h=>h) (Or.inl ⟨by rfl,?_⟩) ?_ ?_
   rotate_left
   ·intro w'
    go_simp
    with_reducible rfl
   rotate_left
   ·simp only[Act.put,jq5,jq6,jq7,i64_w,i32_w]
    rfl
   refine pure_ (i:=3) (N:=some 8) (v:=?_) (a':=?_) #[Z,Z,Z,Z,Y,Y,Y,Y,Y,Y,Y,Y,Y,Y,Y,Y,Y,Y,Y,Y,Y,Y,Y,Y,Y,Y] rfl rfl (any_of HT_.out (by kernel_rfl)) (fun _ _ _ h=>h) (Or.inl ⟨by rfl,?_⟩) ?_ ?_
   rotate_left
   ·intro w'
    go_simp
    with_reducible rfl
   rotate_left
   ·simp only[Act.put,jq5,jq6,jq7,i64_w,i32_w]
    rfl
   refine pure_ (i:=4) (N:=some 9) (v:=?_) (a':=?_) #[Z,Z,Z,Z,Z,Y,Y,Y,Y,Y,Y,Y,Y,Y,Y,Y,Y,Y,Y,Y,Y,Y,Y,Y,Y,Y] rfl rfl (any_of HT_.out (by kernel_rfl)) (fun _ _ _ h=>h) (Or.inl ⟨by rfl,?_⟩) ?_ ?_
   rotate_left
   ·intro w'
    go_simp
    with_reducible rfl
   rotate_left
   ·simp only[Act.put,jq5,jq6,jq7,i64_w,i32_w]
    rfl
   refine take_ (i:=5) (N:=some 10) (v:=?_) (a':=?_) #[Z,Z,Z,Z,Z,Z,Y,Y,Y,Y,Y,Y,Y,Y,Y,Y,Y,Y,Y,Y,Y,Y,Y,Y,Y,Y] rfl rfl (take_ofW HT_.out HW_.out (by kernel_rfl)) (fun _ _ _ h=>h) (Or.inl ⟨by rfl,?_⟩) hHeld ?_ ?_
   rotate_left
   ·rintro w' ⟨s0,s1,s2,s3⟩
    go_simp
    with_reducible rfl
   rotate_left
   ·simp only[Act.put,jq5,jq6,jq7,i64_w,i32_w]
    rfl
   refine pure_ (i:=6) (N:=some 11) (v:=?_) (a':=?_) #[Z,Z,Z,Z,Z,Z,Z,Y,Y,Y,Y,Y,Y,Y,Y,Y,Y,Y,Y,Y,Y,Y,Y,Y,Y,Y] rfl rfl (any_of HT_.out (by kernel_rfl)) (fun _ _ _ h=>h) (Or.inl ⟨by rfl,?_⟩) ?_ ?_
   rotate_left
   ·intro w'
    go_simp
    with_reducible rfl
   rotate_left
   ·simp only[Act.put,jq5,jq6,jq7,i64_w,i32_w]
    rfl
   refine pure_ (i:=7) (N:=some 12) (v:=?_) (a':=?_) #[Z,Z,Z,Z,Z,Z,Z,Z,Y,Y,Y,Y,Y,Y,Y,Y,Y,Y,Y,Y,Y,Y,Y,Y,Y,Y] rfl rfl (any_of HT_.out (by kernel_rfl)) (fun _ _ _ h=>h) (Or.inl ⟨by rfl,?_⟩) ?_ ?_
   rotate_left
   ·intro w'
    go_simp
    with_reducible rfl
   rotate_left
   ·simp only[Act.put,jq5,jq6,jq7,i64_w,i32_w]
    rfl
   refine pure_ (i:=8) (N:=some 13) (v:=?_) (a':=?_) #[Z,Z,Z,Z,Z,Z,Z,Z,Z,Y,Y,Y,Y,Y,Y,Y,Y,Y,Y,Y,Y,Y,Y,Y,Y,Y] rfl rfl (any_of HT_.out (by kernel_rfl)) (fun _ _ _ h=>h) (Or.inl ⟨by rfl,?_⟩) ?_ ?_
   rotate_left
   ·intro w'
    go_simp
    with_reducible rfl
   rotate_left
   ·simp only[Act.put,jq5,jq6,jq7,i64_w,i32_w]
    rfl
   refine pure_ (i:=9) (N:=some 14) (v:=undef) (a':=?_) #[Z,Z,Z,Z,Z,Z,Z,Z,Z,Z,Y,Y,Y,Y,Y,Y,Y,Y,Y,Y,Y,Y,Y,Y,Y,Y] rfl rfl (any_of HT_.out (by kernel_rfl)) (fun _ _ _ h=>h) (Or.inr ⟨by rfl,rfl⟩) ?_ ?_
   rotate_left
   ·simp only[Act.put,jq5,jq6,jq7,i64_w,i32_w]
    rfl
   refine pure_ (i:=10) (N:=some 15) (v:=undef) (a':=?_) #[Z,Z,Z,Z,Z,Z,Z,Z,Z,Z,Z,Y,Y,Y,Y,Y,Y,Y,Y,Y,Y,Y,Y,Y,Y,Y] rfl rfl (any_of HT_.out (by kernel_rfl)) (fun _ _ _ h=>h) (Or.inr ⟨by rfl,rfl⟩) ?_ ?_
   rotate_left
   ·simp only[Act.put,jq5,jq6,jq7,i64_w,i32_w]
    rfl
   refine pure_ (i:=11) (N:=some 16) (v:=undef) (a':=?_) #[Z,Z,Z,Z,Z,Z,Z,Z,Z,Z,Z,Z,Y,Y,Y,Y,Y,Y,Y,Y,Y,Y,Y,Y,Y,Y] rfl rfl (any_of HT_.out (by kernel_rfl)) (fun _ _ _ h=>h) (Or.inr ⟨by rfl,rfl⟩) ?_ ?_
   rotate_left
   ·simp only[Act.put,jq5,jq6,jq7,i64_w,i32_w]
    rfl
   refine pure_ (i:=12) (N:=some 17) (v:=undef) (a':=?_) #[Z,Z,Z,Z,Z,Z,Z,Z,Z,Z,Z,Z,Z,Y,Y,Y,Y,Y,Y,Y,Y,Y,Y,Y,Y,Y] rfl rfl (any_of HT_.out (by kernel_rfl)) (fun _ _ _ h=>h) (Or.inr ⟨by rfl,rfl⟩) ?_ ?_
   rotate_left
   ·simp only[Act.put,jq5,jq6,jq7,i64_w,i32_w]
    rfl
   refine pure_ (i:=13) (N:=some 18) (v:=?_) (a':=?_) #[Z,Z,Z,Z,Z,Z,Z,Z,Z,Z,Z,Z,Z,Z,Y,Y,Y,Y,Y,Y,Y,Y,Y,Y,Y,Y] rfl rfl (any_of HT_.out (by kernel_rfl)) (fun _ _ _ h=>h) (Or.inl ⟨by rfl,?_⟩) ?_ ?_
   rotate_left
   ·intro w'
    go_simp
    with_reducible rfl
   rotate_left
   ·simp only[Act.put,jq5,jq6,jq7,i64_w,i32_w]
    rfl
   refine pure_ (i:=14) (N:=some 19) (v:=?_) (a':=?_) #[Z,Z,Z,Z,Z,Z,Z,Z,Z,Z,Z,Z,Z,Z,Z,Y,Y,Y,Y,Y,Y,Y,Y,Y,Y,Y] rfl rfl (any_of HT_.out (by kernel_rfl)) (fun _ _ _ h=>h) (Or.inl ⟨by rfl,?_⟩) ?_ ?_
   rotate_left
   ·intro w'
    go_simp
    with_reducible rfl
   rotate_left
   ·simp only[Act.put,jq5,jq6,jq7,i64_w,i32_w]
    rfl
   refine pure_ (i:=15) (N:=some 20) (v:=undef) (a':=?_) #[Z,Z,Z,Z,Z,Z,Z,Z,Z,Z,Z,Z,Z,Z,Z,Z,Y,Y,Y,Y,Y,Y,Y,Y,Y,Y] rfl rfl (any_of HT_.out (by kernel_rfl)) (fun _ _ _ h=>h) (Or.inr ⟨by rfl,rfl⟩) ?_ ?_
   rotate_left
   ·simp only[Act.put,jq5,jq6,jq7,i64_w,i32_w]
    rfl
   refine pure_ (i:=16) (N:=some 21) (v:=undef) (a':=?_) #[Z,Z,Z,Z,Z,Z,Z,Z,Z,Z,Z,Z,Z,Z,Z,Z,Z,Y,Y,Y,Y,Y,Y,Y,Y,Y] rfl rfl (any_of HT_.out (by kernel_rfl)) (fun _ _ _ h=>h) (Or.inr ⟨by rfl,rfl⟩) ?_ ?_
   rotate_left
   ·simp only[Act.put,jq5,jq6,jq7,i64_w,i32_w]
    rfl
   refine pure_ (i:=17) (N:=some 22) (v:=undef) (a':=?_) #[Z,Z,Z,Z,Z,Z,Z,Z,Z,Z,Z,Z,Z,Z,Z,Z,Z,Z,Y,Y,Y,Y,Y,Y,Y,Y] rfl rfl (any_of HT_.out (by kernel_rfl)) (fun _ _ _ h=>h) (Or.inr ⟨by rfl,rfl⟩) ?_ ?_
   rotate_left
   ·simp only[Act.put,jq5,jq6,jq7,i64_w,i32_w]
    rfl
   refine pure_ (i:=18) (N:=some 23) (v:=undef) (a':=?_) #[Z,Z,Z,Z,Z,Z,Z,Z,Z,Z,Z,Z,Z,Z,Z,Z,Z,Z,Z,Y,Y,Y,Y,Y,Y,Y] rfl rfl (any_of HT_.out (by kernel_rfl)) (fun _ _ _ h=>h) (Or.inr ⟨by rfl,rfl⟩) ?_ ?_
   rotate_left
   ·simp only[Act.put,jq5,jq6,jq7,i64_w,i32_w]
    rfl
   refine pure_ (i:=19) (N:=some 24) (v:=undef) (a':=?_) #[Z,Z,Z,Z,Z,Z,Z,Z,Z,Z,Z,Z,Z,Z,Z,Z,Z,Z,Z,Z,Y,Y,Y,Y,Y,Y] rfl rfl (any_of HT_.out (by kernel_rfl)) (fun _ _ _ h=>h) (Or.inr ⟨by rfl,rfl⟩) ?_ ?_
   rotate_left
   ·simp only[Act.put,jq5,jq6,jq7,i64_w,i32_w]
    rfl
   refine pure_ (i:=20) (N:=some 25) (v:=undef) (a':=?_) #[Z,Z,Z,Z,Z,Z,Z,Z,Z,Z,Z,Z,Z,Z,Z,Z,Z,Z,Z,Z,Z,Y,Y,Y,Y,Y] rfl rfl (any_of HT_.out (by kernel_rfl)) (fun _ _ _ h=>h) (Or.inr ⟨by rfl,rfl⟩) ?_ ?_
   rotate_left
   ·simp only[Act.put,jq5,jq6,jq7,i64_w,i32_w]
    rfl
   refine pure_ (i:=21) (N:=some 26) (v:=undef) (a':=?_) #[Z,Z,Z,Z,Z,Z,Z,Z,Z,Z,Z,Z,Z,Z,Z,Z,Z,Z,Z,Z,Z,Z,Y,Y,Y,Y] rfl rfl (any_of HT_.out (by kernel_rfl)) (fun _ _ _ h=>h) (Or.inr ⟨by rfl,rfl⟩) ?_ ?_
   rotate_left
   ·simp only[Act.put,jq5,jq6,jq7,i64_w,i32_w]
    rfl
   refine pure_ (i:=22) (N:=some 27) (v:=undef) (a':=?_) #[Z,Z,Z,Z,Z,Z,Z,Z,Z,Z,Z,Z,Z,Z,Z,Z,Z,Z,Z,Z,Z,Z,Z,Y,Y,Y] rfl rfl (any_of HT_.out (by kernel_rfl)) (fun _ _ _ h=>h) (Or.inr ⟨by rfl,rfl⟩) ?_ ?_
   rotate_left
   ·simp only[Act.put,jq5,jq6,jq7,i64_w,i32_w]
    rfl
   refine pure_ (i:=23) (N:=some 28) (v:=undef) (a':=?_) #[Z,Z,Z,Z,Z,Z,Z,Z,Z,Z,Z,Z,Z,Z,Z,Z,Z,Z,Z,Z,Z,Z,Z,Z,Y,Y] rfl rfl (any_of HT_.out (by kernel_rfl)) (fun _ _ _ h=>h) (Or.inr ⟨by rfl,rfl⟩) ?_ ?_
   rotate_left
   ·simp only[Act.put,jq5,jq6,jq7,i64_w,i32_w]
    rfl
   refine pure_ (i:=24) (N:=some 29) (v:=?_) (a':=?_) #[Z,Z,Z,Z,Z,Z,Z,Z,Z,Z,Z,Z,Z,Z,Z,Z,Z,Z,Z,Z,Z,Z,Z,Z,Z,Y] rfl rfl (any_of HT_.out (by kernel_rfl)) (fun _ _ _ h=>h) (Or.inl ⟨by rfl,?_⟩) ?_ ?_
   rotate_left
   ·intro w'
    go_simp
    with_reducible rfl
   rotate_left
   ·simp only[Act.put,jq5,jq6,jq7,i64_w,i32_w]
    rfl
   refine pure_ (i:=25) (N:=some 4) (v:=?_) (a':=?_) #[Z,Z,Z,Z,Z,Z,Z,Z,Z,Z,Z,Z,Z,Z,Z,Z,Z,Z,Z,Z,Z,Z,Z,Z,Z,Z] rfl rfl (any_of HT_.out (by kernel_rfl)) (fun _ _ _ h=>h) (Or.inl ⟨by rfl,?_⟩) ?_ ?_
   rotate_left
   ·intro w'
    go_simp
    with_reducible rfl
   rotate_left
   ·simp only[Act.put,jq5,jq6,jq7,i64_w,i32_w]
    rfl
   refine done_ (done_of HT_.out (by kernel_rfl)) ?_
   try go_wp2
   go_ret
   exact⟨by first|rfl|(simp[*,jv,jk] <;> rfl),by repeat(first|(with_reducible first|exact HB.out|apply G|apply J|apply qq|refine qk ?_ GE101.out)|exact HB.out)⟩
 ·rw[if_neg c3] at H
  have c3b0:decide (0≤a1_0)=false:=decide_eq_false c3
  clear c3
  obtain rfl:=Option.some.inj H
  go_enter Try.func56,Try.ntmps56
  try go_wp2_with (first|((with_reducible refine gate_dst (N:=3) rfl ?_);(try (refine gate_guard (by rfl) ?_;dsimp only));refine box_event ?hg (N:=3) ?hd (cs:=#[.int .i64 a1_0,.slice A1_1 l1_1.length c1_1,.int .i64 a1_2,.int .i64 a1_3]) (t:=61) ?hr ?_;(case hd=>rfl);(case hg=>rfl);(case hr=>first|(go_simp;done)|(go_simp;rfl));intro gb101 hg w24 hbox hb;replace HO1_1:=U.mk (Kd.V_below (Kd.V_elderB (by(with_reducible repeat(first|apply Kd.vv|apply Kd.vk|apply Kd.vw));exact HO1_1.out) gb101 (Nat.le_of_eq hg.symm)) hb);have BK101:=U.mk (hbox);have GW101:=U.mk ((by rw[hg];exact(zj (by solve_by_elim only[HB.out,G,J,qq])):w.heap.size≤gb101));have GE101:=U.mk ((by rw[hg];exact(zj (by solve_by_elim only[HB.out,G,J,qq])):w.heap.size≤gb101));replace HB:=U.mk (zz (by solve_by_elim only[HB.out,G,J,qq]) hb);clear hb hbox hg))
  replace HO1_1:=U.mk (Kd.vw HO1_1.out)
  replace BK101:=U.mk (qx BK101.out)
  replace HB:=U.mk (qq HB.out)
  refine start_ (n:=26) (S:=fun w'=>w'.cell? ⟨gb101,0,none⟩ = some (.int .i64 a1_0)∧w'.cell? ⟨gb101,1,none⟩ = some (.slice A1_1 l1_1.length c1_1)∧w'.cell? ⟨gb101,2,none⟩ = some (.int .i64 a1_2)∧w'.cell? ⟨gb101,3,none⟩ = some (.int .i64 a1_3)) (ds:=[]) #[Y,Y,Y,Y,Y,Y,Y,Y,Y,Y,Y,Y,Y,Y,Y,Y,Y,Y,Y,Y,Y,Y,Y,Y,Y,Y] (by kernel_rfl) rfl rfl ⟨(qj BK101.out 0).trans rfl,(qj BK101.out 1).trans rfl,(qj BK101.out 2).trans rfl,(qj BK101.out 3).trans rfl⟩ (fun hHeld=>?_);refine with_tabW xz.tab1 xz.bits1 (fun HT_ HW_=>?_)
  generalize w24.drew=w25 at HO1_1 BK101 HB hHeld ⊢
  refine pure_ (i:=0) (N:=some 5) (v:=?_) (a':=?_) #[Z,Y,Y,Y,Y,Y,Y,Y,Y,Y,Y,Y,Y,Y,Y,Y,Y,Y,Y,Y,Y,Y,Y,Y,Y,Y] rfl rfl (any_of HT_.out (by kernel_rfl)) (fun _ _ _ h=>h) (Or.inl ⟨by rfl,?_⟩) ?_ ?_
  rotate_left
  ·intro w'
   go_simp
   with_reducible rfl
  rotate_left
  ·simp only[Act.put,jq5,jq6,jq7,i64_w,i32_w]
   rfl
  refine take_ (i:=1) (N:=some 6) (v:=?_) (a':=?_) #[Z,Z,Y,Y,Y,Y,Y,Y,Y,Y,Y,Y,Y,Y,Y,Y,Y,Y,Y,Y,Y,Y,Y,Y,Y,Y] rfl rfl (take_ofW HT_.out HW_.out (by kernel_rfl)) (fun _ _ _ h=>h) (Or.inl ⟨by rfl,?_⟩) hHeld ?_ ?_
  rotate_left
  ·rintro w' ⟨s0,s1,s2,s3⟩
   go_simp
   with_reducible rfl
  rotate_left
  ·simp only[Act.put,jq5,jq6,jq7,i64_w,i32_w]
   rfl
  refine pure_ (i:=2) (N:=some 7) (v:=?_) (a':=?_) #[Z,Z,Z,Y,Y,Y,Y,Y,Y,Y,Y,Y,Y,Y,Y,Y,Y,Y,Y,Y,Y,Y,Y,Y,Y,Y] rfl rfl (any_of HT_.out (by kernel_rfl)) (fun _ _ _ h=>h) (Or.inl ⟨by rfl,?_⟩) ?_ ?_
  rotate_left
  ·intro w'
   go_simp
   with_reducible rfl
  rotate_left
  ·simp only[Act.put,jq5,jq6,jq7,i64_w,i32_w]
   rfl
  refine pure_ (i:=3) (N:=some 8) (v:=?_) (a':=?_) #[Z,Z,Z,Z,Y,Y,Y,Y,Y,Y,Y,Y,Y,Y,Y,Y,Y,Y,Y,Y,Y,Y,Y,Y,Y,Y] rfl rfl (any_of HT_.out (by kernel_rfl)) (fun _ _ _ h=>h) (Or.inl ⟨by rfl,?_⟩) ?_ ?_
  rotate_left
  ·intro w'
   go_simp
   with_reducible rfl
  rotate_left
  ·simp only[Act.put,jq5,jq6,jq7,i64_w,i32_w]
   rfl
  refine pure_ (i:=4) (N:=some 9) (v:=undef) (a':=?_) #[Z,Z,Z,Z,Z,Y,Y,Y,Y,Y,Y,Y,Y,Y,Y,Y,Y,Y,Y,Y,Y,Y,Y,Y,Y,Y] rfl rfl (any_of HT_.out (by kernel_rfl)) (fun _ _ _ h=>h) (Or.inr ⟨by rfl,rfl⟩) ?_ ?_
  rotate_left
  ·simp only[Act.put,jq5,jq6,jq7,i64_w,i32_w]
   rfl
  refine pure_ (i:=5) (N:=some 10) (v:=undef) (a':=?_) #[Z,Z,Z,Z,Z,Z,Y,Y,Y,Y,Y,Y,Y,Y,Y,Y,Y,Y,Y,Y,Y,Y,Y,Y,Y,Y] rfl rfl (any_of HT_.out (by kernel_rfl)) (fun _ _ _ h=>h) (Or.inr ⟨by rfl,rfl⟩) ?_ ?_
  rotate_left
  ·simp only[Act.put,jq5,jq6,jq7,i64_w,i32_w]
   rfl
  refine pure_ (i:=6) (N:=some 11) (v:=undef) (a':=?_) #[Z,Z,Z,Z,Z,Z,Z,Y,Y,Y,Y,Y,Y,Y,Y,Y,Y,Y,Y,Y,Y,Y,Y,Y,Y,Y] rfl rfl (any_of HT_.out (by kernel_rfl)) (fun _ _ _ h=>h) (Or.inr ⟨by rfl,rfl⟩) ?_ ?_
  rotate_left
  ·simp only[Act.put,jq5,jq6,jq7,i64_w,i32_w]
   rfl
  refine pure_ (i:=7) (N:=some 12) (v:=?_) (a':=?_) #[Z,Z,Z,Z,Z,Z,Z,Z,Y,Y,Y,Y,Y,Y,Y,Y,Y,Y,Y,Y,Y,Y,Y,Y,Y,Y] rfl rfl (any_of HT_.out (by kernel_rfl)) (fun _ _ _ h=>h) (Or.inl ⟨by rfl,?_⟩) ?_ ?_
  rotate_left
  ·intro w'
   go_simp
   with_reducible rfl
  rotate_left
  ·simp only[Act.put,jq5,jq6,jq7,i64_w,i32_w]
   rfl
  refine pure_ (i:=8) (N:=some 13) (v:=?_) (a':=?_) #[Z,Z,Z,Z,Z,Z,Z,Z,Z,Y,Y,Y,Y,Y,Y,Y,Y,Y,Y,Y,Y,Y,Y,Y,Y,Y] rfl rfl (any_of HT_.out (by kernel_rfl)) (fun _ _ _ h=>h) (Or.inl ⟨by rfl,?_⟩) ?_ ?_
  rotate_left
  ·intro w'
   go_simp
   with_reducible rfl
  rotate_left
  ·simp only[Act.put,jq5,jq6,jq7,i64_w,i32_w]
   rfl
  refine pure_ (i:=9) (N:=some 14) (v:=undef) (a':=?_) #[Z,Z,Z,Z,Z,Z,Z,Z,Z,Z,Y,Y,Y,Y,Y,Y,Y,Y,Y,Y,Y,Y,Y,Y,Y,Y] rfl rfl (any_of HT_.out (by kernel_rfl)) (fun _ _ _ h=>h) (Or.inr ⟨by rfl,rfl⟩) ?_ ?_
  rotate_left
  ·simp only[Act.put,jq5,jq6,jq7,i64_w,i32_w]
   rfl
  refine pure_ (i:=10) (N:=some 15) (v:=undef) (a':=?_) #[Z,Z,Z,Z,Z,Z,Z,Z,Z,Z,Z,Y,Y,Y,Y,Y,Y,Y,Y,Y,Y,Y,Y,Y,Y,Y] rfl rfl (any_of HT_.out (by kernel_rfl)) (fun _ _ _ h=>h) (Or.inr ⟨by rfl,rfl⟩) ?_ ?_
  rotate_left
  ·simp only[Act.put,jq5,jq6,jq7,i64_w,i32_w]
   rfl
  refine pure_ (i:=11) (N:=some 16) (v:=undef) (a':=?_) #[Z,Z,Z,Z,Z,Z,Z,Z,Z,Z,Z,Z,Y,Y,Y,Y,Y,Y,Y,Y,Y,Y,Y,Y,Y,Y] rfl rfl (any_of HT_.out (by kernel_rfl)) (fun _ _ _ h=>h) (Or.inr ⟨by rfl,rfl⟩) ?_ ?_
  rotate_left
  ·simp only[Act.put,jq5,jq6,jq7,i64_w,i32_w]
   rfl
  refine pure_ (i:=12) (N:=some 17) (v:=undef) (a':=?_) #[Z,Z,Z,Z,Z,Z,Z,Z,Z,Z,Z,Z,Z,Y,Y,Y,Y,Y,Y,Y,Y,Y,Y,Y,Y,Y] rfl rfl (any_of HT_.out (by kernel_rfl)) (fun _ _ _ h=>h) (Or.inr ⟨by rfl,rfl⟩) ?_ ?_
  rotate_left
  ·simp only[Act.put,jq5,jq6,jq7,i64_w,i32_w]
   rfl
  refine pure_ (i:=13) (N:=some 18) (v:=?_) (a':=?_) #[Z,Z,Z,Z,Z,Z,Z,Z,Z,Z,Z,Z,Z,Z,Y,Y,Y,Y,Y,Y,Y,Y,Y,Y,Y,Y] rfl rfl (any_of HT_.out (by kernel_rfl)) (fun _ _ _ h=>h) (Or.inl ⟨by rfl,?_⟩) ?_ ?_
  rotate_left
  ·intro w'
   go_simp
   with_reducible rfl
  rotate_left
  ·simp only[Act.put,jq5,jq6,jq7,i64_w,i32_w]
   rfl
  refine pure_ (i:=14) (N:=some 19) (v:=?_) (a':=?_) #[Z,Z,Z,Z,Z,Z,Z,Z,Z,Z,Z,Z,Z,Z,Z,Y,Y,Y,Y,Y,Y,Y,Y,Y,Y,Y] rfl rfl (any_of HT_.out (by kernel_rfl)) (fun _ _ _ h=>h) (Or.inl ⟨by rfl,?_⟩) ?_ ?_
  rotate_left
  ·intro w'
   go_simp
   with_reducible rfl
  rotate_left
  ·simp only[Act.put,jq5,jq6,jq7,i64_w,i32_w]
   rfl
  refine pure_ (i:=15) (N:=some 20) (v:=undef) (a':=?_) #[Z,Z,Z,Z,Z,Z,Z,Z,Z,Z,Z,Z,Z,Z,Z,Z,Y,Y,Y,Y,Y,Y,Y,Y,Y,Y] rfl rfl (any_of HT_.out (by kernel_rfl)) (fun _ _ _ h=>h) (Or.inr ⟨by rfl,rfl⟩) ?_ ?_
  rotate_left
  ·simp only[Act.put,jq5,jq6,jq7,i64_w,i32_w]
   rfl
  refine pure_ (i:=16) (N:=some 21) (v:=undef) (a':=?_) #[Z,Z,Z,Z,Z,Z,Z,Z,Z,Z,Z,Z,Z,Z,Z,Z,Z,Y,Y,Y,Y,Y,Y,Y,Y,Y] rfl rfl (any_of HT_.out (by kernel_rfl)) (fun _ _ _ h=>h) (Or.inr ⟨by rfl,rfl⟩) ?_ ?_
  rotate_left
  ·simp only[Act.put,jq5,jq6,jq7,i64_w,i32_w]
   rfl
  refine pure_ (i:=17) (N:=some 22) (v:=undef) (a':=?_) #[Z,Z,Z,Z,Z,Z,Z,Z,Z,Z,Z,Z,Z,Z,Z,Z,Z,Z,Y,Y,Y,Y,Y,Y,Y,Y] rfl rfl (any_of HT_.out (by kernel_rfl)) (fun _ _ _ h=>h) (Or.inr ⟨by rfl,rfl⟩) ?_ ?_
  rotate_left
  ·simp only[Act.put,jq5,jq6,jq7,i64_w,i32_w]
   rfl
  refine pure_ (i:=18) (N:=some 23) (v:=undef) (a':=?_) #[Z,Z,Z,Z,Z,Z,Z,Z,Z,Z,Z,Z,Z,Z,Z,Z,Z,Z,Z,Y,Y,Y,Y,Y,Y,Y] rfl rfl (any_of HT_.out (by kernel_rfl)) (fun _ _ _ h=>h) (Or.inr ⟨by rfl,rfl⟩) ?_ ?_
  rotate_left
  ·simp only[Act.put,jq5,jq6,jq7,i64_w,i32_w]
   rfl
  refine pure_ (i:=19) (N:=some 24) (v:=undef) (a':=?_) #[Z,Z,Z,Z,Z,Z,Z,Z,Z,Z,Z,Z,Z,Z,Z,Z,Z,Z,Z,Z,Y,Y,Y,Y,Y,Y] rfl rfl (any_of HT_.out (by kernel_rfl)) (fun _ _ _ h=>h) (Or.inr ⟨by rfl,rfl⟩) ?_ ?_
  rotate_left
  ·simp only[Act.put,jq5,jq6,jq7,i64_w,i32_w]
   rfl
  refine pure_ (i:=20) (N:=some 25) (v:=undef) (a':=?_) #[Z,Z,Z,Z,Z,Z,Z,Z,Z,Z,Z,Z,Z,Z,Z,Z,Z,Z,Z,Z,Z,Y,Y,Y,Y,Y] rfl rfl (any_of HT_.out (by kernel_rfl)) (fun _ _ _ h=>h) (Or.inr ⟨by rfl,rfl⟩) ?_ ?_
  rotate_left
  ·simp only[Act.put,jq5,jq6,jq7,i64_w,i32_w]
   rfl
  refine pure_ (i:=21) (N:=some 26) (v:=undef) (a':=?_) #[Z,Z,Z,Z,Z,Z,Z,Z,Z,Z,Z,Z,Z,Z,Z,Z,Z,Z,Z,Z,Z,Z,Y,Y,Y,Y] rfl rfl (any_of HT_.out (by kernel_rfl)) (fun _ _ _ h=>h) (Or.inr ⟨by rfl,rfl⟩) ?_ ?_
  rotate_left
  ·simp only[Act.put,jq5,jq6,jq7,i64_w,i32_w]
   rfl
  refine pure_ (i:=22) (N:=some 27) (v:=undef) (a':=?_) #[Z,Z,Z,Z,Z,Z,Z,Z,Z,Z,Z,Z,Z,Z,Z,Z,Z,Z,Z,Z,Z,Z,Z,Y,Y,Y] rfl rfl (any_of HT_.out (by kernel_rfl)) (fun _ _ _ h=>h) (Or.inr ⟨by rfl,rfl⟩) ?_ ?_
  rotate_left
  ·simp only[Act.put,jq5,jq6,jq7,i64_w,i32_w]
   rfl
  refine pure_ (i:=23) (N:=some 28) (v:=undef) (a':=?_) #[Z,Z,Z,Z,Z,Z,Z,Z,Z,Z,Z,Z,Z,Z,Z,Z,Z,Z,Z,Z,Z,Z,Z,Z,Y,Y] rfl rfl (any_of HT_.out (by kernel_rfl)) (fun _ _ _ h=>h) (Or.inr ⟨by rfl,rfl⟩) ?_ ?_
  rotate_left
  ·simp only[Act.put,jq5,jq6,jq7,i64_w,i32_w]
   rfl
  refine pure_ (i:=24) (N:=some 29) (v:=?_) (a':=?_) #[Z,Z,Z,Z,Z,Z,Z,Z,Z,Z,Z,Z,Z,Z,Z,Z,Z,Z,Z,Z,Z,Z,Z,Z,Z,Y] rfl rfl (any_of HT_.out (by kernel_rfl)) (fun _ _ _ h=>h) (Or.inl ⟨by rfl,?_⟩) ?_ ?_
  rotate_left
  ·intro w'
   go_simp
   with_reducible rfl
  rotate_left
  ·simp only[Act.put,jq5,jq6,jq7,i64_w,i32_w]
   rfl
  refine pure_ (i:=25) (N:=some 4) (v:=?_) (a':=?_) #[Z,Z,Z,Z,Z,Z,Z,Z,Z,Z,Z,Z,Z,Z,Z,Z,Z,Z,Z,Z,Z,Z,Z,Z,Z,Z] rfl rfl (any_of HT_.out (by kernel_rfl)) (fun _ _ _ h=>h) (Or.inl ⟨by rfl,?_⟩) ?_ ?_
  rotate_left
  ·intro w'
   go_simp
   with_reducible rfl
  rotate_left
  ·simp only[Act.put,jq5,jq6,jq7,i64_w,i32_w]
   rfl
  refine done_ (done_of HT_.out (by kernel_rfl)) ?_
  try go_wp2
  go_ret
  exact⟨by first|rfl|(simp[*,jv,jk] <;> rfl),by repeat(first|(with_reducible first|exact HB.out|apply G|apply J|apply qq|refine qk ?_ GE101.out)|exact HB.out)⟩
def qwv.l0:Nat→Int→Int→Option (Int)
 | 0,_,_=>none
 | k + 1,x0,x3=>if (wrap64 (x3 * 2)) < x0 then(qwv.l0 k x0 (wrap64 (x3 * 2))) else(some x3)
def qwv.f (k:Nat) (a0:Int):Option (Int):=qwv.l0 k a0 1
theorem qwv.mono_l:∀ k,(∀ y0 y1,LeO (qwv.l0 k y0 y1) (qwv.l0 (k + 1) y0 y1))
 | 0=>fun _ _ r h=>by simp[qwv.l0] at h
 | k + 1=>by
  have ih0:=qwv.mono_l k
  ·intro y0 y1
   unfold qwv.l0
   repeat' first
   | (with_reducible exact ih0 _ _)
   | (with_reducible exact LeO.refl _)
   | (with_reducible exact LeO.none _)
   | (with_reducible refine LeO.ite ?_ ?_)
   | (with_reducible refine LeO.bind ?_ (fun _=>?_))
   | exact ih0 _ _
   | exact LeO.none _
   | refine LeO.ite ?_ ?_
   | refine LeO.bind ?_ (fun _=>?_)
theorem qwv.mono:∀ a0 k,LeO (qwv.f k a0) (qwv.f (k + 1) a0):=by
 intro a0 k
 have ih0:=qwv.mono_l k
 unfold qwv.f
 repeat' first
   | (with_reducible exact ih0 _ _)
   | (with_reducible exact LeO.refl _)
   | (with_reducible exact LeO.none _)
   | (with_reducible refine LeO.ite ?_ ?_)
   | (with_reducible refine LeO.bind ?_ (fun _=>?_))
   | exact ih0 _ _
   | exact LeO.none _
   | refine LeO.ite ?_ ?_
   | refine LeO.bind ?_ (fun _=>?_)
theorem qwv.calls (k:Nat) (a0:Int) (r:Int) (w:World) (h:qwv.f k a0=some r) :
  Calls Try.prog 119 #[.int .i64 a0] w fun e w'=>e=.returned (.int .i64 r)∧Drawn0 w w':=by
 have H:(qwv.l0 k a0 1)=some r:=h
 clear h
 have H':=U.mk H
 clear H
 go_enter Try.func119,Try.ntmps119
 go_wp2
 go_loopg [3] k (fun kq v3 w'=>∃ (x3_1:Int),v3=.int .i64 x3_1∧U (qwv.l0 kq a0 x3_1=some r)∧U (kq≤k)∧Drawn0 w w')
 case atStart=>exact⟨(1),(by first|rfl|(simp;done)|(simp[*];done)),H',⟨Nat.le_refl _⟩,by repeat(first|exact Drawn0.refl _|apply Drawn0.step)⟩
 case round =>
  clear H'
  try clear c1
  obtain⟨x3_1,rfl,HA,HK1,⟨m1,rfl⟩⟩:=hrel
  cases gk with
  | zero=>exact absurd HA.out (by simp[qwv.l0])
  | succ k1 =>
   have H:=HA.out
   clear HA
   simp only[qwv.l0] at H
   by_cases c2:(wrap64 (x3_1 * 2)) < a0
   ·rw[if_pos c2] at H
    have c2b0:decide ((wrap64 (x3_1 * 2)) < a0)=true:=decide_eq_true c2
    clear c2
    have H':=U.mk H
    clear H
    go_wp2
    go_roundg k1
    case measure=>have:=HK1.out;omega
    case rel=>exact⟨(wrap64 (x3_1 * 2)),(by first|rfl|(simp;done)|(simp[*];done)),H',⟨by have:=HK1.out;omega⟩,by repeat(first|exact Drawn0.refl _|apply Drawn0.step)⟩
   ·rw[if_neg c2] at H
    have c2b0:decide ((wrap64 (x3_1 * 2)) < a0)=false:=decide_eq_false c2
    clear c2
    obtain rfl:=Option.some.inj H
    go_wp2
    go_ret
    exact⟨by first|rfl|(simp;done)|(simp[*];done),by repeat(first|exact Drawn0.refl _|apply Drawn0.step)⟩
def qxq.f (k:Nat) (l0:List Int) (l1:List Int):Option (List Int):=(some (([1]:List Int):List Int)).bind fun y101=>(if y101.length + l0.length < 140737488355328 then((some (y101 ++ l0:List Int)).bind fun y104=>(if y104.length + l1.length < 140737488355328 then((qxw.f k (y104 ++ l1)).bind fun t110=>(some t110)) else(none))) else(none))
theorem qxq.mono:∀ a0 a1 k,LeO (qxq.f k a0 a1) (qxq.f (k + 1) a0 a1):=by
 intro a0 a1 k
 unfold qxq.f
 repeat' first
   | (with_reducible exact qxw.mono _ _)
   | (with_reducible exact LeO.refl _)
   | (with_reducible exact LeO.none _)
   | (with_reducible refine LeO.ite ?_ ?_)
   | (with_reducible refine LeO.bind ?_ (fun _=>?_))
   | exact qxw.mono _ _
   | exact LeO.none _
   | refine LeO.ite ?_ ?_
   | refine LeO.bind ?_ (fun _=>?_)
theorem qxq.calls (k:Nat) (A0:Option Addr) (c0:Nat) (l0:List Int) (A1:Option Addr) (c1:Nat) (l1:List Int) (r:List Int) (w:World) (hr0:Kd.C (Kd.int .u8) w A0 l0.length l0) (hc0:l0.length≤c0) (hr1:Kd.C (Kd.int .u8) w A1 l1.length l1) (hc1:l1.length≤c1) (h:qxq.f k l0 l1=some r) :
  Calls Try.prog 120 #[.slice A0 l0.length c0,.slice A1 l1.length c1] w fun e w'=>∃ v0_:Value,e=.returned (v0_)∧Kd.R (Kd.int .u8) 5 w' w.heap.size (fun _=>True) v0_ r∧Below w.heap.size w w':=by
 have HR0:=U.mk hr0
 have HC0:=U.mk hc0
 clear hr0 hc0
 have HR1:=U.mk hr1
 have HC1:=U.mk hc1
 clear hr1 hc1
 have HB:=U.mk (Below.refl w.heap.size w)
 unfold qxq.f at h
 have H:=h
 clear h
 obtain⟨y101,hy101⟩ : ∃ y_:List Int,y_=(([1]:List Int)):=⟨_,rfl⟩
 replace H:(if y101.length + l0.length < 140737488355328 then((some (y101 ++ l0:List Int)).bind fun y104=>(if y104.length + l1.length < 140737488355328 then((qxw.f k (y104 ++ l1)).bind fun t110=>(some t110)) else(none))) else(none))=some r:=by first|(rw[hy101];with_reducible exact H)|(have H2_:=(Option.bind_some _ _).symm.trans H;rw[hy101];with_reducible exact H2_)|(have H2_:=(Option.bind_some _ _).symm.trans H;with_reducible exact H2_)|with_reducible exact H|(rw[hy101];exact H)|exact H
 have Ny101:=U.mk hy101
 clear hy101
 by_cases c3:y101.length + l0.length < 140737488355328
 ·rw[if_pos c3] at H
  have LMc3:=U.mk c3
  clear c3
  obtain⟨y104,hy104⟩ : ∃ y_:List Int,y_=(y101 ++ l0):=⟨_,rfl⟩
  replace H:(if y104.length + l1.length < 140737488355328 then((qxw.f k (y104 ++ l1)).bind fun t110=>(some t110)) else(none))=some r:=by first|(rw[hy104];with_reducible exact H)|(have H2_:=(Option.bind_some _ _).symm.trans H;rw[hy104];with_reducible exact H2_)|(have H2_:=(Option.bind_some _ _).symm.trans H;with_reducible exact H2_)|with_reducible exact H|(rw[hy104];exact H)|exact H
  have Ny104:=U.mk hy104
  clear hy104
  by_cases c4:y104.length + l1.length < 140737488355328
  ·rw[if_pos c4] at H
   have LMc4:=U.mk c4
   clear c4
   obtain⟨y107,hy107⟩ : ∃ y_:List Int,y_=(y104 ++ l1):=⟨_,rfl⟩
   replace H:((qxw.f k y107).bind fun t110=>(some t110))=some r:=by first|(rw[hy107];with_reducible exact H)|(have H2_:=(Option.bind_some _ _).symm.trans H;rw[hy107];with_reducible exact H2_)|(have H2_:=(Option.bind_some _ _).symm.trans H;with_reducible exact H2_)|with_reducible exact H|(rw[hy107];exact H)|exact H
   have Ny107:=U.mk hy107
   clear hy107
   replace H:=jq8.mp H
   obtain⟨t110,A50,H⟩:=H
   replace H:(some t110)=some r:=H
   have A5:=U.mk A50
   clear A50
   obtain rfl:=Option.some.inj H
   go_enter Try.func120,Try.ntmps120
   go_wp2_with (first|((with_reducible refine gate_dst (N:=6) rfl ?_);refine Kd.R_lit (Kd.int .u8) _ 5 ?hg (N:=6) ?hd (xs:=([1]:List Int)) (inner:=[.int .u8 1]) (ok:=fun _=>True) (okp:=fun _=>True) ?hr ?hp (fun _ hk=>hk) trivial (Below.refl _ _) (Nat.le_refl _) (by simp) ?_;(case hd=>rfl);(case hg=>rfl);(case hr=>first|(go_simp;done)|(go_simp;rfl));(case hp=>exact(Reps.one (show Kd.M (Kd.int .u8) _ _ _ 1 [.int .u8 1] from rfl) (Reps.none _ _)));intro v102 w6 ho7 hb hg_ hnew_;clear hg_ hnew_;(first|rw[← Ny101.out] at ho7|(simp only[Int.reduceToNat] at ho7;rw[← Ny101.out] at ho7));have HO103:=U.mk (Kd.R_lower ho7 (zj (by solve_by_elim only[HB.out,G,J,qq])));replace HB:=U.mk (zz (by solve_by_elim only[HB.out,G,J,qq]) hb);clear hb ho7)|((with_reducible refine gate_builtin (b:=.append) (xs:=#[.tmp 7,.tmp 8]) rfl ?_);at_builtin;refine Kd.R_append_rows (Kd.int .u8) (w0:=w) w.heap.size rfl (.tmp 7) (.tmp 8) 22 5 (.int .u8 0) 1 rfl Try.underlying22 info5 rfl (by decide) (by omega) v102 y101 l0 _ _ _ (fun _=>True) (fun _=>False) rfl rfl ?aO ?aR (fun _ _ h=>h) (fun _ h=>h.elim) ?aF ?aB ?aS ?aL ?_;(case aR=>repeat(first|exact(Kd.C_below HR0.out HB.out)|(with_reducible refine Kd.C_alloc ?_ _)|(with_reducible refine Kd.C_drewN ?_ _)|(with_reducible refine Kd.C_drew ?_)));(case aB=>exact(by solve_by_elim only[HB.out,G,J,qq]));(case aF=>exact(fun _ _=>trivial));(case aO=>exact(by solve_by_elim only[HO103.out,Kd.zv,Kd.zk,Kd.zw]));(case aS=>exact(zj (by solve_by_elim only[HB.out,G,J,qq])));(case aL=>have:=LMc3.out;omega);intro v105 w8 ho hb hg hat;rw[← Ny104.out] at ho;replace HB:=U.mk (hb);have HO106:=U.mk (ho);clear HO103;clear ho hb hg hat)|((with_reducible refine gate_builtin (b:=.append) (xs:=#[.tmp 9,.tmp 10]) rfl ?_);at_builtin;refine Kd.R_append_rows (Kd.int .u8) (w0:=w) w.heap.size rfl (.tmp 9) (.tmp 10) 22 5 (.int .u8 0) 1 rfl Try.underlying22 info5 rfl (by decide) (by omega) v105 y104 l1 _ _ _ (fun _=>True) (fun _=>False) rfl rfl ?aO ?aR (fun _ _ h=>h) (fun _ h=>h.elim) ?aF ?aB ?aS ?aL ?_;(case aR=>repeat(first|exact(Kd.C_below HR1.out HB.out)|(with_reducible refine Kd.C_alloc ?_ _)|(with_reducible refine Kd.C_drewN ?_ _)|(with_reducible refine Kd.C_drew ?_)));(case aB=>exact(by solve_by_elim only[HB.out,G,J,qq]));(case aF=>exact(fun _ _=>trivial));(case aO=>exact(by solve_by_elim only[HO106.out,Kd.zv,Kd.zk,Kd.zw]));(case aS=>exact(zj (by solve_by_elim only[HB.out,G,J,qq])));(case aL=>have:=LMc4.out;omega);intro v108 w9 ho hb hg hat;rw[← Ny107.out] at ho;replace HB:=U.mk (hb);have HO109:=U.mk (ho);clear HO106;clear ho hb hg hat;obtain⟨Ao10,co10,eo10⟩:=Kd.R_slice HO109.out;subst eo10)|((with_reducible refine jw (f:=116) rfl ?_);refine goesL_ (some 12) rfl rfl Try.func116 (by kernel_rfl) rfl #[.slice Ao10 y107.length co10] rfl (by(try simp only[jq0,jq1,jq2]);first|done|rfl|(simp only[jq3,jq4];rfl)) ?_;(with_reducible refine(qxw.calls k _ _ y107 t110 _ ?side1 ?side2 A5.out).mono ?_);(case side1=>solve_by_elim only[(Kd.R_reads' HO109.out).2.2,Kd.C_alloc,Kd.C_drewN,Kd.C_drew]);(case side2=>exact(Kd.R_reads' HO109.out).2.1);rintro e w11 ⟨v111,rfl,ho0,hb⟩;refine⟨_,rfl,?_⟩;have HO112:=U.mk (Kd.R_lower (Kd.R_new' ho0 (Kd.R_lt (by solve_by_elim only[HO109.out,Kd.zv,Kd.zk,Kd.zw]))) (zj (by solve_by_elim only[HB.out,G,J,qq])));replace HO109:=U.mk (Kd.R_elder' (by solve_by_elim only[HO109.out,Kd.zv,Kd.zk,Kd.zw]) (Kd.R_base ho0) hb);replace HB:=U.mk (zz (by solve_by_elim only[HB.out,G,J,qq]) hb);(try clear hb ho0)))
   go_ret
   exact⟨_,by first|rfl|(simp[*,jv,jk] <;> rfl),by(with_reducible repeat(first|apply Kd.zv|apply Kd.zk|apply Kd.zw));exact Kd.R_mono HO112.out (fun _ hk=>trivial),by repeat(first|(with_reducible first|exact HB.out|apply G|apply J|apply qq)|exact HB.out)⟩
  ·rw[if_neg c4] at H
   exact absurd H (by simp)
 ·rw[if_neg c3] at H
  exact absurd H (by simp)
def qxj.f:Nat→List (List Int)→Option (List Int)
 | 0,_=>none
 | k + 1,l0=>if (l0.length:Int)=0 then((qxw.f k ([]:List Int)).bind fun t101=>(some t101)) else(if (l0.length:Int)=1 then(if 0 < (l0.length:Int) then(some (rd_L2 l0 0)) else(none)) else((qwv.f k (l0.length:Int)).bind fun t105=>(if 0≤t105 then(if t105≤(l0.length:Int) then((qxj.f k (l0.take (t105:Int).toNat)).bind fun t111=>((qxj.f k (l0.drop (t105:Int).toNat)).bind fun t119=>((qxq.f k t111 t119).bind fun t122=>(some t122)))) else(none)) else(none))))
def qxj.T7:Bool × List (List Nat × List Nat):=(true,[([],[]),([],[]),([0,1],[0,1]),([2],[2]),([],[]),([],[]),([4,5],[4,5]),([6,3],[6]),([3,7,7],[3,7]),([8,8,0,1,2,3,4,5,6,7,8],[8])])
def qxj.B7:List Nat:=[0,0,3,7,0,0,48,127,255,511]
theorem qxj.tab7:rtab .any (opsOf Try.f81 7)=qxj.T7:=by kernel_rfl
theorem qxj.bits7:waitsOk qxj.T7.2 qxj.B7=true:=by kernel_rfl
theorem qxj.calls (k:Nat):∀ (P0_:Nat→Prop) (A0:Option Addr) (c0:Nat) (l0:List (List Int)) (r:List Int) (w:World) (hs0:Kd.V (Kd.slice 5 (Kd.int .u8)) 22 w w.heap.size (fun k_=>P0_ k_) (.slice A0 l0.length c0) l0) (h:qxj.f k l0=some r),
  Calls Try.prog 81 #[.slice A0 l0.length c0] w fun e w'=>∃ v0_:Value,e=.returned (v0_)∧Kd.V (Kd.int .u8) 5 w' w.heap.size (fun k_=>(P0_ k_∨w.heap.size≤k_)) v0_ r∧Below w.heap.size w w':=by
 induction k using Nat.strongRecOn with
 | _ k ih =>
 intro P0_ A0 c0 l0 r w hs0 h
 cases k with
 | zero=>exact absurd h (by simp[qxj.f])
 | succ k =>
 simp only[qxj.f] at h
 have HO0:=U.mk (show Kd.V (Kd.slice 5 (Kd.int .u8)) 22 w w.heap.size (fun k_=>(P0_ k_∨w.heap.size≤k_)) (.slice A0 l0.length c0) l0 from Kd.V_mono hs0 (fun k_ hk=>.inl hk))
 have HB:=U.mk (Below.refl w.heap.size w)
 have H:(if (l0.length:Int)=0 then((qxw.f k ([]:List Int)).bind fun t101=>(some t101)) else(if (l0.length:Int)=1 then(if 0 < (l0.length:Int) then(some (rd_L2 l0 0)) else(none)) else((qwv.f k (l0.length:Int)).bind fun t105=>(if 0≤t105 then(if t105≤(l0.length:Int) then((qxj.f k (l0.take (t105:Int).toNat)).bind fun t111=>((qxj.f k (l0.drop (t105:Int).toNat)).bind fun t119=>((qxq.f k t111 t119).bind fun t122=>(some t122)))) else(none)) else(none)))))=some r:=h
 clear h
 by_cases c2:(l0.length:Int)=0
 ·rw[if_pos c2] at H
  have c2b0:((l0.length:Int) == 0)=true:=beq_iff_eq.mpr c2
  have c2b1:((l0.length:Int) != 0)=false:=bne_eq_false_iff_eq.mpr c2
  clear c2
  replace H:=jq8.mp H
  obtain⟨t101,A30,H⟩:=H
  replace H:(some t101)=some r:=H
  have A3:=U.mk A30
  clear A30
  obtain rfl:=Option.some.inj H
  go_enter Try.func81,Try.ntmps81
  go_wp2_with (first|((with_reducible refine jw (f:=116) rfl ?_);refine goesL_ (some 8) rfl rfl Try.func116 (by kernel_rfl) rfl #[.slice none 0 0] rfl (by(try simp only[jq0,jq1,jq2]);first|done|rfl|(simp only[jq3,jq4];rfl)) ?_;(refine(qxw.calls k _ _ ([]:List Int) t101 _ ?side1 ?side2 A3.out).mono ?_);(case side1=>exact Kd.C_nil _ _);(case side2=>exact Nat.le_refl _);rintro e w4 ⟨v102,rfl,ho0,hb⟩;refine⟨_,rfl,?_⟩;replace HO0:=U.mk (Kd.V_elder' (by(with_reducible repeat(first|apply Kd.vv|apply Kd.vk|apply Kd.vw));exact HO0.out) (Kd.R_base ho0) hb);have HO103:=U.mk (Kd.R_lower (Kd.R_newM (M:=fun k_=>(w.heap.size≤k_)) ho0 (zj (by solve_by_elim only[HB.out,G,J,qq])) (fun k_ h_=>h_)) (zj (by solve_by_elim only[HB.out,G,J,qq])));replace HB:=U.mk (zz (by solve_by_elim only[HB.out,G,J,qq]) hb);(try clear hb ho0)))
  go_ret
  exact⟨_,by first|rfl|(simp[*,jv,jk] <;> rfl),Kd.V_mono (Kd.R_V (by(with_reducible repeat(first|apply Kd.zv|apply Kd.zk|apply Kd.zw));exact Kd.R_mono HO103.out (fun _ hk=>hk.1))) (fun k_ hk=>by first|exact⟨(.inr (hk.1)),hk.2⟩|exact(.inr (hk))),by repeat(first|(with_reducible first|exact HB.out|apply G|apply J|apply qq)|exact HB.out)⟩
 ·rw[if_neg c2] at H
  have c2b0:((l0.length:Int) == 0)=false:=beq_eq_false_iff_ne.mpr c2
  have c2b1:((l0.length:Int) != 0)=true:=bne_iff_ne.mpr c2
  have c2b2:¬ (l0=[]):=fun h_=>c2 (by rw[h_];rfl)
  by_cases c5:(l0.length:Int)=1
  ·rw[if_pos c5] at H
   have c5b0:((l0.length:Int) == 1)=true:=beq_iff_eq.mpr c5
   have c5b1:((l0.length:Int) != 1)=false:=bne_eq_false_iff_eq.mpr c5
   clear c5
   by_cases c6 : 0 < (l0.length:Int)
   ·rw[if_pos c6] at H
    have c6b0:decide (0 < (l0.length:Int))=true:=decide_eq_true c6
    have c6b1:decide (0 < l0.length)=true:=decide_eq_true (by omega)
    clear c6
    obtain rfl:=Option.some.inj H
    have p104 : 0≤(0:Int):=(by omega)
    have q104 : 0 < (l0.length:Int):=of_decide_eq_true (by assumption)
    obtain⟨ad104,A104_0,c104_0,e104,hx104_0,hl104_0,hi104_0⟩:=at_L2 (Kd.V_reads' HO0.out).2.2 0 p104 q104
    cases e104
    obtain⟨ce104,hce104,hMe104,hcc104⟩:=Kd.V_get HO0.out [] 0 p104 (by first|exact q104|exact of_decide_eq_true (by assumption)|(have e_:=(Kd.V_reads' HO0.out).1;omega))
    obtain⟨ua104_0,uc104_0,rfl,ul104_0,ge104_0⟩:=Kd.FK_slice_open hMe104
    have hv104_0:=hcc104 0 _ rfl
    rw[Nat.add_zero,show((Kd.slice 5 (Kd.int .u8))).sz=1 from rfl,Nat.mul_one] at hv104_0
    replace hv104_0:=Option.some.inj (hv104_0.symm.trans hx104_0)
    injection hv104_0 with hva_ hvn_ hvc_
    rw[hva_] at ge104_0
    rw[hvc_] at ul104_0
    have HL104_0:=U.mk (show Kd.V (Kd.int .u8) 5 _ w.heap.size _ _ (rd_L2 l0 0) from Kd.V_mk ul104_0 ge104_0)
    clear hva_ hvn_ hvc_ ge104_0 ul104_0
    clear hcc104 hce104
    have qi104:(0 < l0.length)=True:=eq_true (by omega)
    (try rw[show((0:Int)).toNat=0 from rfl] at hx104_0)
    (try rw[Addr.add_zero'] at hx104_0)
    have HR104_0:=U.mk hi104_0
    have HC104_0:=U.mk hl104_0
    clear hi104_0 hl104_0
    replace p104:=eq_true p104
    replace q104:=eq_true q104
    go_enter Try.func81,Try.ntmps81
    go_wp2
    go_ret
    exact⟨_,by first|rfl|(simp[*,jv,jk] <;> rfl),by(with_reducible repeat(first|apply Kd.vv|apply Kd.vk|apply Kd.vw));exact HL104_0.out,by repeat(first|(with_reducible first|exact HB.out|apply G|apply J|apply qq)|exact HB.out)⟩
   ·rw[if_neg c6] at H
    exact absurd H (by simp)
  ·rw[if_neg c5] at H
   have c5b0:((l0.length:Int) == 1)=false:=beq_eq_false_iff_ne.mpr c5
   have c5b1:((l0.length:Int) != 1)=true:=bne_iff_ne.mpr c5
   replace H:=jq8.mp H
   obtain⟨t105,A70,H⟩:=H
   try dsimp only at H
   have A7:=U.mk A70
   clear A70
   by_cases c8 : 0≤t105
   ·rw[if_pos c8] at H
    have c8b0:=eq_true c8
    have c8b1:decide (0≤t105)=true:=decide_eq_true c8
    clear c8
    by_cases c9:t105≤(l0.length:Int)
    ·rw[if_pos c9] at H
     have c9b0:=eq_true c9
     have c9b1:decide (t105≤(l0.length:Int))=true:=decide_eq_true c9
     clear c9
     obtain⟨y106,hy106⟩ : ∃ y_:List (List Int),y_=(l0.take (t105:Int).toNat):=⟨_,rfl⟩
     replace H:((qxj.f k y106).bind fun t111=>((qxj.f k (l0.drop (t105:Int).toNat)).bind fun t119=>((qxq.f k t111 t119).bind fun t122=>(some t122))))=some r:=by first|(rw[hy106];with_reducible exact H)|(have H2_:=(Option.bind_some _ _).symm.trans H;rw[hy106];with_reducible exact H2_)|(have H2_:=(Option.bind_some _ _).symm.trans H;with_reducible exact H2_)|with_reducible exact H|(rw[hy106];exact H)|exact H
     have Ny106:=U.mk hy106
     clear hy106
     replace H:=jq8.mp H
     obtain⟨t111,A100,H⟩:=H
     try dsimp only at H
     have A10:=U.mk A100
     clear A100
     have c11b0:=eq_true (of_decide_eq_true (by assumption) : 0≤t105)
     have c12b0:=eq_true (of_decide_eq_true (by assumption):t105≤(l0.length:Int))
     obtain⟨y114,hy114⟩ : ∃ y_:List (List Int),y_=(l0.drop (t105:Int).toNat):=⟨_,rfl⟩
     replace H:((qxj.f k y114).bind fun t119=>((qxq.f k t111 t119).bind fun t122=>(some t122)))=some r:=by first|(rw[hy114];with_reducible exact H)|(have H2_:=(Option.bind_some _ _).symm.trans H;rw[hy114];with_reducible exact H2_)|(have H2_:=(Option.bind_some _ _).symm.trans H;with_reducible exact H2_)|with_reducible exact H|(rw[hy114];exact H)|exact H
     have Ny114:=U.mk hy114
     clear hy114
     replace H:=jq8.mp H
     obtain⟨t119,A130,H⟩:=H
     try dsimp only at H
     have A13:=U.mk A130
     clear A130
     replace H:=jq8.mp H
     obtain⟨t122,A140,H⟩:=H
     replace H:(some t122)=some r:=H
     have A14:=U.mk A140
     clear A140
     obtain rfl:=Option.some.inj H
     go_enter Try.func81,Try.ntmps81
     try go_wp2_with (first|((with_reducible refine jw (f:=119) rfl ?_);refine goesL_ (some 16) rfl rfl Try.func119 (by kernel_rfl) rfl #[.int .i64 (l0.length:Int)] rfl (by(try simp only[jq0,jq1,jq2]);first|done|rfl|(simp only[jq3,jq4];rfl)) ?_;(with_reducible refine(qwv.calls k (l0.length:Int) t105 _ A7.out).mono ?_);rintro e w' ⟨rfl,⟨nd,rfl⟩⟩;refine⟨_,rfl,?_⟩))
     replace HO0:=U.mk (Kd.vw (Kd.vk HO0.out nd))
     replace HB:=U.mk (qq (J HB.out nd))
     have q16:(t105:Int)≤((l0.length:Int):Int):=of_decide_eq_true (by assumption)
     obtain⟨i016,hi016,_,hsz16,_⟩:=info_parts info22
     have hroom16:l0.length≤c0:=(Kd.V_reads' HO0.out).2.1
     have hC16:Kd.F (Kd.slice 5 (Kd.int .u8)) _ _ A0 l0.length l0:=(Kd.V_at (base:=w.heap.size) HO0.out).2.2
     have hcut16:=cut_to (P:=Try.prog) 44 22 .i64 Try.underlying44 hi016 A0 l0.length c0 t105 (of_decide_eq_true (by assumption)) q16 hroom16
     have hr16:=Kd.F_take (m:=(t105:Int).toNat) hC16 (by omega)
     have hy16:y106.length=(t105:Int).toNat:=(by rw[Ny106.out,jq4];omega)
     rw[← Ny106.out] at hr16
     rw[← hy16] at hcut16
     have HO110:=U.mk (show Kd.V (Kd.slice 5 (Kd.int .u8)) 22 _ w.heap.size _ (.slice A0 y106.length c0) y106 from Kd.V_mk (by omega) hr16)
     have HC110:=U.mk (show y106.length≤c0 from by omega)
     clear hr16 hC16 hroom16 hi016 hsz16
     have KY16:=U.mk hy16
     clear hy16
     replace q16:=eq_true q16
     have q17:(t105:Int)≤((l0.length:Int):Int):=of_decide_eq_true (by assumption)
     obtain⟨i017,hi017,_,hsz17,_⟩:=info_parts info22
     have hroom17:l0.length≤c0:=(Kd.V_reads' HO0.out).2.1
     have hC17:Kd.F (Kd.slice 5 (Kd.int .u8)) _ _ A0 l0.length l0:=(Kd.V_at (base:=w.heap.size) HO0.out).2.2
     have q017:(0:Int)≤(t105:Int):=of_decide_eq_true (by assumption)
     have hcut17:=cut_from (P:=Try.prog) 44 22 .i64 Try.underlying44 hi017 1 hsz17 A0 l0.length c0 t105 q017 q17
     have hr17:=Kd.F_cut (m:=(t105:Int).toNat) (c:=c0) hC17 (by omega) hroom17
     obtain⟨A17,hA17⟩ : ∃ A1,A1=(if c0=(t105:Int).toNat then A0 else(A0:Option Addr).map (·.add ((t105:Int).toNat * 1))):=⟨_,rfl⟩
     obtain⟨c17,hc17⟩ : ∃ c1,c1=c0 - (t105:Int).toNat:=⟨_,rfl⟩
     have hy17:y114.length=l0.length - (t105:Int).toNat:=(by rw[Ny114.out,jq3] <;> omega)
     rw[show(l0).drop (t105:Int).toNat=y114 from Ny114.out.symm] at hr17
     replace hr17:Kd.F (Kd.slice 5 (Kd.int .u8)) _ _ A17 y114.length y114:=(by rw[hA17];exact hr17)
     rw[← hy17,← hA17,← hc17] at hcut17
     have HO118:=U.mk (show Kd.V (Kd.slice 5 (Kd.int .u8)) 22 _ w.heap.size _ (.slice A17 y114.length c17) y114 from Kd.V_mk (by rw[hy17,hc17];exact Nat.sub_le_sub_right hroom17 _) hr17)
     have HC118:=U.mk (show y114.length≤c17 from by rw[hy17,hc17];exact Nat.sub_le_sub_right hroom17 _)
     clear hr17 hC17 hroom17 hi017 hsz17 hc17
     have KY17:=U.mk hy17
     have KA17:=U.mk hA17
     clear hy17 hA17
     replace q17:=eq_true q17
     refine start_ (n:=10) (S:=fun w'=>True) (ds:=[]) #[Y,Y,Y,Y,Y,Y,Y,Y,Y,Y] (by kernel_rfl) rfl rfl trivial (fun hHeld=>?_);refine with_tabW qxj.tab7 qxj.bits7 (fun HT_ HW_=>?_)
     generalize (w.drewN nd).drew=w15 at HO0 HB HO110 HO118 hHeld ⊢
     refine pure_ (i:=0) (N:=some 17) (v:=?_) (a':=?_) #[Z,Y,Y,Y,Y,Y,Y,Y,Y,Y] rfl rfl (any_of HT_.out (by kernel_rfl)) (fun _ _ _ h=>h) (Or.inl ⟨by rfl,?_⟩) ?_ ?_
     rotate_left
     ·intro w'
      go_simp
      with_reducible rfl
     rotate_left
     ·simp only[Act.put,jq5,jq6,jq7,i64_w,i32_w]
      rfl
     refine pure_ (i:=1) (N:=some 18) (v:=?_) (a':=?_) #[Z,Z,Y,Y,Y,Y,Y,Y,Y,Y] rfl rfl (any_of HT_.out (by kernel_rfl)) (fun _ _ _ h=>h) (Or.inl ⟨by rfl,?_⟩) ?_ ?_
     rotate_left
     ·intro w'
      go_simp
      with_reducible rfl
     rotate_left
     ·simp only[Act.put,jq5,jq6,jq7,i64_w,i32_w]
      rfl
     refine pure_ (i:=2) (N:=some 19) (v:=?_) (a':=?_) #[Z,Z,Z,Y,Y,Y,Y,Y,Y,Y] rfl rfl (any_of HT_.out (by kernel_rfl)) (fun _ _ _ h=>h) (Or.inl ⟨by rfl,?_⟩) ?_ ?_
     rotate_left
     ·intro w'
      go_simp
      with_reducible rfl
     rotate_left
     ·simp only[Act.put,jq5,jq6,jq7,i64_w,i32_w]
      rfl
     refine pure_ (i:=4) (N:=some 21) (v:=?_) (a':=?_) #[Z,Z,Z,Y,Z,Y,Y,Y,Y,Y] rfl rfl (any_of HT_.out (by kernel_rfl)) (fun _ _ _ h=>h) (Or.inl ⟨by rfl,?_⟩) ?_ ?_
     rotate_left
     ·intro w'
      go_simp
      with_reducible rfl
     rotate_left
     ·simp only[Act.put,jq5,jq6,jq7,i64_w,i32_w]
      rfl
     refine pure_ (i:=5) (N:=some 22) (v:=?_) (a':=?_) #[Z,Z,Z,Y,Z,Z,Y,Y,Y,Y] rfl rfl (any_of HT_.out (by kernel_rfl)) (fun _ _ _ h=>h) (Or.inl ⟨by rfl,?_⟩) ?_ ?_
     rotate_left
     ·intro w'
      go_simp
      with_reducible rfl
     rotate_left
     ·simp only[Act.put,jq5,jq6,jq7,i64_w,i32_w]
      rfl
     refine pure_ (i:=6) (N:=some 23) (v:=?_) (a':=?_) #[Z,Z,Z,Y,Z,Z,Z,Y,Y,Y] rfl rfl (any_of HT_.out (by kernel_rfl)) (fun _ _ _ h=>h) (Or.inl ⟨by rfl,?_⟩) ?_ ?_
     rotate_left
     ·intro w'
      go_simp
      with_reducible rfl
     rotate_left
     ·simp only[Act.put,jq5,jq6,jq7,i64_w,i32_w]
      rfl
     refine one_ (i:=3) (N:=some 20) #[Z,Z,Z,Z,Z,Z,Z,Y,Y,Y] rfl rfl (one_of HT_.out (by kernel_rfl)) (by decide) (fun K hK=>?_)
     refine goes_ Try.func81 (by kernel_rfl) rfl #[.slice A0 y106.length c0] (by rfl) rfl rfl (by(try simp only[jq0,jq1,jq2]);first|done|rfl|(simp only[jq3,jq4];rfl)) ?_
     with_reducible refine(ih k (by omega) (fun k_=>(P0_ k_∨w.heap.size≤k_)) _ _ y106 t111 _ ?side1 A10.out).mono ?_
     (case side1=>exact HO110.out)
     rintro e w18 ⟨v112,rfl,ho0,hb⟩
     refine⟨_,rfl,?_⟩
     replace HO0:=U.mk (Kd.V_below (by(with_reducible repeat(first|apply Kd.vv|apply Kd.vk|apply Kd.vw));exact HO0.out) hb)
     replace HO110:=U.mk (Kd.V_below (by(with_reducible repeat(first|apply Kd.vv|apply Kd.vk|apply Kd.vw));exact HO110.out) hb)
     replace HO118:=U.mk (Kd.V_below (by(with_reducible repeat(first|apply Kd.vv|apply Kd.vk|apply Kd.vw));exact HO118.out) hb)
     have HO113:=U.mk (Kd.V_lower (Kd.V_mono (ok':=fun k_=>(P0_ k_∨w.heap.size≤k_)) ho0 (fun k_ hk_=>Or.elim hk_ (fun hs_=>hs_) (fun hn_=>(.inr (Nat.le_trans (zj (by solve_by_elim only[HB.out,G,J,qq])) hn_))))) (zj (by solve_by_elim only[HB.out,G,J,qq])))
     replace HB:=U.mk (zz (by solve_by_elim only[HB.out,G,J,qq]) hb)
     (try clear hb)
     (try clear hb2)
     (try clear hk)
     (try clear hi)
     (try clear ho0)
     refine hK.out _ _ trivial (fun hHeld=>?_)
     clear hK K
     refine norm_ (a':=?_) ?_ ?_
     rotate_left
     ·show Act.put _ (some 20) _=_
      simp only[Act.put,jq5,jq6,jq7,i64_w,i32_w]
      rfl
     refine one_ (i:=7) (N:=some 24) #[Z,Z,Z,Z,Z,Z,Z,Z,Y,Y] rfl rfl (one_of HT_.out (by kernel_rfl)) (by decide) (fun K hK=>?_)
     refine goes_ Try.func81 (by kernel_rfl) rfl #[.slice A17 y114.length c17] (by rfl) rfl rfl (by(try simp only[jq0,jq1,jq2]);first|done|rfl|(simp only[jq3,jq4];rfl)) ?_
     with_reducible refine(ih k (by omega) (fun k_=>(P0_ k_∨w.heap.size≤k_)) _ _ y114 t119 _ ?side1 A13.out).mono ?_
     (case side1=>exact HO118.out)
     rintro e w19 ⟨v120,rfl,ho0,hb⟩
     refine⟨_,rfl,?_⟩
     replace HO0:=U.mk (Kd.V_below (by(with_reducible repeat(first|apply Kd.vv|apply Kd.vk|apply Kd.vw));exact HO0.out) hb)
     replace HO110:=U.mk (Kd.V_below (by(with_reducible repeat(first|apply Kd.vv|apply Kd.vk|apply Kd.vw));exact HO110.out) hb)
     replace HO118:=U.mk (Kd.V_below (by(with_reducible repeat(first|apply Kd.vv|apply Kd.vk|apply Kd.vw));exact HO118.out) hb)
     replace HO113:=U.mk (Kd.V_below (by(with_reducible repeat(first|apply Kd.vv|apply Kd.vk|apply Kd.vw));exact HO113.out) hb)
     have HO121:=U.mk (Kd.V_lower (Kd.V_mono (ok':=fun k_=>(P0_ k_∨w.heap.size≤k_)) ho0 (fun k_ hk_=>Or.elim hk_ (fun hs_=>hs_) (fun hn_=>(.inr (Nat.le_trans (zj (by solve_by_elim only[HB.out,G,J,qq])) hn_))))) (zj (by solve_by_elim only[HB.out,G,J,qq])))
     replace HB:=U.mk (zz (by solve_by_elim only[HB.out,G,J,qq]) hb)
     (try clear hb)
     (try clear hb2)
     (try clear hk)
     (try clear hi)
     (try clear ho0)
     obtain⟨Ao20,co20,eo20⟩:=Kd.V_slice HO113.out
     (first|subst eo20|(injection eo20 with f1_ f2_ f3_;have f4_:=f1_.symm;have f5_:=f3_.symm;clear f1_ f2_ f3_;subst f4_;subst f5_))
     obtain⟨Ao21,co21,eo21⟩:=Kd.V_slice HO121.out
     (first|subst eo21|(injection eo21 with f1_ f2_ f3_;have f4_:=f1_.symm;have f5_:=f3_.symm;clear f1_ f2_ f3_;subst f4_;subst f5_))
     refine hK.out _ _ trivial (fun hHeld=>?_)
     clear hK K
     refine norm_ (a':=?_) ?_ ?_
     rotate_left
     ·show Act.put _ (some 24) _=_
      simp only[Act.put,jq5,jq6,jq7,i64_w,i32_w]
      rfl
     refine one_ (i:=8) (N:=some 25) #[Z,Z,Z,Z,Z,Z,Z,Z,Z,Y] rfl rfl (one_of HT_.out (by kernel_rfl)) (by decide) (fun K hK=>?_)
     refine goes_ Try.func120 (by kernel_rfl) rfl #[.slice Ao20 t111.length co20,.slice Ao21 t119.length co21] (by rfl) rfl rfl (by(try simp only[jq0,jq1,jq2]);first|done|rfl|(simp only[jq3,jq4];rfl)) ?_
     with_reducible refine(qxq.calls k _ _ t111 _ _ t119 t122 _ ?side1 ?side2 ?side3 ?side4 A14.out).mono ?_
     (case side1=>solve_by_elim only[(Kd.V_reads' HO113.out).2.2,Kd.C_alloc,Kd.C_drewN,Kd.C_drew])
     (case side2=>exact(Kd.V_reads' HO113.out).2.1)
     (case side3=>solve_by_elim only[(Kd.V_reads' HO121.out).2.2,Kd.C_alloc,Kd.C_drewN,Kd.C_drew])
     (case side4=>exact(Kd.V_reads' HO121.out).2.1)
     rintro e w22 ⟨v123,rfl,ho0,hb⟩
     refine⟨_,rfl,?_⟩
     replace HO0:=U.mk (Kd.V_elder' (by(with_reducible repeat(first|apply Kd.vv|apply Kd.vk|apply Kd.vw));exact HO0.out) (Kd.R_base ho0) hb)
     replace HO110:=U.mk (Kd.V_elder' (by(with_reducible repeat(first|apply Kd.vv|apply Kd.vk|apply Kd.vw));exact HO110.out) (Kd.R_base ho0) hb)
     replace HO118:=U.mk (Kd.V_elder' (by(with_reducible repeat(first|apply Kd.vv|apply Kd.vk|apply Kd.vw));exact HO118.out) (Kd.R_base ho0) hb)
     replace HO113:=U.mk (Kd.V_elder' (by(with_reducible repeat(first|apply Kd.vv|apply Kd.vk|apply Kd.vw));exact HO113.out) (Kd.R_base ho0) hb)
     replace HO121:=U.mk (Kd.V_elder' (by(with_reducible repeat(first|apply Kd.vv|apply Kd.vk|apply Kd.vw));exact HO121.out) (Kd.R_base ho0) hb)
     have HO124:=U.mk (Kd.R_lower (Kd.R_newM (M:=fun k_=>(w.heap.size≤k_)) ho0 (zj (by solve_by_elim only[HB.out,G,J,qq])) (fun k_ h_=>h_)) (zj (by solve_by_elim only[HB.out,G,J,qq])))
     replace HB:=U.mk (zz (by solve_by_elim only[HB.out,G,J,qq]) hb)
     (try clear hb)
     (try clear hb2)
     (try clear hk)
     (try clear hi)
     (try clear ho0)
     refine hK.out _ _ trivial (fun hHeld=>?_)
     clear hK K
     refine norm_ (a':=?_) ?_ ?_
     rotate_left
     ·show Act.put _ (some 25) _=_
      simp only[Act.put,jq5,jq6,jq7,i64_w,i32_w]
      rfl
     refine pure_ (i:=9) (N:=some 2) (v:=?_) (a':=?_) #[Z,Z,Z,Z,Z,Z,Z,Z,Z,Z] rfl rfl (any_of HT_.out (by kernel_rfl)) (fun _ _ _ h=>h) (Or.inl ⟨by rfl,?_⟩) ?_ ?_
     rotate_left
     ·intro w'
      go_simp
      with_reducible rfl
     rotate_left
     ·simp only[Act.put,jq5,jq6,jq7,i64_w,i32_w]
      rfl
     refine done_ (done_of HT_.out (by kernel_rfl)) ?_
     try go_wp2
     go_ret
     exact⟨_,by first|rfl|(simp[*,jv,jk] <;> rfl),Kd.V_mono (Kd.R_V (by(with_reducible repeat(first|apply Kd.zv|apply Kd.zk|apply Kd.zw));exact Kd.R_mono HO124.out (fun _ hk=>hk.1))) (fun k_ hk=>by first|exact⟨(.inr (hk.1)),hk.2⟩|exact(.inr (hk))),by repeat(first|(with_reducible first|exact HB.out|apply G|apply J|apply qq)|exact HB.out)⟩
    ·rw[if_neg c9] at H
     exact absurd H (by simp)
   ·rw[if_neg c8] at H
    exact absurd H (by simp)
theorem qxj.callsR (k:Nat) (P0_:Nat→Prop) (N_:Nat) (A0:Option Addr) (c0:Nat) (l0:List (List Int)) (r:List Int) (w:World) (hsR:Kd.R (Kd.slice 5 (Kd.int .u8)) 22 w N_ (fun k_=>P0_ k_) (.slice A0 l0.length c0) l0) (hN:N_≤w.heap.size) (h:qxj.f k l0=some r) :
  Calls Try.prog 81 #[.slice A0 l0.length c0] w fun e w'=>∃ v0_:Value,e=.returned (v0_)∧Kd.R (Kd.int .u8) 5 w' N_ (fun k_=>(P0_ k_∨w.heap.size≤k_)) v0_ r∧Below w.heap.size w w':=by
 have hs0:Kd.V (Kd.slice 5 (Kd.int .u8)) 22 w w.heap.size (fun k_=>P0_ k_) (.slice A0 l0.length c0) l0:=Kd.R_V hsR
 cases k with
 | zero=>exact absurd h (by simp[qxj.f])
 | succ k =>
 simp only[qxj.f] at h
 have HO0:=U.mk (show Kd.V (Kd.slice 5 (Kd.int .u8)) 22 w w.heap.size (fun k_=>(P0_ k_∨w.heap.size≤k_)) (.slice A0 l0.length c0) l0 from Kd.V_mono hs0 (fun k_ hk=>.inl hk))
 have HB:=U.mk (Below.refl w.heap.size w)
 have H:(if (l0.length:Int)=0 then((qxw.f k ([]:List Int)).bind fun t101=>(some t101)) else(if (l0.length:Int)=1 then(if 0 < (l0.length:Int) then(some (rd_L2 l0 0)) else(none)) else((qwv.f k (l0.length:Int)).bind fun t105=>(if 0≤t105 then(if t105≤(l0.length:Int) then((qxj.f k (l0.take (t105:Int).toNat)).bind fun t111=>((qxj.f k (l0.drop (t105:Int).toNat)).bind fun t119=>((qxq.f k t111 t119).bind fun t122=>(some t122)))) else(none)) else(none)))))=some r:=h
 clear h
 by_cases c2:(l0.length:Int)=0
 ·rw[if_pos c2] at H
  have c2b0:((l0.length:Int) == 0)=true:=beq_iff_eq.mpr c2
  have c2b1:((l0.length:Int) != 0)=false:=bne_eq_false_iff_eq.mpr c2
  clear c2
  replace H:=jq8.mp H
  obtain⟨t101,A30,H⟩:=H
  replace H:(some t101)=some r:=H
  have A3:=U.mk A30
  clear A30
  obtain rfl:=Option.some.inj H
  go_enter Try.func81,Try.ntmps81
  go_wp2_with (first|((with_reducible refine jw (f:=116) rfl ?_);refine goesL_ (some 8) rfl rfl Try.func116 (by kernel_rfl) rfl #[.slice none 0 0] rfl (by(try simp only[jq0,jq1,jq2]);first|done|rfl|(simp only[jq3,jq4];rfl)) ?_;(refine(qxw.calls k _ _ ([]:List Int) t101 _ ?side1 ?side2 A3.out).mono ?_);(case side1=>exact Kd.C_nil _ _);(case side2=>exact Nat.le_refl _);rintro e w4 ⟨v102,rfl,ho0,hb⟩;refine⟨_,rfl,?_⟩;replace HO0:=U.mk (Kd.V_elder' (by(with_reducible repeat(first|apply Kd.vv|apply Kd.vk|apply Kd.vw));exact HO0.out) (Kd.R_base ho0) hb);have HO103:=U.mk (Kd.R_lower (Kd.R_newM (M:=fun k_=>(w.heap.size≤k_)) ho0 (zj (by repeat(first|(with_reducible first|exact HB.out|apply G|apply J|apply qq)|exact HB.out))) (fun k_ h_=>h_)) (zj (by repeat(first|(with_reducible first|exact HB.out|apply G|apply J|apply qq)|exact HB.out))));replace HB:=U.mk (zz (by repeat(first|(with_reducible first|exact HB.out|apply G|apply J|apply qq)|exact HB.out)) hb);(try clear hb ho0)))
  go_ret
  exact⟨_,by first|rfl|(simp[*,jv,jk] <;> rfl),Kd.R_lower (Kd.R_mono (by(with_reducible repeat(first|apply Kd.zv|apply Kd.zk|apply Kd.zw));exact Kd.R_mono HO103.out (fun _ hk=>hk.1)) (fun k_ hk=>Or.inr hk)) hN,by repeat(first|(with_reducible first|exact HB.out|apply G|apply J|apply qq)|exact HB.out)⟩
 ·rw[if_neg c2] at H
  have c2b0:((l0.length:Int) == 0)=false:=beq_eq_false_iff_ne.mpr c2
  have c2b1:((l0.length:Int) != 0)=true:=bne_iff_ne.mpr c2
  have c2b2:¬ (l0=[]):=fun h_=>c2 (by rw[h_];rfl)
  by_cases c5:(l0.length:Int)=1
  ·rw[if_pos c5] at H
   have c5b0:((l0.length:Int) == 1)=true:=beq_iff_eq.mpr c5
   have c5b1:((l0.length:Int) != 1)=false:=bne_eq_false_iff_eq.mpr c5
   clear c5
   by_cases c6 : 0 < (l0.length:Int)
   ·rw[if_pos c6] at H
    have c6b0:decide (0 < (l0.length:Int))=true:=decide_eq_true c6
    have c6b1:decide (0 < l0.length)=true:=decide_eq_true (by omega)
    clear c6
    obtain rfl:=Option.some.inj H
    have p104 : 0≤(0:Int):=(by omega)
    have q104 : 0 < (l0.length:Int):=of_decide_eq_true (by assumption)
    obtain⟨ad104,A104_0,c104_0,e104,hx104_0,hl104_0,hi104_0⟩:=at_L2 (Kd.V_reads' HO0.out).2.2 0 p104 q104
    cases e104
    obtain⟨cR,hcR,⟨vR,hvR,hRR⟩,hccR⟩:=Kd.R_getA hsR [] 0 p104 (by first|exact q104|exact of_decide_eq_true (by assumption))
    subst hvR
    have hxR:=hccR 0 vR rfl
    rw[Nat.add_zero,show((Kd.slice 5 (Kd.int .u8))).sz=1 from rfl,Nat.mul_one] at hxR
    replace hxR:=Option.some.inj (hxR.symm.trans hx104_0)
    clear hcR hccR
    subst hxR
    have HRR_:=U.mk (show Kd.R (Kd.int .u8) 5 w N_ (fun k_=>(P0_ k_∨w.heap.size≤k_)) _ (rd_L2 l0 0) from Kd.R_mono hRR (fun k_ hk=>Or.inl hk.1))
    clear hRR
    obtain⟨ce104,hce104,hMe104,hcc104⟩:=Kd.V_get HO0.out [] 0 p104 (by first|exact q104|exact of_decide_eq_true (by assumption)|(have e_:=(Kd.V_reads' HO0.out).1;omega))
    obtain⟨ua104_0,uc104_0,rfl,ul104_0,ge104_0⟩:=Kd.FK_slice_open hMe104
    have hv104_0:=hcc104 0 _ rfl
    rw[Nat.add_zero,show((Kd.slice 5 (Kd.int .u8))).sz=1 from rfl,Nat.mul_one] at hv104_0
    replace hv104_0:=Option.some.inj (hv104_0.symm.trans hx104_0)
    injection hv104_0 with hva_ hvn_ hvc_
    rw[hva_] at ge104_0
    rw[hvc_] at ul104_0
    have HL104_0:=U.mk (show Kd.V (Kd.int .u8) 5 _ w.heap.size _ _ (rd_L2 l0 0) from Kd.V_mk ul104_0 ge104_0)
    clear hva_ hvn_ hvc_ ge104_0 ul104_0
    clear hcc104 hce104
    have qi104:(0 < l0.length)=True:=eq_true (by omega)
    (try rw[show((0:Int)).toNat=0 from rfl] at hx104_0)
    (try rw[Addr.add_zero'] at hx104_0)
    have HR104_0:=U.mk hi104_0
    have HC104_0:=U.mk hl104_0
    clear hi104_0 hl104_0
    replace p104:=eq_true p104
    replace q104:=eq_true q104
    go_enter Try.func81,Try.ntmps81
    go_wp2
    go_ret
    exact⟨_,by first|rfl|(simp[*,jv,jk] <;> rfl),by(with_reducible repeat(first|apply Kd.zv|apply Kd.zk|apply Kd.zw));exact HRR_.out,by repeat(first|(with_reducible first|exact HB.out|apply G|apply J|apply qq)|exact HB.out)⟩
   ·rw[if_neg c6] at H
    exact absurd H (by simp)
  ·rw[if_neg c5] at H
   have c5b0:((l0.length:Int) == 1)=false:=beq_eq_false_iff_ne.mpr c5
   have c5b1:((l0.length:Int) != 1)=true:=bne_iff_ne.mpr c5
   replace H:=jq8.mp H
   obtain⟨t105,A70,H⟩:=H
   try dsimp only at H
   have A7:=U.mk A70
   clear A70
   by_cases c8 : 0≤t105
   ·rw[if_pos c8] at H
    have c8b0:=eq_true c8
    have c8b1:decide (0≤t105)=true:=decide_eq_true c8
    clear c8
    by_cases c9:t105≤(l0.length:Int)
    ·rw[if_pos c9] at H
     have c9b0:=eq_true c9
     have c9b1:decide (t105≤(l0.length:Int))=true:=decide_eq_true c9
     clear c9
     obtain⟨y106,hy106⟩ : ∃ y_:List (List Int),y_=(l0.take (t105:Int).toNat):=⟨_,rfl⟩
     replace H:((qxj.f k y106).bind fun t111=>((qxj.f k (l0.drop (t105:Int).toNat)).bind fun t119=>((qxq.f k t111 t119).bind fun t122=>(some t122))))=some r:=by first|(rw[hy106];with_reducible exact H)|(have H2_:=(Option.bind_some _ _).symm.trans H;rw[hy106];with_reducible exact H2_)|(have H2_:=(Option.bind_some _ _).symm.trans H;with_reducible exact H2_)|with_reducible exact H|(rw[hy106];exact H)|exact H
     have Ny106:=U.mk hy106
     clear hy106
     replace H:=jq8.mp H
     obtain⟨t111,A100,H⟩:=H
     try dsimp only at H
     have A10:=U.mk A100
     clear A100
     have c11b0:=eq_true (of_decide_eq_true (by assumption) : 0≤t105)
     have c12b0:=eq_true (of_decide_eq_true (by assumption):t105≤(l0.length:Int))
     obtain⟨y114,hy114⟩ : ∃ y_:List (List Int),y_=(l0.drop (t105:Int).toNat):=⟨_,rfl⟩
     replace H:((qxj.f k y114).bind fun t119=>((qxq.f k t111 t119).bind fun t122=>(some t122)))=some r:=by first|(rw[hy114];with_reducible exact H)|(have H2_:=(Option.bind_some _ _).symm.trans H;rw[hy114];with_reducible exact H2_)|(have H2_:=(Option.bind_some _ _).symm.trans H;with_reducible exact H2_)|with_reducible exact H|(rw[hy114];exact H)|exact H
     have Ny114:=U.mk hy114
     clear hy114
     replace H:=jq8.mp H
     obtain⟨t119,A130,H⟩:=H
     try dsimp only at H
     have A13:=U.mk A130
     clear A130
     replace H:=jq8.mp H
     obtain⟨t122,A140,H⟩:=H
     replace H:(some t122)=some r:=H
     have A14:=U.mk A140
     clear A140
     obtain rfl:=Option.some.inj H
     go_enter Try.func81,Try.ntmps81
     try go_wp2_with (first|((with_reducible refine jw (f:=119) rfl ?_);refine goesL_ (some 16) rfl rfl Try.func119 (by kernel_rfl) rfl #[.int .i64 (l0.length:Int)] rfl (by(try simp only[jq0,jq1,jq2]);first|done|rfl|(simp only[jq3,jq4];rfl)) ?_;(with_reducible refine(qwv.calls k (l0.length:Int) t105 _ A7.out).mono ?_);rintro e w' ⟨rfl,⟨nd,rfl⟩⟩;refine⟨_,rfl,?_⟩))
     replace HO0:=U.mk (Kd.vw (Kd.vk HO0.out nd))
     replace HB:=U.mk (qq (J HB.out nd))
     have q16:(t105:Int)≤((l0.length:Int):Int):=of_decide_eq_true (by assumption)
     obtain⟨i016,hi016,_,hsz16,_⟩:=info_parts info22
     have hroom16:l0.length≤c0:=(Kd.V_reads' HO0.out).2.1
     have hC16:Kd.F (Kd.slice 5 (Kd.int .u8)) _ _ A0 l0.length l0:=(Kd.V_at (base:=w.heap.size) HO0.out).2.2
     have hcut16:=cut_to (P:=Try.prog) 44 22 .i64 Try.underlying44 hi016 A0 l0.length c0 t105 (of_decide_eq_true (by assumption)) q16 hroom16
     have hr16:=Kd.F_take (m:=(t105:Int).toNat) hC16 (by omega)
     have hy16:y106.length=(t105:Int).toNat:=(by rw[Ny106.out,jq4];omega)
     rw[← Ny106.out] at hr16
     rw[← hy16] at hcut16
     have HO110:=U.mk (show Kd.V (Kd.slice 5 (Kd.int .u8)) 22 _ w.heap.size _ (.slice A0 y106.length c0) y106 from Kd.V_mk (by omega) hr16)
     have HC110:=U.mk (show y106.length≤c0 from by omega)
     clear hr16 hC16 hroom16 hi016 hsz16
     have KY16:=U.mk hy16
     clear hy16
     replace q16:=eq_true q16
     have q17:(t105:Int)≤((l0.length:Int):Int):=of_decide_eq_true (by assumption)
     obtain⟨i017,hi017,_,hsz17,_⟩:=info_parts info22
     have hroom17:l0.length≤c0:=(Kd.V_reads' HO0.out).2.1
     have hC17:Kd.F (Kd.slice 5 (Kd.int .u8)) _ _ A0 l0.length l0:=(Kd.V_at (base:=w.heap.size) HO0.out).2.2
     have q017:(0:Int)≤(t105:Int):=of_decide_eq_true (by assumption)
     have hcut17:=cut_from (P:=Try.prog) 44 22 .i64 Try.underlying44 hi017 1 hsz17 A0 l0.length c0 t105 q017 q17
     have hr17:=Kd.F_cut (m:=(t105:Int).toNat) (c:=c0) hC17 (by omega) hroom17
     obtain⟨A17,hA17⟩ : ∃ A1,A1=(if c0=(t105:Int).toNat then A0 else(A0:Option Addr).map (·.add ((t105:Int).toNat * 1))):=⟨_,rfl⟩
     obtain⟨c17,hc17⟩ : ∃ c1,c1=c0 - (t105:Int).toNat:=⟨_,rfl⟩
     have hy17:y114.length=l0.length - (t105:Int).toNat:=(by rw[Ny114.out,jq3] <;> omega)
     rw[show(l0).drop (t105:Int).toNat=y114 from Ny114.out.symm] at hr17
     replace hr17:Kd.F (Kd.slice 5 (Kd.int .u8)) _ _ A17 y114.length y114:=(by rw[hA17];exact hr17)
     rw[← hy17,← hA17,← hc17] at hcut17
     have HO118:=U.mk (show Kd.V (Kd.slice 5 (Kd.int .u8)) 22 _ w.heap.size _ (.slice A17 y114.length c17) y114 from Kd.V_mk (by rw[hy17,hc17];exact Nat.sub_le_sub_right hroom17 _) hr17)
     have HC118:=U.mk (show y114.length≤c17 from by rw[hy17,hc17];exact Nat.sub_le_sub_right hroom17 _)
     clear hr17 hC17 hroom17 hi017 hsz17 hc17
     have KY17:=U.mk hy17
     have KA17:=U.mk hA17
     clear hy17 hA17
     replace q17:=eq_true q17
     refine start_ (n:=10) (S:=fun w'=>True) (ds:=[]) #[Y,Y,Y,Y,Y,Y,Y,Y,Y,Y] (by kernel_rfl) rfl rfl trivial (fun hHeld=>?_);refine with_tabW qxj.tab7 qxj.bits7 (fun HT_ HW_=>?_)
     generalize (w.drewN nd).drew=w15 at HO0 HB HO110 HO118 hHeld ⊢
     refine pure_ (i:=0) (N:=some 17) (v:=?_) (a':=?_) #[Z,Y,Y,Y,Y,Y,Y,Y,Y,Y] rfl rfl (any_of HT_.out (by kernel_rfl)) (fun _ _ _ h=>h) (Or.inl ⟨by rfl,?_⟩) ?_ ?_
     rotate_left
     ·intro w'
      go_simp
      with_reducible rfl
     rotate_left
     ·simp only[Act.put,jq5,jq6,jq7,i64_w,i32_w]
      rfl
     refine pure_ (i:=1) (N:=some 18) (v:=?_) (a':=?_) #[Z,Z,Y,Y,Y,Y,Y,Y,Y,Y] rfl rfl (any_of HT_.out (by kernel_rfl)) (fun _ _ _ h=>h) (Or.inl ⟨by rfl,?_⟩) ?_ ?_
     rotate_left
     ·intro w'
      go_simp
      with_reducible rfl
     rotate_left
     ·simp only[Act.put,jq5,jq6,jq7,i64_w,i32_w]
      rfl
     refine pure_ (i:=2) (N:=some 19) (v:=?_) (a':=?_) #[Z,Z,Z,Y,Y,Y,Y,Y,Y,Y] rfl rfl (any_of HT_.out (by kernel_rfl)) (fun _ _ _ h=>h) (Or.inl ⟨by rfl,?_⟩) ?_ ?_
     rotate_left
     ·intro w'
      go_simp
      with_reducible rfl
     rotate_left
     ·simp only[Act.put,jq5,jq6,jq7,i64_w,i32_w]
      rfl
     refine pure_ (i:=4) (N:=some 21) (v:=?_) (a':=?_) #[Z,Z,Z,Y,Z,Y,Y,Y,Y,Y] rfl rfl (any_of HT_.out (by kernel_rfl)) (fun _ _ _ h=>h) (Or.inl ⟨by rfl,?_⟩) ?_ ?_
     rotate_left
     ·intro w'
      go_simp
      with_reducible rfl
     rotate_left
     ·simp only[Act.put,jq5,jq6,jq7,i64_w,i32_w]
      rfl
     refine pure_ (i:=5) (N:=some 22) (v:=?_) (a':=?_) #[Z,Z,Z,Y,Z,Z,Y,Y,Y,Y] rfl rfl (any_of HT_.out (by kernel_rfl)) (fun _ _ _ h=>h) (Or.inl ⟨by rfl,?_⟩) ?_ ?_
     rotate_left
     ·intro w'
      go_simp
      with_reducible rfl
     rotate_left
     ·simp only[Act.put,jq5,jq6,jq7,i64_w,i32_w]
      rfl
     refine pure_ (i:=6) (N:=some 23) (v:=?_) (a':=?_) #[Z,Z,Z,Y,Z,Z,Z,Y,Y,Y] rfl rfl (any_of HT_.out (by kernel_rfl)) (fun _ _ _ h=>h) (Or.inl ⟨by rfl,?_⟩) ?_ ?_
     rotate_left
     ·intro w'
      go_simp
      with_reducible rfl
     rotate_left
     ·simp only[Act.put,jq5,jq6,jq7,i64_w,i32_w]
      rfl
     refine one_ (i:=3) (N:=some 20) #[Z,Z,Z,Z,Z,Z,Z,Y,Y,Y] rfl rfl (one_of HT_.out (by kernel_rfl)) (by decide) (fun K hK=>?_)
     refine goes_ Try.func81 (by kernel_rfl) rfl #[.slice A0 y106.length c0] (by rfl) rfl rfl (by(try simp only[jq0,jq1,jq2]);first|done|rfl|(simp only[jq3,jq4];rfl)) ?_
     with_reducible refine(qxj.calls k (fun k_=>(P0_ k_∨w.heap.size≤k_)) _ _ y106 t111 _ ?side1 A10.out).mono ?_
     (case side1=>exact HO110.out)
     rintro e w18 ⟨v112,rfl,ho0,hb⟩
     refine⟨_,rfl,?_⟩
     replace HO0:=U.mk (Kd.V_below (by(with_reducible repeat(first|apply Kd.vv|apply Kd.vk|apply Kd.vw));exact HO0.out) hb)
     replace HO110:=U.mk (Kd.V_below (by(with_reducible repeat(first|apply Kd.vv|apply Kd.vk|apply Kd.vw));exact HO110.out) hb)
     replace HO118:=U.mk (Kd.V_below (by(with_reducible repeat(first|apply Kd.vv|apply Kd.vk|apply Kd.vw));exact HO118.out) hb)
     have HO113:=U.mk (Kd.V_lower (Kd.V_mono (ok':=fun k_=>(P0_ k_∨w.heap.size≤k_)) ho0 (fun k_ hk_=>Or.elim hk_ (fun hs_=>hs_) (fun hn_=>(.inr (Nat.le_trans (zj (by repeat(first|(with_reducible first|exact HB.out|apply G|apply J|apply qq)|exact HB.out))) hn_))))) (zj (by repeat(first|(with_reducible first|exact HB.out|apply G|apply J|apply qq)|exact HB.out))))
     replace HB:=U.mk (zz (by repeat(first|(with_reducible first|exact HB.out|apply G|apply J|apply qq)|exact HB.out)) hb)
     (try clear hb)
     (try clear hb2)
     (try clear hk)
     (try clear hi)
     (try clear ho0)
     refine hK.out _ _ trivial (fun hHeld=>?_)
     clear hK K
     refine norm_ (a':=?_) ?_ ?_
     rotate_left
     ·show Act.put _ (some 20) _=_
      simp only[Act.put,jq5,jq6,jq7,i64_w,i32_w]
      rfl
     refine one_ (i:=7) (N:=some 24) #[Z,Z,Z,Z,Z,Z,Z,Z,Y,Y] rfl rfl (one_of HT_.out (by kernel_rfl)) (by decide) (fun K hK=>?_)
     refine goes_ Try.func81 (by kernel_rfl) rfl #[.slice A17 y114.length c17] (by rfl) rfl rfl (by(try simp only[jq0,jq1,jq2]);first|done|rfl|(simp only[jq3,jq4];rfl)) ?_
     with_reducible refine(qxj.calls k (fun k_=>(P0_ k_∨w.heap.size≤k_)) _ _ y114 t119 _ ?side1 A13.out).mono ?_
     (case side1=>exact HO118.out)
     rintro e w19 ⟨v120,rfl,ho0,hb⟩
     refine⟨_,rfl,?_⟩
     replace HO0:=U.mk (Kd.V_below (by(with_reducible repeat(first|apply Kd.vv|apply Kd.vk|apply Kd.vw));exact HO0.out) hb)
     replace HO110:=U.mk (Kd.V_below (by(with_reducible repeat(first|apply Kd.vv|apply Kd.vk|apply Kd.vw));exact HO110.out) hb)
     replace HO118:=U.mk (Kd.V_below (by(with_reducible repeat(first|apply Kd.vv|apply Kd.vk|apply Kd.vw));exact HO118.out) hb)
     replace HO113:=U.mk (Kd.V_below (by(with_reducible repeat(first|apply Kd.vv|apply Kd.vk|apply Kd.vw));exact HO113.out) hb)
     have HO121:=U.mk (Kd.V_lower (Kd.V_mono (ok':=fun k_=>(P0_ k_∨w.heap.size≤k_)) ho0 (fun k_ hk_=>Or.elim hk_ (fun hs_=>hs_) (fun hn_=>(.inr (Nat.le_trans (zj (by repeat(first|(with_reducible first|exact HB.out|apply G|apply J|apply qq)|exact HB.out))) hn_))))) (zj (by repeat(first|(with_reducible first|exact HB.out|apply G|apply J|apply qq)|exact HB.out))))
     replace HB:=U.mk (zz (by repeat(first|(with_reducible first|exact HB.out|apply G|apply J|apply qq)|exact HB.out)) hb)
     (try clear hb)
     (try clear hb2)
     (try clear hk)
     (try clear hi)
     (try clear ho0)
     obtain⟨Ao20,co20,eo20⟩:=Kd.V_slice HO113.out
     (first|subst eo20|(injection eo20 with f1_ f2_ f3_;have f4_:=f1_.symm;have f5_:=f3_.symm;clear f1_ f2_ f3_;subst f4_;subst f5_))
     obtain⟨Ao21,co21,eo21⟩:=Kd.V_slice HO121.out
     (first|subst eo21|(injection eo21 with f1_ f2_ f3_;have f4_:=f1_.symm;have f5_:=f3_.symm;clear f1_ f2_ f3_;subst f4_;subst f5_))
     refine hK.out _ _ trivial (fun hHeld=>?_)
     clear hK K
     refine norm_ (a':=?_) ?_ ?_
     rotate_left
     ·show Act.put _ (some 24) _=_
      simp only[Act.put,jq5,jq6,jq7,i64_w,i32_w]
      rfl
     refine one_ (i:=8) (N:=some 25) #[Z,Z,Z,Z,Z,Z,Z,Z,Z,Y] rfl rfl (one_of HT_.out (by kernel_rfl)) (by decide) (fun K hK=>?_)
     refine goes_ Try.func120 (by kernel_rfl) rfl #[.slice Ao20 t111.length co20,.slice Ao21 t119.length co21] (by rfl) rfl rfl (by(try simp only[jq0,jq1,jq2]);first|done|rfl|(simp only[jq3,jq4];rfl)) ?_
     with_reducible refine(qxq.calls k _ _ t111 _ _ t119 t122 _ ?side1 ?side2 ?side3 ?side4 A14.out).mono ?_
     (case side1=>repeat(first|exact(Kd.V_reads' HO113.out).2.2|(with_reducible refine Kd.C_alloc ?_ _)|(with_reducible refine Kd.C_drewN ?_ _)|(with_reducible refine Kd.C_drew ?_)))
     (case side2=>exact(Kd.V_reads' HO113.out).2.1)
     (case side3=>repeat(first|exact(Kd.V_reads' HO121.out).2.2|(with_reducible refine Kd.C_alloc ?_ _)|(with_reducible refine Kd.C_drewN ?_ _)|(with_reducible refine Kd.C_drew ?_)))
     (case side4=>exact(Kd.V_reads' HO121.out).2.1)
     rintro e w22 ⟨v123,rfl,ho0,hb⟩
     refine⟨_,rfl,?_⟩
     replace HO0:=U.mk (Kd.V_elder' (by(with_reducible repeat(first|apply Kd.vv|apply Kd.vk|apply Kd.vw));exact HO0.out) (Kd.R_base ho0) hb)
     replace HO110:=U.mk (Kd.V_elder' (by(with_reducible repeat(first|apply Kd.vv|apply Kd.vk|apply Kd.vw));exact HO110.out) (Kd.R_base ho0) hb)
     replace HO118:=U.mk (Kd.V_elder' (by(with_reducible repeat(first|apply Kd.vv|apply Kd.vk|apply Kd.vw));exact HO118.out) (Kd.R_base ho0) hb)
     replace HO113:=U.mk (Kd.V_elder' (by(with_reducible repeat(first|apply Kd.vv|apply Kd.vk|apply Kd.vw));exact HO113.out) (Kd.R_base ho0) hb)
     replace HO121:=U.mk (Kd.V_elder' (by(with_reducible repeat(first|apply Kd.vv|apply Kd.vk|apply Kd.vw));exact HO121.out) (Kd.R_base ho0) hb)
     have HO124:=U.mk (Kd.R_lower (Kd.R_newM (M:=fun k_=>(w.heap.size≤k_)) ho0 (zj (by repeat(first|(with_reducible first|exact HB.out|apply G|apply J|apply qq)|exact HB.out))) (fun k_ h_=>h_)) (zj (by repeat(first|(with_reducible first|exact HB.out|apply G|apply J|apply qq)|exact HB.out))))
     replace HB:=U.mk (zz (by repeat(first|(with_reducible first|exact HB.out|apply G|apply J|apply qq)|exact HB.out)) hb)
     (try clear hb)
     (try clear hb2)
     (try clear hk)
     (try clear hi)
     (try clear ho0)
     refine hK.out _ _ trivial (fun hHeld=>?_)
     clear hK K
     refine norm_ (a':=?_) ?_ ?_
     rotate_left
     ·show Act.put _ (some 25) _=_
      simp only[Act.put,jq5,jq6,jq7,i64_w,i32_w]
      rfl
     refine pure_ (i:=9) (N:=some 2) (v:=?_) (a':=?_) #[Z,Z,Z,Z,Z,Z,Z,Z,Z,Z] rfl rfl (any_of HT_.out (by kernel_rfl)) (fun _ _ _ h=>h) (Or.inl ⟨by rfl,?_⟩) ?_ ?_
     rotate_left
     ·intro w'
      go_simp
      with_reducible rfl
     rotate_left
     ·simp only[Act.put,jq5,jq6,jq7,i64_w,i32_w]
      rfl
     refine done_ (done_of HT_.out (by kernel_rfl)) ?_
     try go_wp2
     go_ret
     exact⟨_,by first|rfl|(simp[*,jv,jk] <;> rfl),Kd.R_lower (Kd.R_mono (by(with_reducible repeat(first|apply Kd.zv|apply Kd.zk|apply Kd.zw));exact Kd.R_mono HO124.out (fun _ hk=>hk.1)) (fun k_ hk=>Or.inr hk)) hN,by repeat(first|(with_reducible first|exact HB.out|apply G|apply J|apply qq)|exact HB.out)⟩
    ·rw[if_neg c9] at H
     exact absurd H (by simp)
   ·rw[if_neg c8] at H
    exact absurd H (by simp)
def zqw.f (a0:Int):Option (Bool):=if a0 ≥ 1 then(some (decide (a0 < 1073741789))) else(some false)
theorem zqw.calls (a0:Int) (r:Bool) (w:World) (h:zqw.f a0=some r) :
  Calls Try.prog 103 #[.int .i64 a0] w fun e w'=>e=.returned (.bool r)∧Drawn0 w w':=by
 have H:(if a0 ≥ 1 then(some (decide (a0 < 1073741789))) else(some false))=some r:=h
 clear h
 by_cases c2:a0 ≥ 1
 ·rw[if_pos c2] at H
  have c2b0:decide (1≤a0)=true:=decide_eq_true c2
  clear c2
  obtain rfl:=Option.some.inj H
  go_enter Try.func103,Try.ntmps103
  go_wp2
  go_ret
  exact⟨by first|rfl|(simp;done)|(simp[*];done),by repeat(first|exact Drawn0.refl _|apply Drawn0.step)⟩
 ·rw[if_neg c2] at H
  have c2b0:decide (1≤a0)=false:=decide_eq_false c2
  clear c2
  obtain rfl:=Option.some.inj H
  go_enter Try.func103,Try.ntmps103
  go_wp2
  go_ret
  exact⟨by first|rfl|(simp;done)|(simp[*];done),by repeat(first|exact Drawn0.refl _|apply Drawn0.step)⟩
def zqx.f (k:Nat) (a0:Int) (l1:List Int):Option (Int × Int):=(qxv.f k a0).bind fun t102=>((zqq.f k t102 l1).bind fun t105=>((zqj.f k t105).bind fun t108=>((zqk.f k 4 (wrap64 (1 + (Int.tmod t108 1073741788))) 2147483579).bind fun t109=>((qxx.f k t109 l1).bind fun t110=>(some (t109,Int.tmod (wrap64 ((wrap64 (1 + (Int.tmod t108 1073741788))) + (wrap64 (t110 * a0)))) 1073741789))))))
theorem zqx.calls (k:Nat) (a0:Int) (A1:Option Addr) (c1:Nat) (l1:List Int) (r1:Int) (r2:Int) (w:World) (hr1:Kd.C (Kd.int .u8) w A1 l1.length l1) (hc1:l1.length≤c1) (h:zqx.f k a0 l1=some (r1,r2)) :
  Calls Try.prog 104 #[.int .i64 a0,.slice A1 l1.length c1] w fun e w'=>e=.returned (.agg #[.int .i64 r1,.int .i64 r2])∧Below w.heap.size w w':=by
 have hu59:=Try.underlying59
 have HR1:=U.mk hr1
 have HC1:=U.mk hc1
 clear hr1 hc1
 have HB:=U.mk (Below.refl w.heap.size w)
 unfold zqx.f at h
 have H:=h
 clear h
 replace H:=jq8.mp H
 obtain⟨t102,A30,H⟩:=H
 try dsimp only at H
 have A3:=U.mk A30
 clear A30
 replace H:=jq8.mp H
 obtain⟨t105,A40,H⟩:=H
 try dsimp only at H
 have A4:=U.mk A40
 clear A40
 replace H:=jq8.mp H
 obtain⟨t108,A50,H⟩:=H
 try dsimp only at H
 have A5:=U.mk A50
 clear A50
 replace H:=jq8.mp H
 obtain⟨t109,A60,H⟩:=H
 try dsimp only at H
 have A6:=U.mk A60
 clear A60
 replace H:=jq8.mp H
 obtain⟨t110,A70,H⟩:=H
 try dsimp only at H
 have A7:=U.mk A70
 clear A70
 simp only[Option.some.injEq,Prod.mk.injEq] at H
 obtain⟨rfl,rfl⟩:=H
 go_enter Try.func104,Try.ntmps104
 go_wp2_with (first|((with_reducible refine gate_dst (N:=4) rfl ?_);refine box_event ?hg (N:=4) ?hd (cs:=#[.int .i64 0,.int .i64 0]) (t:=59) ?hr ?_;(case hd=>rfl);(case hg=>rfl);(case hr=>first|(go_simp;done)|(go_simp;rfl));intro gb101 hg w8 hbox hb;have BK101:=U.mk (hbox);have GW101:=U.mk ((by rw[hg];exact(zj (by solve_by_elim only[HB.out,G,J,qq])):w.heap.size≤gb101));have GE101:=U.mk ((by rw[hg];exact(zj (by solve_by_elim only[HB.out,G,J,qq])):w.heap.size≤gb101));replace HB:=U.mk (zz (by solve_by_elim only[HB.out,G,J,qq]) hb);clear hb hbox hg)|((with_reducible refine jw (f:=115) rfl ?_);refine goesL_ (some 8) rfl rfl Try.func115 (by kernel_rfl) rfl #[.int .i64 a0] rfl (by(try simp only[jq0,jq1,jq2]);first|done|rfl|(simp only[jq3,jq4];rfl)) ?_;(with_reducible refine(qxv.calls k a0 t102 _ A3.out).mono ?_);rintro e w9 ⟨v103,rfl,ho0,hb⟩;refine⟨_,rfl,?_⟩;have HO104:=U.mk (Kd.R_lower ho0 (zj (by solve_by_elim (maxDepth:=20) only[HB.out,G,J,qq,qk,GE101.out])));replace BK101:=U.mk (vx (g:=gb101) (o:=.cells #[.int .i64 0,.int .i64 0] 59 (0,0)) (by solve_by_elim only[BK101.out,qw,qx,qv]) hb);replace HB:=U.mk (zz (by solve_by_elim (maxDepth:=20) only[HB.out,G,J,qq,qk,GE101.out]) hb);(try clear hb ho0);obtain⟨Ao10,co10,eo10⟩:=Kd.R_slice HO104.out;subst eo10)|((with_reducible refine jw (f:=114) rfl ?_);refine goesL_ (some 10) rfl rfl Try.func114 (by kernel_rfl) rfl #[.slice Ao10 t102.length co10,.slice A1 l1.length c1] rfl (by(try simp only[jq0,jq1,jq2]);first|done|rfl|(simp only[jq3,jq4];rfl)) ?_;(with_reducible refine(zqq.calls k _ _ t102 _ _ l1 t105 _ ?side1 ?side2 ?side3 ?side4 A4.out).mono ?_);(case side1=>solve_by_elim only[(Kd.R_reads' HO104.out).2.2,Kd.C_alloc,Kd.C_drewN,Kd.C_drew]);(case side2=>exact(Kd.R_reads' HO104.out).2.1);(case side3=>solve_by_elim only[(Kd.C_below HR1.out HB.out),Kd.C_alloc,Kd.C_drewN,Kd.C_drew]);(case side4=>exact HC1.out);rintro e w11 ⟨v106,rfl,ho0,hb⟩;refine⟨_,rfl,?_⟩;have HO107:=U.mk (Kd.R_lower (Kd.R_new' ho0 (Kd.R_lt (by solve_by_elim only[HO104.out,Kd.zv,Kd.zk,Kd.zw]))) (zj (by solve_by_elim (maxDepth:=20) only[HB.out,G,J,qq,qk,GE101.out])));replace HO104:=U.mk (Kd.R_elder' (by solve_by_elim only[HO104.out,Kd.zv,Kd.zk,Kd.zw]) (Kd.R_base ho0) hb);replace BK101:=U.mk (vx (g:=gb101) (o:=.cells #[.int .i64 0,.int .i64 0] 59 (0,0)) (by solve_by_elim only[BK101.out,qw,qx,qv]) hb);replace HB:=U.mk (zz (by solve_by_elim (maxDepth:=20) only[HB.out,G,J,qq,qk,GE101.out]) hb);(try clear hb ho0);obtain⟨Ao12,co12,eo12⟩:=Kd.R_slice HO107.out;subst eo12)|((with_reducible refine jw (f:=129) rfl ?_);refine goesL_ (some 11) rfl rfl Try.func129 (by kernel_rfl) rfl #[.slice Ao12 t105.length co12] rfl (by(try simp only[jq0,jq1,jq2]);first|done|rfl|(simp only[jq3,jq4];rfl)) ?_;(with_reducible refine(zqj.calls k _ _ t105 t108 _ ?side1 ?side2 A5.out).mono ?_);(case side1=>solve_by_elim only[(Kd.R_reads' HO107.out).2.2,Kd.C_alloc,Kd.C_drewN,Kd.C_drew]);(case side2=>exact(Kd.R_reads' HO107.out).2.1);rintro e w' ⟨rfl,⟨nd,rfl⟩⟩;refine⟨_,rfl,?_⟩;(try (rw[drewN_self w11];generalize hq_:World.drewN w11 _=w11;have n0_:U (Kd.R (Kd.int .u8) 5 w11 w.heap.size (fun k_=>some k_≠(.slice Ao12 t105.length co12:Value).ownBlock) (.slice Ao10 t102.length co10) t102):=⟨by rw[← hq_];exact(by(with_reducible repeat(first|apply Kd.zv|apply Kd.zk|apply Kd.zw));exact Kd.R_mono HO104.out (fun _ hk=>hk.2))⟩;have n1_:U (Kd.R (Kd.int .u8) 5 w11 w.heap.size (fun k_=>some k_≠(.slice Ao10 t102.length co10:Value).ownBlock) (.slice Ao12 t105.length co12) t105):=⟨by rw[← hq_];exact(by(with_reducible repeat(first|apply Kd.zv|apply Kd.zk|apply Kd.zw));exact Kd.R_mono HO107.out (fun _ hk=>hk.2))⟩;have n2_:U (w11.heap[gb101]? = some (.cells #[.int .i64 0,.int .i64 0] 59 (0,0))):=⟨by rw[← hq_];exact(by solve_by_elim only[BK101.out,qw,qx,qv])⟩;have n3_:U (Below w.heap.size w w11):=⟨by rw[← hq_];exact(by solve_by_elim (maxDepth:=20) only[HB.out,G,J,qq,qk,GE101.out])⟩;clear HO104 HO107 BK101 HB hq_;have HO104:=n0_;have HO107:=n1_;have BK101:=n2_;have HB:=n3_;clear n0_ n1_ n2_ n3_)))|((with_reducible refine jw (f:=110) rfl ?_);refine goesL_ (some 15) rfl rfl Try.func110 (by kernel_rfl) rfl #[.int .i64 4,.int .i64 (wrap64 (1 + (Int.tmod t108 1073741788))),.int .i64 2147483579] rfl (by(try simp only[jq0,jq1,jq2]);first|done|rfl|(simp only[jq3,jq4];rfl)) ?_;(with_reducible refine(zqk.calls k 4 (wrap64 (1 + (Int.tmod t108 1073741788))) 2147483579 t109 _ A6.out).mono ?_);rintro e w' ⟨rfl,⟨nd,rfl⟩⟩;refine⟨_,rfl,?_⟩;(try (rw[drewN_self w11];generalize hq_:World.drewN w11 _=w11;have n0_:U (Kd.R (Kd.int .u8) 5 w11 w.heap.size (fun k_=>some k_≠(.slice Ao12 t105.length co12:Value).ownBlock) (.slice Ao10 t102.length co10) t102):=⟨by rw[← hq_];exact(by(with_reducible repeat(first|apply Kd.zv|apply Kd.zk|apply Kd.zw));exact Kd.R_mono HO104.out (fun _ hk=>hk.2))⟩;have n1_:U (Kd.R (Kd.int .u8) 5 w11 w.heap.size (fun k_=>some k_≠(.slice Ao10 t102.length co10:Value).ownBlock) (.slice Ao12 t105.length co12) t105):=⟨by rw[← hq_];exact(by(with_reducible repeat(first|apply Kd.zv|apply Kd.zk|apply Kd.zw));exact Kd.R_mono HO107.out (fun _ hk=>hk.2))⟩;have n2_:U (w11.heap[gb101]? = some (.cells #[.int .i64 0,.int .i64 0] 59 (0,0))):=⟨by rw[← hq_];exact(by solve_by_elim only[BK101.out,qw,qx,qv])⟩;have n3_:U (Below w.heap.size w w11):=⟨by rw[← hq_];exact(by solve_by_elim (maxDepth:=20) only[HB.out,G,J,qq,qk,GE101.out])⟩;clear HO104 HO107 BK101 HB hq_;have HO104:=n0_;have HO107:=n1_;have BK101:=n2_;have HB:=n3_;clear n0_ n1_ n2_ n3_)))|((with_reducible refine jw (f:=126) rfl ?_);refine goesL_ (some 20) rfl rfl Try.func126 (by kernel_rfl) rfl #[.int .i64 t109,.slice A1 l1.length c1] rfl (by(try simp only[jq0,jq1,jq2]);first|done|rfl|(simp only[jq3,jq4];rfl)) ?_;(with_reducible refine(qxx.calls k t109 _ _ l1 t110 _ ?side1 ?side2 A7.out).mono ?_);(case side1=>solve_by_elim only[(Kd.C_below HR1.out HB.out),Kd.C_alloc,Kd.C_drewN,Kd.C_drew]);(case side2=>exact HC1.out);rintro e w13 ⟨rfl,hb⟩;refine⟨_,rfl,?_⟩;replace HO104:=U.mk (Kd.R_below (by solve_by_elim only[HO104.out,Kd.zv,Kd.zk,Kd.zw]) hb);replace HO107:=U.mk (Kd.R_below (by solve_by_elim only[HO107.out,Kd.zv,Kd.zk,Kd.zw]) hb);replace BK101:=U.mk (vx (g:=gb101) (o:=.cells #[.int .i64 0,.int .i64 0] 59 (0,0)) (by solve_by_elim only[BK101.out,qw,qx,qv]) hb);replace HB:=U.mk (zz (by solve_by_elim (maxDepth:=20) only[HB.out,G,J,qq,qk,GE101.out]) hb);(try clear hb);have hcz14_0:w13.cell? ⟨gb101,0,none⟩ = some (.int .i64 0):=(qj BK101.out 0).trans rfl;have hcz14_1:w13.cell? ⟨gb101,1,none⟩ = some (.int .i64 0):=(qj BK101.out 1).trans rfl;have hfz14_0:=qz BK101.out 0;have hfz14_1:=qz BK101.out 1))
 refine bodyPost_ret (results_cell_row rfl _ _ gb101 59 #[.int .i64 t109,.int .i64 (Int.tmod (wrap64 ((wrap64 (1 + (Int.tmod t108 1073741788))) + (wrap64 (t110 * a0)))) 1073741789)] (0,0) _ rfl (by(with_reducible repeat(first|refine qw ?_ _|refine qx ?_|refine qv ?_ _));refine blk_put (cs:=#[.int .i64 t109,.int .i64 0]) ?_ 1 _ rfl;(with_reducible repeat(first|refine qw ?_ _|refine qx ?_|refine qv ?_ _));refine blk_put (cs:=#[.int .i64 0,.int .i64 0]) ?_ 0 _ rfl;(with_reducible repeat(first|refine qw ?_ _|refine qx ?_|refine qv ?_ _));exact BK101.out) Try.underlying59 rfl (by kernel_rfl)) rfl ?_
 exact⟨by first|rfl|(simp[*,jv,jk] <;> rfl),by repeat(first|(with_reducible first|exact HB.out|apply G|apply J|apply qq|refine qk ?_ GE101.out)|exact HB.out)⟩
def bytesOfS.f (s:ByteArray):Option (List Int):=if s.size≤9223372036854775807 then some (bytesOf s) else none
def BytesCalls (P:Program) (src dst:TypeId) (s:ByteArray) (w:World) (R:Ending→World→Prop):Prop :=
 ∃ v w',(convert src dst (.string s)).run P w=.ok v w'∧R (.returned v) w'
theorem BytesCalls.mono {P:Program} {src dst:TypeId} {s:ByteArray} {w:World} {R R':Ending→World→Prop} (h:BytesCalls P src dst s w R) (hr:∀ e w',R e w'→R' e w'):BytesCalls P src dst s w R' :=
 let ⟨v,w',h1,h2⟩:=h;⟨v,w',h1,hr _ _ h2⟩
theorem bytesOfS.calls (a0:ByteArray) (r:List Int) (w:World) (h:bytesOfS.f a0=some r) :
  BytesCalls Try.prog 9 22 a0 w fun e w'=>∃ v0_:Value,e=.returned (v0_)∧Kd.V (Kd.int .u8) 5 w' w.heap.size (fun k_=>(w.heap.size≤k_)) v0_ r∧Below w.heap.size w w':=by
 unfold bytesOfS.f at h
 by_cases hs:a0.size≤9223372036854775807
 case neg=>rw[if_neg hs] at h;cases h
 rw[if_pos hs] at h
 obtain rfl:=Option.some.inj h
 refine⟨_,_,print_bytes 9 22 5 Try.underlying9 Try.underlying22 Try.underlying5 a0 w,_,rfl,?_,ww (Below.refl _ _) (Nat.le_refl _) 5 a0⟩
 have hcell:∀ W':World,W'.heap[w.heap.size]? = (Lib.bytesWorld w 5 a0).heap[w.heap.size]? → (Kd.int .u8).C W' (some ⟨w.heap.size,0,none⟩) (bytesOf a0).length (bytesOf a0):=by
  intro W' hW
  have h0:=xq w 5 a0 hs
  have h1:ReadsInt W' .u8 (some ⟨w.heap.size,0,none⟩) (bytesOf a0).length (bytesOf a0):=by
   refine⟨rfl,by rw[bytesOf_length];exact hs,fun hp=>?_⟩
   obtain⟨ad,e1,hc⟩:=h0.2.2 (by rw[bytesOf_length] at hp;exact hp)
   refine⟨ad,e1,fun j hj=>?_⟩
   rw[← hc j (by rw[bytesOf_length] at hj;exact hj)]
   injection e1 with e1
   subst e1
   rw[add_plain]
   exact World.cell?_of_block (by exact hW)
  exact Kd.C_of_reads (d:=(0:Int)) (h1:=fun _=>rfl) h1
 refine⟨some ⟨w.heap.size,0,none⟩,grownCap w a0.size 0 5,by rw[bytesOf_length],by rw[bytesOf_length];exact grownCap_ge _ _ _ _,fun W' hW=>hcell W' (hW _ (Nat.le_refl _) ?_)⟩
 rw[Lib.bytesWorld_size];omega
section
variable {P:Program} {ops:Array Oper} {Q:Exit→Act→World→Prop}
theorem gate_convert {rest:List Oper} {o:Oper} {a:Act} {W:World} {src dst:TypeId} {x:Operand} (_ho:o.op=.convert src dst x) (h:wpList P ops Q (o :: rest) a W):wpList P ops Q (o :: rest) a W:=h
theorem bytesGoesL_ {rest:List Oper} {oi:Oper} {a:Act} {w:World} (N:Option Tmp) (hd:oi.dst=N) (hg:oi.guard=none) {src dst:TypeId} {x:Operand} {s:ByteArray} (hop:oi.op=.convert src dst x) (hx:a.eval x=.string s)
  (h:BytesCalls P src dst s w fun e w'=>∃ v,e=.returned v∧wpList P ops Q rest (a.put N v) w'):wpList P ops Q (oi :: rest) a w:=by
 obtain⟨v,w',hr,v',he,hw⟩:=h
 injection he with he
 subst he
 subst hd
 refine Kd.event_run hg ?_ hw
 unfold execOp
 simp[hop,hx,hr]
theorem bytesGoes_ {oi:Oper} {N:Option Tmp} {a:Act} {w:World} {K:Act→World→Prop} {src dst:TypeId} {x:Operand} {s:ByteArray}
  (hw:Region.wanted oi (yielded ops a.tmps)=true) (hN:oi.dst=N) (hop:oi.op=.convert src dst x) (hx:a.eval x=.string s)
  (h:BytesCalls P src dst s w fun e w'=>∃ v,e=.returned v∧K (a.put N v) w'):if Region.wanted oi (yielded ops a.tmps)=true then Oper.wp P oi a w K Q else K (a.put N undef) w:=by
 obtain⟨v,w',hr,v',he,hk⟩:=h
 injection he with he
 subst he
 subst hN
 refine event_step hw ?_ hk
 unfold execOp
 simp[hop,hx,hr]
def BoxCalls (t:TypeId) (cs:Array Value) (w:World) (R:Ending→World→Prop):Prop:=R (.returned (.pointer (some ⟨w.heap.size,0,none⟩))) (w.alloc (.cells cs t (0,0)))
theorem BoxCalls.mono {t:TypeId} {cs:Array Value} {w:World} {R R':Ending→World→Prop} (h:BoxCalls t cs w R) (hr:∀ e w',R e w'→R' e w'):BoxCalls t cs w R':=hr _ _ h
theorem gate_box {rest:List Oper} {o:Oper} {a:Act} {W:World} {t:TypeId} {x:Operand} (_ho:o.op=.box t x) (h:wpList P ops Q (o :: rest) a W):wpList P ops Q (o :: rest) a W:=h
theorem boxGoesL_ {rest:List Oper} {oi:Oper} {a:Act} {w:World} (N:Option Tmp) (hd:oi.dst=N) (hg:oi.guard=none) {t:TypeId} {cs:Array Value}
  (hr:(execOp a.eval oi).run P w=.ok (.value (.pointer (some ⟨w.heap.size,0,none⟩))) (w.alloc (.cells cs t (0,0))))
  (h:BoxCalls t cs w fun e w'=>∃ v,e=.returned v∧wpList P ops Q rest (a.put N v) w'):wpList P ops Q (oi :: rest) a w:=by
 obtain⟨v',he,hw⟩:=h
 injection he with he
 subst he
 subst hd
 exact Kd.event_run hg hr hw
end
def qwj.l0:Nat→ByteArray→Int→Option (Bool)
 | 0,_,_=>none
 | k + 1,x0,x3=>if x3 < (x0.size:Int) then(if 0≤x3 then(if (bt x0 x3) < 32 then(some false) else(if (bt x0 x3) > 126 then(some false) else(qwj.l0 k x0 (wrap64 (x3 + 1))))) else(none)) else(some true)
def qwj.f (k:Nat) (a0:ByteArray):Option (Bool):=qwj.l0 k a0 0
theorem qwj.calls (k:Nat) (a0:ByteArray) (r:Bool) (w:World) (h:qwj.f k a0=some r) :
  Calls Try.prog 70 #[.string a0] w fun e w'=>e=.returned (.bool r)∧Drawn0 w w':=by
 have H:(qwj.l0 k a0 0)=some r:=h
 clear h
 have H':=U.mk H
 clear H
 go_enter Try.func70,Try.ntmps70
 go_wp2
 go_loopg [3] k (fun kq v3 w'=>∃ (x3_1:Int),v3=.int .i64 x3_1∧U (qwj.l0 kq a0 x3_1=some r)∧U (kq≤k)∧Drawn0 w w')
 case atStart=>exact⟨(0),(by first|rfl|(simp;done)|(simp[*];done)),H',⟨Nat.le_refl _⟩,by repeat(first|exact Drawn0.refl _|apply Drawn0.step)⟩
 case round =>
  clear H'
  obtain⟨x3_1,rfl,HA,HK1,⟨m1,rfl⟩⟩:=hrel
  cases gk with
  | zero=>exact absurd HA.out (by simp[qwj.l0])
  | succ k1 =>
   have H:=HA.out
   clear HA
   simp only[qwj.l0] at H
   by_cases c2:x3_1 < (a0.size:Int)
   ·rw[if_pos c2] at H
    have c2b0:decide (x3_1 < (a0.size:Int))=true:=decide_eq_true c2
    clear c2
    by_cases c3 : 0≤x3_1
    ·rw[if_pos c3] at H
     have c3b0:decide (0≤x3_1)=true:=decide_eq_true c3
     clear c3
     by_cases c5:(bt a0 x3_1) < 32
     ·rw[if_pos c5] at H
      have c5b0:decide ((bt a0 x3_1) < 32)=true:=decide_eq_true c5
      clear c5
      obtain rfl:=Option.some.inj H
      have p4 : 0≤(x3_1:Int):=of_decide_eq_true (by assumption)
      have q4:x3_1 < (a0.size:Int):=of_decide_eq_true (by assumption)
      have hx4:=bt_at a0 x3_1
      replace p4:=eq_true p4
      replace q4:=eq_true q4
      go_wp2
      go_ret
      exact⟨by first|rfl|(simp;done)|(simp[*];done),by repeat(first|exact Drawn0.refl _|apply Drawn0.step)⟩
     ·rw[if_neg c5] at H
      have c5b0:decide ((bt a0 x3_1) < 32)=false:=decide_eq_false c5
      clear c5
      by_cases c7:(bt a0 x3_1) > 126
      ·rw[if_pos c7] at H
       have c7b0:decide (126 < (bt a0 x3_1))=true:=decide_eq_true c7
       clear c7
       obtain rfl:=Option.some.inj H
       have p4 : 0≤(x3_1:Int):=of_decide_eq_true (by assumption)
       have q4:x3_1 < (a0.size:Int):=of_decide_eq_true (by assumption)
       have hx4:=bt_at a0 x3_1
       replace p4:=eq_true p4
       replace q4:=eq_true q4
       have p6 : 0≤(x3_1:Int):=of_decide_eq_true (by assumption)
       have q6:x3_1 < (a0.size:Int):=of_decide_eq_true (by assumption)
       have hx6:=bt_at a0 x3_1
       replace p6:=eq_true p6
       replace q6:=eq_true q6
       go_wp2
       go_ret
       exact⟨by first|rfl|(simp;done)|(simp[*];done),by repeat(first|exact Drawn0.refl _|apply Drawn0.step)⟩
      ·rw[if_neg c7] at H
       have c7b0:decide (126 < (bt a0 x3_1))=false:=decide_eq_false c7
       clear c7
       have H':=U.mk H
       clear H
       have p4 : 0≤(x3_1:Int):=of_decide_eq_true (by assumption)
       have q4:x3_1 < (a0.size:Int):=of_decide_eq_true (by assumption)
       have hx4:=bt_at a0 x3_1
       replace p4:=eq_true p4
       replace q4:=eq_true q4
       have p6 : 0≤(x3_1:Int):=of_decide_eq_true (by assumption)
       have q6:x3_1 < (a0.size:Int):=of_decide_eq_true (by assumption)
       have hx6:=bt_at a0 x3_1
       replace p6:=eq_true p6
       replace q6:=eq_true q6
       go_wp2
       go_roundg k1
       case measure=>have:=HK1.out;omega
       case rel=>exact⟨(wrap64 (x3_1 + 1)),(by first|rfl|(simp;done)|(simp[*];done)),H',⟨by have:=HK1.out;omega⟩,by repeat(first|exact Drawn0.refl _|apply Drawn0.step)⟩
    ·rw[if_neg c3] at H
     exact absurd H (by simp)
   ·rw[if_neg c2] at H
    have c2b0:decide (x3_1 < (a0.size:Int))=false:=decide_eq_false c2
    clear c2
    obtain rfl:=Option.some.inj H
    go_wp2
    go_ret
    exact⟨by first|rfl|(simp;done)|(simp[*];done),by repeat(first|exact Drawn0.refl _|apply Drawn0.step)⟩
def qxz.f (a0_0:Int) (a0_1:ByteArray) (a0_2:ByteArray) (l0_3:List Int) (l0_4:List Int):Option (Bool):=some ((l0_4.length:Int) == 0)
theorem qxz.calls (a0_0:Int) (a0_1:ByteArray) (a0_2:ByteArray) (A0_3:Option Addr) (c0_3:Nat) (l0_3:List Int) (A0_4:Option Addr) (c0_4:Nat) (l0_4:List Int) (r:Bool) (w:World) (hr0_3:Kd.C (Kd.int .u8) w A0_3 l0_3.length l0_3) (hc0_3:l0_3.length≤c0_3) (hr0_4:Kd.C (Kd.int .u8) w A0_4 l0_4.length l0_4) (hc0_4:l0_4.length≤c0_4) (h:qxz.f a0_0 a0_1 a0_2 l0_3 l0_4=some r) :
  Calls Try.prog 71 #[.agg #[.int .i64 a0_0,.string a0_1,.string a0_2,.slice A0_3 l0_3.length c0_3,.slice A0_4 l0_4.length c0_4]] w fun e w'=>e=.returned (.bool r)∧Below w.heap.size w w':=by
 have hu27:=Try.underlying27
 have HR0_3:=U.mk hr0_3
 have HC0_3:=U.mk hc0_3
 clear hr0_3 hc0_3
 have HR0_4:=U.mk hr0_4
 have HC0_4:=U.mk hc0_4
 clear hr0_4 hc0_4
 have HB:=U.mk (Below.refl w.heap.size w)
 have H:(some ((l0_4.length:Int) == 0))=some r:=h
 clear h
 obtain rfl:=Option.some.inj H
 go_enter Try.func71,Try.ntmps71
 go_wp2_with (first|((with_reducible refine gate_dst (N:=1) rfl ?_);refine box_event ?hg (N:=1) ?hd (cs:=#[.int .i64 a0_0,.string a0_1,.string a0_2,.slice A0_3 l0_3.length c0_3,.slice A0_4 l0_4.length c0_4]) (t:=27) ?hr ?_;(case hd=>rfl);(case hg=>rfl);(case hr=>first|(go_simp;done)|(go_simp;rfl));intro gb101 hg w2 hbox hb;have BK101:=U.mk (hbox);have GW101:=U.mk ((by rw[hg];exact(zj (by solve_by_elim only[HB.out,G,J,qq])):w.heap.size≤gb101));have GE101:=U.mk ((by rw[hg];exact(zj (by solve_by_elim only[HB.out,G,J,qq])):w.heap.size≤gb101));replace HB:=U.mk (zz (by solve_by_elim only[HB.out,G,J,qq]) hb);clear hb hbox hg;have hcz3_0:w2.cell? ⟨gb101,0,none⟩ = some (.int .i64 a0_0):=(qj BK101.out 0).trans rfl;have hcz3_1:w2.cell? ⟨gb101,1,none⟩ = some (.string a0_1):=(qj BK101.out 1).trans rfl;have hcz3_2:w2.cell? ⟨gb101,2,none⟩ = some (.string a0_2):=(qj BK101.out 2).trans rfl;have hcz3_3:w2.cell? ⟨gb101,3,none⟩ = some (.slice A0_3 l0_3.length c0_3):=(qj BK101.out 3).trans rfl;have hcz3_4:w2.cell? ⟨gb101,4,none⟩ = some (.slice A0_4 l0_4.length c0_4):=(qj BK101.out 4).trans rfl;have hfz3_0:=qz BK101.out 0;have hfz3_1:=qz BK101.out 1;have hfz3_2:=qz BK101.out 2;have hfz3_3:=qz BK101.out 3;have hfz3_4:=qz BK101.out 4))
 go_ret
 exact⟨by first|rfl|(simp[*,jv,jk] <;> rfl),by repeat(first|(with_reducible first|exact HB.out|apply G|apply J|apply qq|refine qk ?_ GE101.out)|exact HB.out)⟩
def qkz.j0:Nat→Bool→Int→ByteArray→ByteArray→List Int→List Int→Option (Bool)
 | 0,_,_,_,_,_,_=>none
 | k + 1,x22,x102000,x102001,x102002,x102003,x102004=>if x22=true then(some false) else((qxz.f x102000 x102001 x102002 x102003 x102004).bind fun t103=>(if t103=true then(if (x102002.size:Int)≤200 then((qwj.f k x102002).bind fun t104=>(if t104=true then(some (decide ((x102003.length:Int)≤20))) else(some false))) else(some false)) else(if (x102004.length:Int)=16 then(if x102002.toList=([]:List UInt8) then(some ((x102003.length:Int) == 0)) else(some false)) else(some false))))
def qkz.f (k:Nat) (a0_0:Int) (a0_1:ByteArray) (a0_2:ByteArray) (l0_3:List Int) (l0_4:List Int):Option (Bool):=if a0_0 < 0 then(qkz.j0 k true a0_0 a0_1 a0_2 l0_3 l0_4) else(if a0_0 > 100000000000 then(qkz.j0 k true a0_0 a0_1 a0_2 l0_3 l0_4) else(if (a0_1.size:Int) > 60 then(qkz.j0 k true a0_0 a0_1 a0_2 l0_3 l0_4) else((qwj.f k a0_1).bind fun t102=>(qkz.j0 k (!t102) a0_0 a0_1 a0_2 l0_3 l0_4))))
theorem qkz.calls (k:Nat) (a0_0:Int) (a0_1:ByteArray) (a0_2:ByteArray) (A0_3:Option Addr) (c0_3:Nat) (l0_3:List Int) (A0_4:Option Addr) (c0_4:Nat) (l0_4:List Int) (r:Bool) (w:World) (hr0_3:Kd.C (Kd.int .u8) w A0_3 l0_3.length l0_3) (hc0_3:l0_3.length≤c0_3) (hr0_4:Kd.C (Kd.int .u8) w A0_4 l0_4.length l0_4) (hc0_4:l0_4.length≤c0_4) (h:qkz.f k a0_0 a0_1 a0_2 l0_3 l0_4=some r) :
  Calls Try.prog 18 #[.agg #[.int .i64 a0_0,.string a0_1,.string a0_2,.slice A0_3 l0_3.length c0_3,.slice A0_4 l0_4.length c0_4]] w fun e w'=>e=.returned (.bool r)∧Below w.heap.size w w':=by
 have hu27:=Try.underlying27
 have HR0_3:=U.mk hr0_3
 have HC0_3:=U.mk hc0_3
 clear hr0_3 hc0_3
 have HR0_4:=U.mk hr0_4
 have HC0_4:=U.mk hc0_4
 clear hr0_4 hc0_4
 have HB:=U.mk (Below.refl w.heap.size w)
 unfold qkz.f at h
 have H:=h
 clear h
 have HC2:=U.mk H
 clear H
 go_enter Try.func18,Try.ntmps18
 go_upto_region 1 with (first|((with_reducible refine gate_dst (N:=1) rfl ?_);(try (refine gate_guard (by rfl) ?_;dsimp only));refine box_event ?hg (N:=1) ?hd (cs:=#[.int .i64 a0_0,.string a0_1,.string a0_2,.slice A0_3 l0_3.length c0_3,.slice A0_4 l0_4.length c0_4]) (t:=27) ?hr ?_;(case hd=>rfl);(case hg=>rfl);(case hr=>first|(go_simp;done)|(go_simp;rfl));intro gb101 hg w3 hbox hb;have BK101:=U.mk (hbox);have GW101:=U.mk ((by rw[hg];exact(zj (by solve_by_elim only[HB.out,G,J,qq])):w.heap.size≤gb101));have GE101:=U.mk ((by rw[hg];exact(zj (by solve_by_elim only[HB.out,G,J,qq])):w.heap.size≤gb101));replace HB:=U.mk (zz (by solve_by_elim only[HB.out,G,J,qq]) hb);clear hb hbox hg))
 (try simp only[Act.put,jq5,jq6,jq7])
 go_cut [22] (fun v22 wc=>∃ (kq:Nat) (x22_1:Bool),v22=.bool x22_1∧U (qkz.j0 kq x22_1 a0_0 a0_1 a0_2 l0_3 l0_4=some r)∧U (kq≤k)∧U (wc.heap[gb101]? = some (.cells #[.int .i64 a0_0,.string a0_1,.string a0_2,(.slice A0_3 l0_3.length c0_3),(.slice A0_4 l0_4.length c0_4)] 27 (0,0)))∧U (Below w.heap.size w wc))
 case first =>
  have H:=HC2.out
  clear HC2
  by_cases c4:a0_0 < 0
  ·rw[if_pos c4] at H
   have c4b0:decide (a0_0 < 0)=true:=decide_eq_true c4
   clear c4
   (first|rw[c4b0]|(simp only[i64_w,i32_w];rw[c4b0])|skip)
   have H':=U.mk H
   clear H
   have hcz5_0:w3.cell? ⟨gb101,0,none⟩ = some (.int .i64 a0_0):=(qj BK101.out 0).trans rfl
   have hcz5_1:w3.cell? ⟨gb101,1,none⟩ = some (.string a0_1):=(qj BK101.out 1).trans rfl
   have hcz5_2:w3.cell? ⟨gb101,2,none⟩ = some (.string a0_2):=(qj BK101.out 2).trans rfl
   have hcz5_3:w3.cell? ⟨gb101,3,none⟩ = some (.slice A0_3 l0_3.length c0_3):=(qj BK101.out 3).trans rfl
   have hcz5_4:w3.cell? ⟨gb101,4,none⟩ = some (.slice A0_4 l0_4.length c0_4):=(qj BK101.out 4).trans rfl
   have hfz5_0:=qz BK101.out 0
   have hfz5_1:=qz BK101.out 1
   have hfz5_2:=qz BK101.out 2
   have hfz5_3:=qz BK101.out 3
   have hfz5_4:=qz BK101.out 4
   go_wp2
   go_meet
   case rel=>exact⟨_,(true),(by first|rfl|(simp;done)|(simp[*];done)|(generalize ByteArray.toList _=l_;cases l_ <;> first|rfl|(simp;done))),H',⟨by first|omega|exact Nat.le_refl _⟩,⟨by(with_reducible repeat(first|refine qw ?_ _|refine qx ?_|refine qv ?_ _));exact BK101.out⟩,⟨by repeat(first|(with_reducible first|exact HB.out|apply G|apply J|apply qq|refine qk ?_ GE101.out)|exact HB.out)⟩⟩
  ·rw[if_neg c4] at H
   have c4b0:decide (a0_0 < 0)=false:=decide_eq_false c4
   clear c4
   (first|rw[c4b0]|(simp only[i64_w,i32_w];rw[c4b0])|skip)
   by_cases c6:a0_0 > 100000000000
   ·rw[if_pos c6] at H
    have c6b0:decide (100000000000 < a0_0)=true:=decide_eq_true c6
    clear c6
    have H':=U.mk H
    clear H
    have hcz7_0:w3.cell? ⟨gb101,0,none⟩ = some (.int .i64 a0_0):=(qj BK101.out 0).trans rfl
    have hcz7_1:w3.cell? ⟨gb101,1,none⟩ = some (.string a0_1):=(qj BK101.out 1).trans rfl
    have hcz7_2:w3.cell? ⟨gb101,2,none⟩ = some (.string a0_2):=(qj BK101.out 2).trans rfl
    have hcz7_3:w3.cell? ⟨gb101,3,none⟩ = some (.slice A0_3 l0_3.length c0_3):=(qj BK101.out 3).trans rfl
    have hcz7_4:w3.cell? ⟨gb101,4,none⟩ = some (.slice A0_4 l0_4.length c0_4):=(qj BK101.out 4).trans rfl
    have hfz7_0:=qz BK101.out 0
    have hfz7_1:=qz BK101.out 1
    have hfz7_2:=qz BK101.out 2
    have hfz7_3:=qz BK101.out 3
    have hfz7_4:=qz BK101.out 4
    go_wp2
    go_meet
    case rel=>exact⟨_,(true),(by first|rfl|(simp;done)|(simp[*];done)|(generalize ByteArray.toList _=l_;cases l_ <;> first|rfl|(simp;done))),H',⟨by first|omega|exact Nat.le_refl _⟩,⟨by(with_reducible repeat(first|refine qw ?_ _|refine qx ?_|refine qv ?_ _));exact BK101.out⟩,⟨by repeat(first|(with_reducible first|exact HB.out|apply G|apply J|apply qq|refine qk ?_ GE101.out)|exact HB.out)⟩⟩
   ·rw[if_neg c6] at H
    have c6b0:decide (100000000000 < a0_0)=false:=decide_eq_false c6
    clear c6
    by_cases c8:(a0_1.size:Int) > 60
    ·rw[if_pos c8] at H
     have c8b0:decide (60 < (a0_1.size:Int))=true:=decide_eq_true c8
     have c8b1:decide (60 < a0_1.size)=true:=decide_eq_true (by omega)
     clear c8
     have H':=U.mk H
     clear H
     have hcz9_0:w3.cell? ⟨gb101,0,none⟩ = some (.int .i64 a0_0):=(qj BK101.out 0).trans rfl
     have hcz9_1:w3.cell? ⟨gb101,1,none⟩ = some (.string a0_1):=(qj BK101.out 1).trans rfl
     have hcz9_2:w3.cell? ⟨gb101,2,none⟩ = some (.string a0_2):=(qj BK101.out 2).trans rfl
     have hcz9_3:w3.cell? ⟨gb101,3,none⟩ = some (.slice A0_3 l0_3.length c0_3):=(qj BK101.out 3).trans rfl
     have hcz9_4:w3.cell? ⟨gb101,4,none⟩ = some (.slice A0_4 l0_4.length c0_4):=(qj BK101.out 4).trans rfl
     have hfz9_0:=qz BK101.out 0
     have hfz9_1:=qz BK101.out 1
     have hfz9_2:=qz BK101.out 2
     have hfz9_3:=qz BK101.out 3
     have hfz9_4:=qz BK101.out 4
     go_wp2
     go_meet
     case rel=>exact⟨_,(true),(by first|rfl|(simp;done)|(simp[*];done)|(generalize ByteArray.toList _=l_;cases l_ <;> first|rfl|(simp;done))),H',⟨by first|omega|exact Nat.le_refl _⟩,⟨by(with_reducible repeat(first|refine qw ?_ _|refine qx ?_|refine qv ?_ _));exact BK101.out⟩,⟨by repeat(first|(with_reducible first|exact HB.out|apply G|apply J|apply qq|refine qk ?_ GE101.out)|exact HB.out)⟩⟩
    ·rw[if_neg c8] at H
     have c8b0:decide (60 < (a0_1.size:Int))=false:=decide_eq_false c8
     have c8b1:decide (60 < a0_1.size)=false:=decide_eq_false (by omega)
     clear c8
     replace H:=jq8.mp H
     obtain⟨t102,A100,H⟩:=H
     try dsimp only at H
     have A10:=U.mk A100
     clear A100
     have H':=U.mk H
     clear H
     have hcz11_0:w3.cell? ⟨gb101,0,none⟩ = some (.int .i64 a0_0):=(qj BK101.out 0).trans rfl
     have hcz11_1:w3.cell? ⟨gb101,1,none⟩ = some (.string a0_1):=(qj BK101.out 1).trans rfl
     have hcz11_2:w3.cell? ⟨gb101,2,none⟩ = some (.string a0_2):=(qj BK101.out 2).trans rfl
     have hcz11_3:w3.cell? ⟨gb101,3,none⟩ = some (.slice A0_3 l0_3.length c0_3):=(qj BK101.out 3).trans rfl
     have hcz11_4:w3.cell? ⟨gb101,4,none⟩ = some (.slice A0_4 l0_4.length c0_4):=(qj BK101.out 4).trans rfl
     have hfz11_0:=qz BK101.out 0
     have hfz11_1:=qz BK101.out 1
     have hfz11_2:=qz BK101.out 2
     have hfz11_3:=qz BK101.out 3
     have hfz11_4:=qz BK101.out 4
     go_wp2_with (first|(go_at_call 70;(with_reducible refine(qwj.calls k a0_1 t102 _ A10.out).mono ?_);rintro e w' ⟨rfl,⟨nd,rfl⟩⟩))
     go_meet
     case rel=>exact⟨_,(!t102),(by first|rfl|(simp;done)|(simp[*];done)|(generalize ByteArray.toList _=l_;cases l_ <;> first|rfl|(simp;done))),H',⟨by first|omega|exact Nat.le_refl _⟩,⟨by(with_reducible repeat(first|refine qw ?_ _|refine qx ?_|refine qv ?_ _));exact BK101.out⟩,⟨by repeat(first|(with_reducible first|exact HB.out|apply G|apply J|apply qq|refine qk ?_ GE101.out)|exact HB.out)⟩⟩
 case rest =>
  clear HC2
  try clear c1
  try clear p2
  try clear c4
  try clear c4b0
  try clear c6
  try clear c6b0
  try clear c8
  try clear c8b0
  try clear c8b1
  try clear hcz11_0
  try clear hcz11_1
  try clear hcz11_2
  try clear hcz11_3
  try clear hcz11_4
  try clear hcz5_0
  try clear hcz5_1
  try clear hcz5_2
  try clear hcz5_3
  try clear hcz5_4
  try clear hcz7_0
  try clear hcz7_1
  try clear hcz7_2
  try clear hcz7_3
  try clear hcz7_4
  try clear hcz9_0
  try clear hcz9_1
  try clear hcz9_2
  try clear hcz9_3
  try clear hcz9_4
  try clear hfz11_0
  try clear hfz11_1
  try clear hfz11_2
  try clear hfz11_3
  try clear hfz11_4
  try clear hfz5_0
  try clear hfz5_1
  try clear hfz5_2
  try clear hfz5_3
  try clear hfz5_4
  try clear hfz7_0
  try clear hfz7_1
  try clear hfz7_2
  try clear hfz7_3
  try clear hfz7_4
  try clear hfz9_0
  try clear hfz9_1
  try clear hfz9_2
  try clear hfz9_3
  try clear hfz9_4
  obtain⟨kq,x22_1,rfl,HA,HJ1,BK101,HB⟩:=hcut
  cases kq with
  | zero=>exact absurd HA.out (by simp[qkz.j0])
  | succ kj1 =>
   have H:=HA.out
   clear HA
   simp only[qkz.j0] at H
   by_cases c12:x22_1=true
   ·subst c12
    have H1:(some false)=some r:=by rw[if_pos rfl] at H;exact H
    clear H
    have H:=H1
    clear H1
    obtain rfl:=Option.some.inj H
    go_wp2
    go_ret
    exact⟨by first|rfl|(simp[*,jv,jk] <;> rfl),by repeat(first|(with_reducible first|exact HB.out|apply G|apply J|apply qq|refine qk ?_ GE101.out)|exact HB.out)⟩
   ·replace c12:=jq9.mpr c12
    subst c12
    have H1:((qxz.f a0_0 a0_1 a0_2 l0_3 l0_4).bind fun t103=>(if t103=true then(if (a0_2.size:Int)≤200 then((qwj.f kj1 a0_2).bind fun t104=>(if t104=true then(some (decide ((l0_3.length:Int)≤20))) else(some false))) else(some false)) else(if (l0_4.length:Int)=16 then(if a0_2.toList=([]:List UInt8) then(some ((l0_3.length:Int) == 0)) else(some false)) else(some false))))=some r:=by rw[if_neg (show ¬ (false=true) by decide)] at H;exact H
    clear H
    have H:=H1
    clear H1
    replace H:=jq8.mp H
    obtain⟨t103,A130,H⟩:=H
    try dsimp only at H
    have A13:=U.mk A130
    clear A130
    by_cases c14:t103=true
    ·subst c14
     have H1:(if (a0_2.size:Int)≤200 then((qwj.f kj1 a0_2).bind fun t104=>(if t104=true then(some (decide ((l0_3.length:Int)≤20))) else(some false))) else(some false))=some r:=by rw[if_pos rfl] at H;exact H
     clear H
     have H:=H1
     clear H1
     by_cases c15:(a0_2.size:Int)≤200
     ·rw[if_pos c15] at H
      have c15b0:decide ((a0_2.size:Int)≤200)=true:=decide_eq_true c15
      have c15b1:decide (a0_2.size≤200)=true:=decide_eq_true (by omega)
      clear c15
      replace H:=jq8.mp H
      obtain⟨t104,A160,H⟩:=H
      try dsimp only at H
      have A16:=U.mk A160
      clear A160
      by_cases c17:t104=true
      ·subst c17
       have H1:(some (decide ((l0_3.length:Int)≤20)))=some r:=by rw[if_pos rfl] at H;exact H
       clear H
       have H:=H1
       clear H1
       obtain rfl:=Option.some.inj H
       have hcz18_0:wc.cell? ⟨gb101,0,none⟩ = some (.int .i64 a0_0):=(qj BK101.out 0).trans rfl
       have hcz18_1:wc.cell? ⟨gb101,1,none⟩ = some (.string a0_1):=(qj BK101.out 1).trans rfl
       have hcz18_2:wc.cell? ⟨gb101,2,none⟩ = some (.string a0_2):=(qj BK101.out 2).trans rfl
       have hcz18_3:wc.cell? ⟨gb101,3,none⟩ = some (.slice A0_3 l0_3.length c0_3):=(qj BK101.out 3).trans rfl
       have hcz18_4:wc.cell? ⟨gb101,4,none⟩ = some (.slice A0_4 l0_4.length c0_4):=(qj BK101.out 4).trans rfl
       have hfz18_0:=qz BK101.out 0
       have hfz18_1:=qz BK101.out 1
       have hfz18_2:=qz BK101.out 2
       have hfz18_3:=qz BK101.out 3
       have hfz18_4:=qz BK101.out 4
       go_wp2_with (first|((with_reducible refine jw (f:=71) rfl ?_);refine goesL_ (some 24) rfl rfl Try.func71 (by kernel_rfl) rfl #[.agg #[.int .i64 a0_0,.string a0_1,.string a0_2,.slice A0_3 l0_3.length c0_3,.slice A0_4 l0_4.length c0_4]] rfl (by(try simp only[jq0,jq1,jq2]);first|done|rfl|(simp only[jq3,jq4];rfl)) ?_;(with_reducible refine(qxz.calls a0_0 a0_1 a0_2 _ _ l0_3 _ _ l0_4 true _ ?side1 ?side2 ?side3 ?side4 A13.out).mono ?_);(case side1=>solve_by_elim only[(Kd.C_below HR0_3.out HB.out),Kd.C_alloc,Kd.C_drewN,Kd.C_drew]);(case side2=>exact HC0_3.out);(case side3=>solve_by_elim only[(Kd.C_below HR0_4.out HB.out),Kd.C_alloc,Kd.C_drewN,Kd.C_drew]);(case side4=>exact HC0_4.out);rintro e w19 ⟨rfl,hb⟩;refine⟨_,rfl,?_⟩;replace BK101:=U.mk (vx (g:=gb101) (o:=.cells #[.int .i64 a0_0,.string a0_1,.string a0_2,.slice A0_3 l0_3.length c0_3,.slice A0_4 l0_4.length c0_4] 27 (0,0)) (by solve_by_elim only[BK101.out,qw,qx,qv]) hb);replace HB:=U.mk (zz (by solve_by_elim (maxDepth:=20) only[HB.out,G,J,qq,qk,GE101.out]) hb);(try clear hb);have hcz20_0:w19.cell? ⟨gb101,0,none⟩ = some (.int .i64 a0_0):=(qj BK101.out 0).trans rfl;have hcz20_1:w19.cell? ⟨gb101,1,none⟩ = some (.string a0_1):=(qj BK101.out 1).trans rfl;have hcz20_2:w19.cell? ⟨gb101,2,none⟩ = some (.string a0_2):=(qj BK101.out 2).trans rfl;have hcz20_3:w19.cell? ⟨gb101,3,none⟩ = some (.slice A0_3 l0_3.length c0_3):=(qj BK101.out 3).trans rfl;have hcz20_4:w19.cell? ⟨gb101,4,none⟩ = some (.slice A0_4 l0_4.length c0_4):=(qj BK101.out 4).trans rfl;have hfz20_0:=qz BK101.out 0;have hfz20_1:=qz BK101.out 1;have hfz20_2:=qz BK101.out 2;have hfz20_3:=qz BK101.out 3;have hfz20_4:=qz BK101.out 4)|(go_at_call 70;(with_reducible refine(qwj.calls kj1 a0_2 true _ A16.out).mono ?_);rintro e w' ⟨rfl,⟨nd,rfl⟩⟩))
       go_ret
       exact⟨by first|rfl|(simp[*,jv,jk] <;> rfl),by repeat(first|(with_reducible first|exact HB.out|apply G|apply J|apply qq|refine qk ?_ GE101.out)|exact HB.out)⟩
      ·replace c17:=jq9.mpr c17
       subst c17
       have H1:(some false)=some r:=by rw[if_neg (show ¬ (false=true) by decide)] at H;exact H
       clear H
       have H:=H1
       clear H1
       obtain rfl:=Option.some.inj H
       have hcz21_0:wc.cell? ⟨gb101,0,none⟩ = some (.int .i64 a0_0):=(qj BK101.out 0).trans rfl
       have hcz21_1:wc.cell? ⟨gb101,1,none⟩ = some (.string a0_1):=(qj BK101.out 1).trans rfl
       have hcz21_2:wc.cell? ⟨gb101,2,none⟩ = some (.string a0_2):=(qj BK101.out 2).trans rfl
       have hcz21_3:wc.cell? ⟨gb101,3,none⟩ = some (.slice A0_3 l0_3.length c0_3):=(qj BK101.out 3).trans rfl
       have hcz21_4:wc.cell? ⟨gb101,4,none⟩ = some (.slice A0_4 l0_4.length c0_4):=(qj BK101.out 4).trans rfl
       have hfz21_0:=qz BK101.out 0
       have hfz21_1:=qz BK101.out 1
       have hfz21_2:=qz BK101.out 2
       have hfz21_3:=qz BK101.out 3
       have hfz21_4:=qz BK101.out 4
       go_wp2_with (first|((with_reducible refine jw (f:=71) rfl ?_);refine goesL_ (some 24) rfl rfl Try.func71 (by kernel_rfl) rfl #[.agg #[.int .i64 a0_0,.string a0_1,.string a0_2,.slice A0_3 l0_3.length c0_3,.slice A0_4 l0_4.length c0_4]] rfl (by(try simp only[jq0,jq1,jq2]);first|done|rfl|(simp only[jq3,jq4];rfl)) ?_;(with_reducible refine(qxz.calls a0_0 a0_1 a0_2 _ _ l0_3 _ _ l0_4 true _ ?side1 ?side2 ?side3 ?side4 A13.out).mono ?_);(case side1=>solve_by_elim only[(Kd.C_below HR0_3.out HB.out),Kd.C_alloc,Kd.C_drewN,Kd.C_drew]);(case side2=>exact HC0_3.out);(case side3=>solve_by_elim only[(Kd.C_below HR0_4.out HB.out),Kd.C_alloc,Kd.C_drewN,Kd.C_drew]);(case side4=>exact HC0_4.out);rintro e w22 ⟨rfl,hb⟩;refine⟨_,rfl,?_⟩;replace BK101:=U.mk (vx (g:=gb101) (o:=.cells #[.int .i64 a0_0,.string a0_1,.string a0_2,.slice A0_3 l0_3.length c0_3,.slice A0_4 l0_4.length c0_4] 27 (0,0)) (by solve_by_elim only[BK101.out,qw,qx,qv]) hb);replace HB:=U.mk (zz (by solve_by_elim (maxDepth:=20) only[HB.out,G,J,qq,qk,GE101.out]) hb);(try clear hb);have hcz23_0:w22.cell? ⟨gb101,0,none⟩ = some (.int .i64 a0_0):=(qj BK101.out 0).trans rfl;have hcz23_1:w22.cell? ⟨gb101,1,none⟩ = some (.string a0_1):=(qj BK101.out 1).trans rfl;have hcz23_2:w22.cell? ⟨gb101,2,none⟩ = some (.string a0_2):=(qj BK101.out 2).trans rfl;have hcz23_3:w22.cell? ⟨gb101,3,none⟩ = some (.slice A0_3 l0_3.length c0_3):=(qj BK101.out 3).trans rfl;have hcz23_4:w22.cell? ⟨gb101,4,none⟩ = some (.slice A0_4 l0_4.length c0_4):=(qj BK101.out 4).trans rfl;have hfz23_0:=qz BK101.out 0;have hfz23_1:=qz BK101.out 1;have hfz23_2:=qz BK101.out 2;have hfz23_3:=qz BK101.out 3;have hfz23_4:=qz BK101.out 4)|(go_at_call 70;(with_reducible refine(qwj.calls kj1 a0_2 false _ A16.out).mono ?_);rintro e w' ⟨rfl,⟨nd,rfl⟩⟩))
       go_ret
       exact⟨by first|rfl|(simp[*,jv,jk] <;> rfl),by repeat(first|(with_reducible first|exact HB.out|apply G|apply J|apply qq|refine qk ?_ GE101.out)|exact HB.out)⟩
     ·rw[if_neg c15] at H
      have c15b0:decide ((a0_2.size:Int)≤200)=false:=decide_eq_false c15
      have c15b1:decide (a0_2.size≤200)=false:=decide_eq_false (by omega)
      clear c15
      obtain rfl:=Option.some.inj H
      have hcz24_0:wc.cell? ⟨gb101,0,none⟩ = some (.int .i64 a0_0):=(qj BK101.out 0).trans rfl
      have hcz24_1:wc.cell? ⟨gb101,1,none⟩ = some (.string a0_1):=(qj BK101.out 1).trans rfl
      have hcz24_2:wc.cell? ⟨gb101,2,none⟩ = some (.string a0_2):=(qj BK101.out 2).trans rfl
      have hcz24_3:wc.cell? ⟨gb101,3,none⟩ = some (.slice A0_3 l0_3.length c0_3):=(qj BK101.out 3).trans rfl
      have hcz24_4:wc.cell? ⟨gb101,4,none⟩ = some (.slice A0_4 l0_4.length c0_4):=(qj BK101.out 4).trans rfl
      have hfz24_0:=qz BK101.out 0
      have hfz24_1:=qz BK101.out 1
      have hfz24_2:=qz BK101.out 2
      have hfz24_3:=qz BK101.out 3
      have hfz24_4:=qz BK101.out 4
      go_wp2_with (first|((with_reducible refine jw (f:=71) rfl ?_);refine goesL_ (some 24) rfl rfl Try.func71 (by kernel_rfl) rfl #[.agg #[.int .i64 a0_0,.string a0_1,.string a0_2,.slice A0_3 l0_3.length c0_3,.slice A0_4 l0_4.length c0_4]] rfl (by(try simp only[jq0,jq1,jq2]);first|done|rfl|(simp only[jq3,jq4];rfl)) ?_;(with_reducible refine(qxz.calls a0_0 a0_1 a0_2 _ _ l0_3 _ _ l0_4 true _ ?side1 ?side2 ?side3 ?side4 A13.out).mono ?_);(case side1=>solve_by_elim only[(Kd.C_below HR0_3.out HB.out),Kd.C_alloc,Kd.C_drewN,Kd.C_drew]);(case side2=>exact HC0_3.out);(case side3=>solve_by_elim only[(Kd.C_below HR0_4.out HB.out),Kd.C_alloc,Kd.C_drewN,Kd.C_drew]);(case side4=>exact HC0_4.out);rintro e w25 ⟨rfl,hb⟩;refine⟨_,rfl,?_⟩;replace BK101:=U.mk (vx (g:=gb101) (o:=.cells #[.int .i64 a0_0,.string a0_1,.string a0_2,.slice A0_3 l0_3.length c0_3,.slice A0_4 l0_4.length c0_4] 27 (0,0)) (by solve_by_elim only[BK101.out,qw,qx,qv]) hb);replace HB:=U.mk (zz (by solve_by_elim (maxDepth:=20) only[HB.out,G,J,qq,qk,GE101.out]) hb);(try clear hb);have hcz26_0:w25.cell? ⟨gb101,0,none⟩ = some (.int .i64 a0_0):=(qj BK101.out 0).trans rfl;have hcz26_1:w25.cell? ⟨gb101,1,none⟩ = some (.string a0_1):=(qj BK101.out 1).trans rfl;have hcz26_2:w25.cell? ⟨gb101,2,none⟩ = some (.string a0_2):=(qj BK101.out 2).trans rfl;have hcz26_3:w25.cell? ⟨gb101,3,none⟩ = some (.slice A0_3 l0_3.length c0_3):=(qj BK101.out 3).trans rfl;have hcz26_4:w25.cell? ⟨gb101,4,none⟩ = some (.slice A0_4 l0_4.length c0_4):=(qj BK101.out 4).trans rfl;have hfz26_0:=qz BK101.out 0;have hfz26_1:=qz BK101.out 1;have hfz26_2:=qz BK101.out 2;have hfz26_3:=qz BK101.out 3;have hfz26_4:=qz BK101.out 4))
      go_ret
      exact⟨by first|rfl|(simp[*,jv,jk] <;> rfl),by repeat(first|(with_reducible first|exact HB.out|apply G|apply J|apply qq|refine qk ?_ GE101.out)|exact HB.out)⟩
    ·replace c14:=jq9.mpr c14
     subst c14
     have H1:(if (l0_4.length:Int)=16 then(if a0_2.toList=([]:List UInt8) then(some ((l0_3.length:Int) == 0)) else(some false)) else(some false))=some r:=by rw[if_neg (show ¬ (false=true) by decide)] at H;exact H
     clear H
     have H:=H1
     clear H1
     by_cases c27:(l0_4.length:Int)=16
     ·rw[if_pos c27] at H
      have c27b0:((l0_4.length:Int) == 16)=true:=beq_iff_eq.mpr c27
      have c27b1:((l0_4.length:Int) != 16)=false:=bne_eq_false_iff_eq.mpr c27
      clear c27
      by_cases c28:a0_2.toList=([]:List UInt8)
      ·rw[if_pos c28] at H
       have c28b0:(a0_2.toList == ([]:List UInt8))=true:=beq_iff_eq.mpr c28
       have c28b1:(a0_2.toList != ([]:List UInt8))=false:=bne_eq_false_iff_eq.mpr c28
       clear c28
       obtain rfl:=Option.some.inj H
       have hcz29_0:wc.cell? ⟨gb101,0,none⟩ = some (.int .i64 a0_0):=(qj BK101.out 0).trans rfl
       have hcz29_1:wc.cell? ⟨gb101,1,none⟩ = some (.string a0_1):=(qj BK101.out 1).trans rfl
       have hcz29_2:wc.cell? ⟨gb101,2,none⟩ = some (.string a0_2):=(qj BK101.out 2).trans rfl
       have hcz29_3:wc.cell? ⟨gb101,3,none⟩ = some (.slice A0_3 l0_3.length c0_3):=(qj BK101.out 3).trans rfl
       have hcz29_4:wc.cell? ⟨gb101,4,none⟩ = some (.slice A0_4 l0_4.length c0_4):=(qj BK101.out 4).trans rfl
       have hfz29_0:=qz BK101.out 0
       have hfz29_1:=qz BK101.out 1
       have hfz29_2:=qz BK101.out 2
       have hfz29_3:=qz BK101.out 3
       have hfz29_4:=qz BK101.out 4
       go_wp2_with (first|((with_reducible refine jw (f:=71) rfl ?_);refine goesL_ (some 24) rfl rfl Try.func71 (by kernel_rfl) rfl #[.agg #[.int .i64 a0_0,.string a0_1,.string a0_2,.slice A0_3 l0_3.length c0_3,.slice A0_4 l0_4.length c0_4]] rfl (by(try simp only[jq0,jq1,jq2]);first|done|rfl|(simp only[jq3,jq4];rfl)) ?_;(with_reducible refine(qxz.calls a0_0 a0_1 a0_2 _ _ l0_3 _ _ l0_4 false _ ?side1 ?side2 ?side3 ?side4 A13.out).mono ?_);(case side1=>solve_by_elim only[(Kd.C_below HR0_3.out HB.out),Kd.C_alloc,Kd.C_drewN,Kd.C_drew]);(case side2=>exact HC0_3.out);(case side3=>solve_by_elim only[(Kd.C_below HR0_4.out HB.out),Kd.C_alloc,Kd.C_drewN,Kd.C_drew]);(case side4=>exact HC0_4.out);rintro e w30 ⟨rfl,hb⟩;refine⟨_,rfl,?_⟩;replace BK101:=U.mk (vx (g:=gb101) (o:=.cells #[.int .i64 a0_0,.string a0_1,.string a0_2,.slice A0_3 l0_3.length c0_3,.slice A0_4 l0_4.length c0_4] 27 (0,0)) (by solve_by_elim only[BK101.out,qw,qx,qv]) hb);replace HB:=U.mk (zz (by solve_by_elim (maxDepth:=20) only[HB.out,G,J,qq,qk,GE101.out]) hb);(try clear hb);have hcz31_0:w30.cell? ⟨gb101,0,none⟩ = some (.int .i64 a0_0):=(qj BK101.out 0).trans rfl;have hcz31_1:w30.cell? ⟨gb101,1,none⟩ = some (.string a0_1):=(qj BK101.out 1).trans rfl;have hcz31_2:w30.cell? ⟨gb101,2,none⟩ = some (.string a0_2):=(qj BK101.out 2).trans rfl;have hcz31_3:w30.cell? ⟨gb101,3,none⟩ = some (.slice A0_3 l0_3.length c0_3):=(qj BK101.out 3).trans rfl;have hcz31_4:w30.cell? ⟨gb101,4,none⟩ = some (.slice A0_4 l0_4.length c0_4):=(qj BK101.out 4).trans rfl;have hfz31_0:=qz BK101.out 0;have hfz31_1:=qz BK101.out 1;have hfz31_2:=qz BK101.out 2;have hfz31_3:=qz BK101.out 3;have hfz31_4:=qz BK101.out 4))
       go_ret
       exact⟨by first|rfl|(simp[*,jv,jk] <;> rfl),by repeat(first|(with_reducible first|exact HB.out|apply G|apply J|apply qq|refine qk ?_ GE101.out)|exact HB.out)⟩
      ·rw[if_neg c28] at H
       have c28b0:(a0_2.toList == ([]:List UInt8))=false:=beq_eq_false_iff_ne.mpr c28
       have c28b1:(a0_2.toList != ([]:List UInt8))=true:=bne_iff_ne.mpr c28
       obtain rfl:=Option.some.inj H
       have hcz32_0:wc.cell? ⟨gb101,0,none⟩ = some (.int .i64 a0_0):=(qj BK101.out 0).trans rfl
       have hcz32_1:wc.cell? ⟨gb101,1,none⟩ = some (.string a0_1):=(qj BK101.out 1).trans rfl
       have hcz32_2:wc.cell? ⟨gb101,2,none⟩ = some (.string a0_2):=(qj BK101.out 2).trans rfl
       have hcz32_3:wc.cell? ⟨gb101,3,none⟩ = some (.slice A0_3 l0_3.length c0_3):=(qj BK101.out 3).trans rfl
       have hcz32_4:wc.cell? ⟨gb101,4,none⟩ = some (.slice A0_4 l0_4.length c0_4):=(qj BK101.out 4).trans rfl
       have hfz32_0:=qz BK101.out 0
       have hfz32_1:=qz BK101.out 1
       have hfz32_2:=qz BK101.out 2
       have hfz32_3:=qz BK101.out 3
       have hfz32_4:=qz BK101.out 4
       go_wp2_with (first|((with_reducible refine jw (f:=71) rfl ?_);refine goesL_ (some 24) rfl rfl Try.func71 (by kernel_rfl) rfl #[.agg #[.int .i64 a0_0,.string a0_1,.string a0_2,.slice A0_3 l0_3.length c0_3,.slice A0_4 l0_4.length c0_4]] rfl (by(try simp only[jq0,jq1,jq2]);first|done|rfl|(simp only[jq3,jq4];rfl)) ?_;(with_reducible refine(qxz.calls a0_0 a0_1 a0_2 _ _ l0_3 _ _ l0_4 false _ ?side1 ?side2 ?side3 ?side4 A13.out).mono ?_);(case side1=>solve_by_elim only[(Kd.C_below HR0_3.out HB.out),Kd.C_alloc,Kd.C_drewN,Kd.C_drew]);(case side2=>exact HC0_3.out);(case side3=>solve_by_elim only[(Kd.C_below HR0_4.out HB.out),Kd.C_alloc,Kd.C_drewN,Kd.C_drew]);(case side4=>exact HC0_4.out);rintro e w33 ⟨rfl,hb⟩;refine⟨_,rfl,?_⟩;replace BK101:=U.mk (vx (g:=gb101) (o:=.cells #[.int .i64 a0_0,.string a0_1,.string a0_2,.slice A0_3 l0_3.length c0_3,.slice A0_4 l0_4.length c0_4] 27 (0,0)) (by solve_by_elim only[BK101.out,qw,qx,qv]) hb);replace HB:=U.mk (zz (by solve_by_elim (maxDepth:=20) only[HB.out,G,J,qq,qk,GE101.out]) hb);(try clear hb);have hcz34_0:w33.cell? ⟨gb101,0,none⟩ = some (.int .i64 a0_0):=(qj BK101.out 0).trans rfl;have hcz34_1:w33.cell? ⟨gb101,1,none⟩ = some (.string a0_1):=(qj BK101.out 1).trans rfl;have hcz34_2:w33.cell? ⟨gb101,2,none⟩ = some (.string a0_2):=(qj BK101.out 2).trans rfl;have hcz34_3:w33.cell? ⟨gb101,3,none⟩ = some (.slice A0_3 l0_3.length c0_3):=(qj BK101.out 3).trans rfl;have hcz34_4:w33.cell? ⟨gb101,4,none⟩ = some (.slice A0_4 l0_4.length c0_4):=(qj BK101.out 4).trans rfl;have hfz34_0:=qz BK101.out 0;have hfz34_1:=qz BK101.out 1;have hfz34_2:=qz BK101.out 2;have hfz34_3:=qz BK101.out 3;have hfz34_4:=qz BK101.out 4))
       go_ret
       exact⟨by first|rfl|(simp[*,jv,jk] <;> rfl),by repeat(first|(with_reducible first|exact HB.out|apply G|apply J|apply qq|refine qk ?_ GE101.out)|exact HB.out)⟩
     ·rw[if_neg c27] at H
      have c27b0:((l0_4.length:Int) == 16)=false:=beq_eq_false_iff_ne.mpr c27
      have c27b1:((l0_4.length:Int) != 16)=true:=bne_iff_ne.mpr c27
      obtain rfl:=Option.some.inj H
      have hcz35_0:wc.cell? ⟨gb101,0,none⟩ = some (.int .i64 a0_0):=(qj BK101.out 0).trans rfl
      have hcz35_1:wc.cell? ⟨gb101,1,none⟩ = some (.string a0_1):=(qj BK101.out 1).trans rfl
      have hcz35_2:wc.cell? ⟨gb101,2,none⟩ = some (.string a0_2):=(qj BK101.out 2).trans rfl
      have hcz35_3:wc.cell? ⟨gb101,3,none⟩ = some (.slice A0_3 l0_3.length c0_3):=(qj BK101.out 3).trans rfl
      have hcz35_4:wc.cell? ⟨gb101,4,none⟩ = some (.slice A0_4 l0_4.length c0_4):=(qj BK101.out 4).trans rfl
      have hfz35_0:=qz BK101.out 0
      have hfz35_1:=qz BK101.out 1
      have hfz35_2:=qz BK101.out 2
      have hfz35_3:=qz BK101.out 3
      have hfz35_4:=qz BK101.out 4
      go_wp2_with (first|((with_reducible refine jw (f:=71) rfl ?_);refine goesL_ (some 24) rfl rfl Try.func71 (by kernel_rfl) rfl #[.agg #[.int .i64 a0_0,.string a0_1,.string a0_2,.slice A0_3 l0_3.length c0_3,.slice A0_4 l0_4.length c0_4]] rfl (by(try simp only[jq0,jq1,jq2]);first|done|rfl|(simp only[jq3,jq4];rfl)) ?_;(with_reducible refine(qxz.calls a0_0 a0_1 a0_2 _ _ l0_3 _ _ l0_4 false _ ?side1 ?side2 ?side3 ?side4 A13.out).mono ?_);(case side1=>solve_by_elim only[(Kd.C_below HR0_3.out HB.out),Kd.C_alloc,Kd.C_drewN,Kd.C_drew]);(case side2=>exact HC0_3.out);(case side3=>solve_by_elim only[(Kd.C_below HR0_4.out HB.out),Kd.C_alloc,Kd.C_drewN,Kd.C_drew]);(case side4=>exact HC0_4.out);rintro e w36 ⟨rfl,hb⟩;refine⟨_,rfl,?_⟩;replace BK101:=U.mk (vx (g:=gb101) (o:=.cells #[.int .i64 a0_0,.string a0_1,.string a0_2,.slice A0_3 l0_3.length c0_3,.slice A0_4 l0_4.length c0_4] 27 (0,0)) (by solve_by_elim only[BK101.out,qw,qx,qv]) hb);replace HB:=U.mk (zz (by solve_by_elim (maxDepth:=20) only[HB.out,G,J,qq,qk,GE101.out]) hb);(try clear hb);have hcz37_0:w36.cell? ⟨gb101,0,none⟩ = some (.int .i64 a0_0):=(qj BK101.out 0).trans rfl;have hcz37_1:w36.cell? ⟨gb101,1,none⟩ = some (.string a0_1):=(qj BK101.out 1).trans rfl;have hcz37_2:w36.cell? ⟨gb101,2,none⟩ = some (.string a0_2):=(qj BK101.out 2).trans rfl;have hcz37_3:w36.cell? ⟨gb101,3,none⟩ = some (.slice A0_3 l0_3.length c0_3):=(qj BK101.out 3).trans rfl;have hcz37_4:w36.cell? ⟨gb101,4,none⟩ = some (.slice A0_4 l0_4.length c0_4):=(qj BK101.out 4).trans rfl;have hfz37_0:=qz BK101.out 0;have hfz37_1:=qz BK101.out 1;have hfz37_2:=qz BK101.out 2;have hfz37_3:=qz BK101.out 3;have hfz37_4:=qz BK101.out 4))
      go_ret
      exact⟨by first|rfl|(simp[*,jv,jk] <;> rfl),by repeat(first|(with_reducible first|exact HB.out|apply G|apply J|apply qq|refine qk ?_ GE101.out)|exact HB.out)⟩
def qwk.f (k:Nat) (a0_0:Int) (a0_1:ByteArray) (a0_2:ByteArray) (l0_3:List Int) (l0_4:List Int):Option (List Int):=(qxz.f a0_0 a0_1 a0_2 l0_3 l0_4).bind fun t102=>(if t102=true then((bytesOfS.f a0_2).bind fun t103=>((zqq.f k l0_3 t103).bind fun t106=>(some t106))) else(if ([]:List Int).length + l0_4.length < 140737488355328 then(some (([]:List Int) ++ l0_4)) else(none)))
theorem qwk.calls (k:Nat) (a0_0:Int) (a0_1:ByteArray) (a0_2:ByteArray) (A0_3:Option Addr) (c0_3:Nat) (l0_3:List Int) (A0_4:Option Addr) (c0_4:Nat) (l0_4:List Int) (r:List Int) (w:World) (hr0_3:Kd.C (Kd.int .u8) w A0_3 l0_3.length l0_3) (hc0_3:l0_3.length≤c0_3) (hr0_4:Kd.C (Kd.int .u8) w A0_4 l0_4.length l0_4) (hc0_4:l0_4.length≤c0_4) (h:qwk.f k a0_0 a0_1 a0_2 l0_3 l0_4=some r) :
  Calls Try.prog 73 #[.agg #[.int .i64 a0_0,.string a0_1,.string a0_2,.slice A0_3 l0_3.length c0_3,.slice A0_4 l0_4.length c0_4]] w fun e w'=>∃ v0_:Value,e=.returned (v0_)∧Kd.R (Kd.int .u8) 5 w' w.heap.size (fun _=>True) v0_ r∧Below w.heap.size w w':=by
 have hu27:=Try.underlying27
 have HR0_3:=U.mk hr0_3
 have HC0_3:=U.mk hc0_3
 clear hr0_3 hc0_3
 have HR0_4:=U.mk hr0_4
 have HC0_4:=U.mk hc0_4
 clear hr0_4 hc0_4
 have HB:=U.mk (Below.refl w.heap.size w)
 unfold qwk.f at h
 have H:=h
 clear h
 replace H:=jq8.mp H
 obtain⟨t102,A20,H⟩:=H
 try dsimp only at H
 have A2:=U.mk A20
 clear A20
 by_cases c3:t102=true
 ·subst c3
  have H1:((bytesOfS.f a0_2).bind fun t103=>((zqq.f k l0_3 t103).bind fun t106=>(some t106)))=some r:=by rw[if_pos rfl] at H;exact H
  clear H
  have H:=H1
  clear H1
  replace H:=jq8.mp H
  obtain⟨t103,A40,H⟩:=H
  try dsimp only at H
  have A4:=U.mk A40
  clear A40
  replace H:=jq8.mp H
  obtain⟨t106,A50,H⟩:=H
  replace H:(some t106)=some r:=H
  have A5:=U.mk A50
  clear A50
  obtain rfl:=Option.some.inj H
  go_enter Try.func73,Try.ntmps73
  go_wp2_with (first|((with_reducible refine gate_dst (N:=1) rfl ?_);refine box_event ?hg (N:=1) ?hd (cs:=#[.int .i64 a0_0,.string a0_1,.string a0_2,.slice A0_3 l0_3.length c0_3,.slice A0_4 l0_4.length c0_4]) (t:=27) ?hr ?_;(case hd=>rfl);(case hg=>rfl);(case hr=>first|(go_simp;done)|(go_simp;rfl));intro gb101 hg w6 hbox hb;have BK101:=U.mk (hbox);have GW101:=U.mk ((by rw[hg];exact(zj (by solve_by_elim only[HB.out,G,J,qq])):w.heap.size≤gb101));have GE101:=U.mk ((by rw[hg];exact(zj (by solve_by_elim only[HB.out,G,J,qq])):w.heap.size≤gb101));replace HB:=U.mk (zz (by solve_by_elim only[HB.out,G,J,qq]) hb);clear hb hbox hg;have hcz7_0:w6.cell? ⟨gb101,0,none⟩ = some (.int .i64 a0_0):=(qj BK101.out 0).trans rfl;have hcz7_1:w6.cell? ⟨gb101,1,none⟩ = some (.string a0_1):=(qj BK101.out 1).trans rfl;have hcz7_2:w6.cell? ⟨gb101,2,none⟩ = some (.string a0_2):=(qj BK101.out 2).trans rfl;have hcz7_3:w6.cell? ⟨gb101,3,none⟩ = some (.slice A0_3 l0_3.length c0_3):=(qj BK101.out 3).trans rfl;have hcz7_4:w6.cell? ⟨gb101,4,none⟩ = some (.slice A0_4 l0_4.length c0_4):=(qj BK101.out 4).trans rfl;have hfz7_0:=qz BK101.out 0;have hfz7_1:=qz BK101.out 1;have hfz7_2:=qz BK101.out 2;have hfz7_3:=qz BK101.out 3;have hfz7_4:=qz BK101.out 4)|((with_reducible refine jw (f:=71) rfl ?_);refine goesL_ (some 5) rfl rfl Try.func71 (by kernel_rfl) rfl #[.agg #[.int .i64 a0_0,.string a0_1,.string a0_2,.slice A0_3 l0_3.length c0_3,.slice A0_4 l0_4.length c0_4]] rfl (by(try simp only[jq0,jq1,jq2]);first|done|rfl|(simp only[jq3,jq4];rfl)) ?_;(with_reducible refine(qxz.calls a0_0 a0_1 a0_2 _ _ l0_3 _ _ l0_4 true _ ?side1 ?side2 ?side3 ?side4 A2.out).mono ?_);(case side1=>solve_by_elim only[(Kd.C_below HR0_3.out HB.out),Kd.C_alloc,Kd.C_drewN,Kd.C_drew]);(case side2=>exact HC0_3.out);(case side3=>solve_by_elim only[(Kd.C_below HR0_4.out HB.out),Kd.C_alloc,Kd.C_drewN,Kd.C_drew]);(case side4=>exact HC0_4.out);rintro e w8 ⟨rfl,hb⟩;refine⟨_,rfl,?_⟩;replace BK101:=U.mk (vx (g:=gb101) (o:=.cells #[.int .i64 a0_0,.string a0_1,.string a0_2,.slice A0_3 l0_3.length c0_3,.slice A0_4 l0_4.length c0_4] 27 (0,0)) (by solve_by_elim only[BK101.out,qw,qx,qv]) hb);replace HB:=U.mk (zz (by solve_by_elim (maxDepth:=20) only[HB.out,G,J,qq,qk,GE101.out]) hb);(try clear hb);have hcz9_0:w8.cell? ⟨gb101,0,none⟩ = some (.int .i64 a0_0):=(qj BK101.out 0).trans rfl;have hcz9_1:w8.cell? ⟨gb101,1,none⟩ = some (.string a0_1):=(qj BK101.out 1).trans rfl;have hcz9_2:w8.cell? ⟨gb101,2,none⟩ = some (.string a0_2):=(qj BK101.out 2).trans rfl;have hcz9_3:w8.cell? ⟨gb101,3,none⟩ = some (.slice A0_3 l0_3.length c0_3):=(qj BK101.out 3).trans rfl;have hcz9_4:w8.cell? ⟨gb101,4,none⟩ = some (.slice A0_4 l0_4.length c0_4):=(qj BK101.out 4).trans rfl;have hfz9_0:=qz BK101.out 0;have hfz9_1:=qz BK101.out 1;have hfz9_2:=qz BK101.out 2;have hfz9_3:=qz BK101.out 3;have hfz9_4:=qz BK101.out 4)|((with_reducible refine gate_convert (src:=9) (dst:=22) rfl ?_);refine bytesGoesL_ (some 10) rfl rfl (s:=a0_2) rfl rfl ?_;(with_reducible refine(bytesOfS.calls a0_2 t103 _ A4.out).mono ?_);rintro e w10 ⟨v104,rfl,ho0,hb⟩;refine⟨_,rfl,?_⟩;have HO105:=U.mk (Kd.V_lower (Kd.V_mono (ok':=fun k_=>k_≠gb101) ho0 (fun k_ hk_=>(Kd.freshB (g:=gb101) (o:=.cells #[.int .i64 a0_0,.string a0_1,.string a0_2,.slice A0_3 l0_3.length c0_3,.slice A0_4 l0_4.length c0_4] 27 (0,0)) (by solve_by_elim only[BK101.out,qw,qx,qv]) k_ hk_))) (zj (by solve_by_elim (maxDepth:=20) only[HB.out,G,J,qq,qk,GE101.out])));replace BK101:=U.mk (vx (g:=gb101) (o:=.cells #[.int .i64 a0_0,.string a0_1,.string a0_2,.slice A0_3 l0_3.length c0_3,.slice A0_4 l0_4.length c0_4] 27 (0,0)) (by solve_by_elim only[BK101.out,qw,qx,qv]) hb);replace HB:=U.mk (zz (by solve_by_elim (maxDepth:=20) only[HB.out,G,J,qq,qk,GE101.out]) hb);(try clear hb ho0);obtain⟨Ao11,co11,eo11⟩:=Kd.V_slice HO105.out;subst eo11)|((with_reducible refine jw (f:=114) rfl ?_);refine goesL_ (some 11) rfl rfl Try.func114 (by kernel_rfl) rfl #[.slice A0_3 l0_3.length c0_3,.slice Ao11 t103.length co11] rfl (by(try simp only[jq0,jq1,jq2]);first|done|rfl|(simp only[jq3,jq4];rfl)) ?_;(with_reducible refine(zqq.calls k _ _ l0_3 _ _ t103 t106 _ ?side1 ?side2 ?side3 ?side4 A5.out).mono ?_);(case side1=>solve_by_elim only[(Kd.C_below HR0_3.out HB.out),Kd.C_alloc,Kd.C_drewN,Kd.C_drew]);(case side2=>exact HC0_3.out);(case side3=>solve_by_elim only[(Kd.V_reads' HO105.out).2.2,Kd.C_alloc,Kd.C_drewN,Kd.C_drew]);(case side4=>exact(Kd.V_reads' HO105.out).2.1);rintro e w12 ⟨v107,rfl,ho0,hb⟩;refine⟨_,rfl,?_⟩;replace HO105:=U.mk (Kd.V_elder' (by(with_reducible repeat(first|apply Kd.vv|apply Kd.vk|apply Kd.vw));exact HO105.out) (Kd.R_base ho0) hb);have HO108:=U.mk (Kd.R_lower ho0 (zj (by solve_by_elim (maxDepth:=20) only[HB.out,G,J,qq,qk,GE101.out])));replace BK101:=U.mk (vx (g:=gb101) (o:=.cells #[.int .i64 a0_0,.string a0_1,.string a0_2,.slice A0_3 l0_3.length c0_3,.slice A0_4 l0_4.length c0_4] 27 (0,0)) (by solve_by_elim only[BK101.out,qw,qx,qv]) hb);replace HB:=U.mk (zz (by solve_by_elim (maxDepth:=20) only[HB.out,G,J,qq,qk,GE101.out]) hb);(try clear hb ho0)))
  go_ret
  exact⟨_,by first|rfl|(simp[*,jv,jk] <;> rfl),by(with_reducible repeat(first|apply Kd.zv|apply Kd.zk|apply Kd.zw));exact HO108.out,by repeat(first|(with_reducible first|exact HB.out|apply G|apply J|apply qq|refine qk ?_ GE101.out)|exact HB.out)⟩
 ·replace c3:=jq9.mpr c3
  subst c3
  have H1:(if ([]:List Int).length + l0_4.length < 140737488355328 then(some (([]:List Int) ++ l0_4)) else(none))=some r:=by rw[if_neg (show ¬ (false=true) by decide)] at H;exact H
  clear H
  have H:=H1
  clear H1
  by_cases c13:([]:List Int).length + l0_4.length < 140737488355328
  ·rw[if_pos c13] at H
   have LMc13:=U.mk c13
   clear c13
   obtain⟨y109,hy109⟩ : ∃ y_:List Int,y_=(([]:List Int) ++ l0_4):=⟨_,rfl⟩
   replace H:(some y109)=some r:=by first|(rw[hy109];with_reducible exact H)|(have H2_:=(Option.bind_some _ _).symm.trans H;rw[hy109];with_reducible exact H2_)|(have H2_:=(Option.bind_some _ _).symm.trans H;with_reducible exact H2_)|with_reducible exact H|(rw[hy109];exact H)|exact H
   have Ny109:=U.mk hy109
   clear hy109
   obtain rfl:=Option.some.inj H
   go_enter Try.func73,Try.ntmps73
   go_wp2_with (first|((with_reducible refine gate_dst (N:=1) rfl ?_);refine box_event ?hg (N:=1) ?hd (cs:=#[.int .i64 a0_0,.string a0_1,.string a0_2,.slice A0_3 l0_3.length c0_3,.slice A0_4 l0_4.length c0_4]) (t:=27) ?hr ?_;(case hd=>rfl);(case hg=>rfl);(case hr=>first|(go_simp;done)|(go_simp;rfl));intro gb101 hg w14 hbox hb;have BK101:=U.mk (hbox);have GW101:=U.mk ((by rw[hg];exact(zj (by solve_by_elim only[HB.out,G,J,qq])):w.heap.size≤gb101));have GE101:=U.mk ((by rw[hg];exact(zj (by solve_by_elim only[HB.out,G,J,qq])):w.heap.size≤gb101));replace HB:=U.mk (zz (by solve_by_elim only[HB.out,G,J,qq]) hb);clear hb hbox hg;have hcz15_0:w14.cell? ⟨gb101,0,none⟩ = some (.int .i64 a0_0):=(qj BK101.out 0).trans rfl;have hcz15_1:w14.cell? ⟨gb101,1,none⟩ = some (.string a0_1):=(qj BK101.out 1).trans rfl;have hcz15_2:w14.cell? ⟨gb101,2,none⟩ = some (.string a0_2):=(qj BK101.out 2).trans rfl;have hcz15_3:w14.cell? ⟨gb101,3,none⟩ = some (.slice A0_3 l0_3.length c0_3):=(qj BK101.out 3).trans rfl;have hcz15_4:w14.cell? ⟨gb101,4,none⟩ = some (.slice A0_4 l0_4.length c0_4):=(qj BK101.out 4).trans rfl;have hfz15_0:=qz BK101.out 0;have hfz15_1:=qz BK101.out 1;have hfz15_2:=qz BK101.out 2;have hfz15_3:=qz BK101.out 3;have hfz15_4:=qz BK101.out 4)|((with_reducible refine jw (f:=71) rfl ?_);refine goesL_ (some 5) rfl rfl Try.func71 (by kernel_rfl) rfl #[.agg #[.int .i64 a0_0,.string a0_1,.string a0_2,.slice A0_3 l0_3.length c0_3,.slice A0_4 l0_4.length c0_4]] rfl (by(try simp only[jq0,jq1,jq2]);first|done|rfl|(simp only[jq3,jq4];rfl)) ?_;(with_reducible refine(qxz.calls a0_0 a0_1 a0_2 _ _ l0_3 _ _ l0_4 false _ ?side1 ?side2 ?side3 ?side4 A2.out).mono ?_);(case side1=>solve_by_elim only[(Kd.C_below HR0_3.out HB.out),Kd.C_alloc,Kd.C_drewN,Kd.C_drew]);(case side2=>exact HC0_3.out);(case side3=>solve_by_elim only[(Kd.C_below HR0_4.out HB.out),Kd.C_alloc,Kd.C_drewN,Kd.C_drew]);(case side4=>exact HC0_4.out);rintro e w16 ⟨rfl,hb⟩;refine⟨_,rfl,?_⟩;replace BK101:=U.mk (vx (g:=gb101) (o:=.cells #[.int .i64 a0_0,.string a0_1,.string a0_2,.slice A0_3 l0_3.length c0_3,.slice A0_4 l0_4.length c0_4] 27 (0,0)) (by solve_by_elim only[BK101.out,qw,qx,qv]) hb);replace HB:=U.mk (zz (by solve_by_elim (maxDepth:=20) only[HB.out,G,J,qq,qk,GE101.out]) hb);(try clear hb);have hcz17_0:w16.cell? ⟨gb101,0,none⟩ = some (.int .i64 a0_0):=(qj BK101.out 0).trans rfl;have hcz17_1:w16.cell? ⟨gb101,1,none⟩ = some (.string a0_1):=(qj BK101.out 1).trans rfl;have hcz17_2:w16.cell? ⟨gb101,2,none⟩ = some (.string a0_2):=(qj BK101.out 2).trans rfl;have hcz17_3:w16.cell? ⟨gb101,3,none⟩ = some (.slice A0_3 l0_3.length c0_3):=(qj BK101.out 3).trans rfl;have hcz17_4:w16.cell? ⟨gb101,4,none⟩ = some (.slice A0_4 l0_4.length c0_4):=(qj BK101.out 4).trans rfl;have hfz17_0:=qz BK101.out 0;have hfz17_1:=qz BK101.out 1;have hfz17_2:=qz BK101.out 2;have hfz17_3:=qz BK101.out 3;have hfz17_4:=qz BK101.out 4)|((with_reducible refine gate_builtin (b:=.append) (xs:=#[.tmp 12,.tmp 14]) rfl ?_);at_builtin;refine Kd.R_append_rows (Kd.int .u8) (w0:=w) w.heap.size rfl (.tmp 12) (.tmp 14) 22 5 (.int .u8 0) 1 rfl Try.underlying22 info5 rfl (by decide) (by omega) (.slice none 0 0) ([]:List Int) l0_4 _ _ _ (fun _=>True) (fun _=>False) rfl rfl ?aO ?aR (fun _ _ h=>h) (fun _ h=>h.elim) ?aF ?aB ?aS ?aL ?_;(case aR=>repeat(first|exact(Kd.C_below HR0_4.out HB.out)|(with_reducible refine Kd.C_alloc ?_ _)|(with_reducible refine Kd.C_drewN ?_ _)|(with_reducible refine Kd.C_drew ?_)));(case aB=>exact(by solve_by_elim (maxDepth:=20) only[HB.out,G,J,qq,qk,GE101.out]));(case aF=>exact(fun _ _=>trivial));(case aO=>exact((Kd.R_nil _ _ _ _ (fun _=>True))));(case aS=>exact(zj (by solve_by_elim (maxDepth:=20) only[HB.out,G,J,qq,qk,GE101.out])));(case aL=>have:=LMc13.out;omega);intro v110 w18 ho hb hg hat;rw[← Ny109.out] at ho;replace BK101:=U.mk (blk_grown (g:=gb101) (o:=.cells #[.int .i64 a0_0,.string a0_1,.string a0_2,.slice A0_3 l0_3.length c0_3,.slice A0_4 l0_4.length c0_4] 27 (0,0)) (by solve_by_elim only[BK101.out,qw,qx,qv]) hg (by simp[Value.ownBlock]));replace HB:=U.mk (hb);have HO111:=U.mk (ho);clear ho hb hg hat))
   go_ret
   exact⟨_,by first|rfl|(simp[*,jv,jk] <;> rfl),by(with_reducible repeat(first|apply Kd.zv|apply Kd.zk|apply Kd.zw));exact HO111.out,by repeat(first|(with_reducible first|exact HB.out|apply G|apply J|apply qq|refine qk ?_ GE101.out)|exact HB.out)⟩
  ·rw[if_neg c13] at H
   exact absurd H (by simp)
def qww.f (k:Nat) (a0_0:Int) (a0_1:ByteArray) (a0_2:ByteArray) (l0_3:List Int) (l0_4:List Int):Option (List Int):=(some (([0]:List Int):List Int)).bind fun y102=>((qxv.f k (Int.tmod a0_0 4294967296)).bind fun t105=>(if y102.length + t105.length < 140737488355328 then((some (y102 ++ t105:List Int)).bind fun y108=>((qxv.f k (wrap64 (Int.tdiv a0_0 4294967296))).bind fun t111=>(if y108.length + t111.length < 140737488355328 then((some (y108 ++ t111:List Int)).bind fun y114=>((bytesOfS.f a0_1).bind fun t117=>((qxw.f k t117).bind fun t120=>(if y114.length + t120.length < 140737488355328 then((some (y114 ++ t120:List Int)).bind fun y123=>((qwk.f k a0_0 a0_1 a0_2 l0_3 l0_4).bind fun t126=>(if y123.length + t126.length < 140737488355328 then((qxw.f k (y123 ++ t126)).bind fun t132=>(some t132)) else(none)))) else(none))))) else(none)))) else(none)))
theorem qww.calls (k:Nat) (a0_0:Int) (a0_1:ByteArray) (a0_2:ByteArray) (A0_3:Option Addr) (c0_3:Nat) (l0_3:List Int) (A0_4:Option Addr) (c0_4:Nat) (l0_4:List Int) (r:List Int) (w:World) (hr0_3:Kd.C (Kd.int .u8) w A0_3 l0_3.length l0_3) (hc0_3:l0_3.length≤c0_3) (hr0_4:Kd.C (Kd.int .u8) w A0_4 l0_4.length l0_4) (hc0_4:l0_4.length≤c0_4) (h:qww.f k a0_0 a0_1 a0_2 l0_3 l0_4=some r) :
  Calls Try.prog 76 #[.agg #[.int .i64 a0_0,.string a0_1,.string a0_2,.slice A0_3 l0_3.length c0_3,.slice A0_4 l0_4.length c0_4]] w fun e w'=>∃ v0_:Value,e=.returned (v0_)∧Kd.R (Kd.int .u8) 5 w' w.heap.size (fun _=>True) v0_ r∧Below w.heap.size w w':=by
 have hu27:=Try.underlying27
 have HR0_3:=U.mk hr0_3
 have HC0_3:=U.mk hc0_3
 clear hr0_3 hc0_3
 have HR0_4:=U.mk hr0_4
 have HC0_4:=U.mk hc0_4
 clear hr0_4 hc0_4
 have HB:=U.mk (Below.refl w.heap.size w)
 unfold qww.f at h
 have H:=h
 clear h
 obtain⟨y102,hy102⟩ : ∃ y_:List Int,y_=(([0]:List Int)):=⟨_,rfl⟩
 replace H:((qxv.f k (Int.tmod a0_0 4294967296)).bind fun t105=>(if y102.length + t105.length < 140737488355328 then((some (y102 ++ t105:List Int)).bind fun y108=>((qxv.f k (wrap64 (Int.tdiv a0_0 4294967296))).bind fun t111=>(if y108.length + t111.length < 140737488355328 then((some (y108 ++ t111:List Int)).bind fun y114=>((bytesOfS.f a0_1).bind fun t117=>((qxw.f k t117).bind fun t120=>(if y114.length + t120.length < 140737488355328 then((some (y114 ++ t120:List Int)).bind fun y123=>((qwk.f k a0_0 a0_1 a0_2 l0_3 l0_4).bind fun t126=>(if y123.length + t126.length < 140737488355328 then((qxw.f k (y123 ++ t126)).bind fun t132=>(some t132)) else(none)))) else(none))))) else(none)))) else(none)))=some r:=by first|(rw[hy102];with_reducible exact H)|(have H2_:=(Option.bind_some _ _).symm.trans H;rw[hy102];with_reducible exact H2_)|(have H2_:=(Option.bind_some _ _).symm.trans H;with_reducible exact H2_)|with_reducible exact H|(rw[hy102];exact H)|exact H
 have Ny102:=U.mk hy102
 clear hy102
 replace H:=jq8.mp H
 obtain⟨t105,A20,H⟩:=H
 try dsimp only at H
 have A2:=U.mk A20
 clear A20
 by_cases c3:y102.length + t105.length < 140737488355328
 ·rw[if_pos c3] at H
  have LMc3:=U.mk c3
  clear c3
  obtain⟨y108,hy108⟩ : ∃ y_:List Int,y_=(y102 ++ t105):=⟨_,rfl⟩
  replace H:((qxv.f k (wrap64 (Int.tdiv a0_0 4294967296))).bind fun t111=>(if y108.length + t111.length < 140737488355328 then((some (y108 ++ t111:List Int)).bind fun y114=>((bytesOfS.f a0_1).bind fun t117=>((qxw.f k t117).bind fun t120=>(if y114.length + t120.length < 140737488355328 then((some (y114 ++ t120:List Int)).bind fun y123=>((qwk.f k a0_0 a0_1 a0_2 l0_3 l0_4).bind fun t126=>(if y123.length + t126.length < 140737488355328 then((qxw.f k (y123 ++ t126)).bind fun t132=>(some t132)) else(none)))) else(none))))) else(none)))=some r:=by first|(rw[hy108];with_reducible exact H)|(have H2_:=(Option.bind_some _ _).symm.trans H;rw[hy108];with_reducible exact H2_)|(have H2_:=(Option.bind_some _ _).symm.trans H;with_reducible exact H2_)|with_reducible exact H|(rw[hy108];exact H)|exact H
  have Ny108:=U.mk hy108
  clear hy108
  replace H:=jq8.mp H
  obtain⟨t111,A40,H⟩:=H
  try dsimp only at H
  have A4:=U.mk A40
  clear A40
  by_cases c5:y108.length + t111.length < 140737488355328
  ·rw[if_pos c5] at H
   have LMc5:=U.mk c5
   clear c5
   obtain⟨y114,hy114⟩ : ∃ y_:List Int,y_=(y108 ++ t111):=⟨_,rfl⟩
   replace H:((bytesOfS.f a0_1).bind fun t117=>((qxw.f k t117).bind fun t120=>(if y114.length + t120.length < 140737488355328 then((some (y114 ++ t120:List Int)).bind fun y123=>((qwk.f k a0_0 a0_1 a0_2 l0_3 l0_4).bind fun t126=>(if y123.length + t126.length < 140737488355328 then((qxw.f k (y123 ++ t126)).bind fun t132=>(some t132)) else(none)))) else(none))))=some r:=by first|(rw[hy114];with_reducible exact H)|(have H2_:=(Option.bind_some _ _).symm.trans H;rw[hy114];with_reducible exact H2_)|(have H2_:=(Option.bind_some _ _).symm.trans H;with_reducible exact H2_)|with_reducible exact H|(rw[hy114];exact H)|exact H
   have Ny114:=U.mk hy114
   clear hy114
   replace H:=jq8.mp H
   obtain⟨t117,A60,H⟩:=H
   try dsimp only at H
   have A6:=U.mk A60
   clear A60
   replace H:=jq8.mp H
   obtain⟨t120,A70,H⟩:=H
   try dsimp only at H
   have A7:=U.mk A70
   clear A70
   by_cases c8:y114.length + t120.length < 140737488355328
   ·rw[if_pos c8] at H
    have LMc8:=U.mk c8
    clear c8
    obtain⟨y123,hy123⟩ : ∃ y_:List Int,y_=(y114 ++ t120):=⟨_,rfl⟩
    replace H:((qwk.f k a0_0 a0_1 a0_2 l0_3 l0_4).bind fun t126=>(if y123.length + t126.length < 140737488355328 then((qxw.f k (y123 ++ t126)).bind fun t132=>(some t132)) else(none)))=some r:=by first|(rw[hy123];with_reducible exact H)|(have H2_:=(Option.bind_some _ _).symm.trans H;rw[hy123];with_reducible exact H2_)|(have H2_:=(Option.bind_some _ _).symm.trans H;with_reducible exact H2_)|with_reducible exact H|(rw[hy123];exact H)|exact H
    have Ny123:=U.mk hy123
    clear hy123
    replace H:=jq8.mp H
    obtain⟨t126,A90,H⟩:=H
    try dsimp only at H
    have A9:=U.mk A90
    clear A90
    by_cases c10:y123.length + t126.length < 140737488355328
    ·rw[if_pos c10] at H
     have LMc10:=U.mk c10
     clear c10
     obtain⟨y129,hy129⟩ : ∃ y_:List Int,y_=(y123 ++ t126):=⟨_,rfl⟩
     replace H:((qxw.f k y129).bind fun t132=>(some t132))=some r:=by first|(rw[hy129];with_reducible exact H)|(have H2_:=(Option.bind_some _ _).symm.trans H;rw[hy129];with_reducible exact H2_)|(have H2_:=(Option.bind_some _ _).symm.trans H;with_reducible exact H2_)|with_reducible exact H|(rw[hy129];exact H)|exact H
     have Ny129:=U.mk hy129
     clear hy129
     replace H:=jq8.mp H
     obtain⟨t132,A110,H⟩:=H
     replace H:(some t132)=some r:=H
     have A11:=U.mk A110
     clear A110
     obtain rfl:=Option.some.inj H
     go_enter Try.func76,Try.ntmps76
     go_wp2_with (first|((with_reducible refine gate_dst (N:=1) rfl ?_);refine box_event ?hg (N:=1) ?hd (cs:=#[.int .i64 a0_0,.string a0_1,.string a0_2,.slice A0_3 l0_3.length c0_3,.slice A0_4 l0_4.length c0_4]) (t:=27) ?hr ?_;(case hd=>rfl);(case hg=>rfl);(case hr=>first|(go_simp;done)|(go_simp;rfl));intro gb101 hg w12 hbox hb;have BK101:=U.mk (hbox);have GW101:=U.mk ((by rw[hg];exact(zj (by solve_by_elim only[HB.out,G,J,qq])):w.heap.size≤gb101));have GE101:=U.mk ((by rw[hg];exact(zj (by solve_by_elim only[HB.out,G,J,qq])):w.heap.size≤gb101));replace HB:=U.mk (zz (by solve_by_elim only[HB.out,G,J,qq]) hb);clear hb hbox hg)|((with_reducible refine gate_dst (N:=4) rfl ?_);refine Kd.R_lit (Kd.int .u8) _ 5 ?hg (N:=4) ?hd (xs:=([0]:List Int)) (inner:=[.int .u8 0]) (ok:=fun _=>True) (okp:=fun _=>True) ?hr ?hp (fun _ hk=>hk) trivial (Below.refl _ _) (Nat.le_refl _) (by simp) ?_;(case hd=>rfl);(case hg=>rfl);(case hr=>first|(go_simp;done)|(go_simp;rfl));(case hp=>exact(Reps.one (show Kd.M (Kd.int .u8) _ _ _ 0 [.int .u8 0] from rfl) (Reps.none _ _)));intro v103 w13 ho14 hb hg_ hnew_;clear hg_ hnew_;(first|rw[← Ny102.out] at ho14|(simp only[Int.reduceToNat] at ho14;rw[← Ny102.out] at ho14));have HO104:=U.mk (Kd.R_lower ho14 (zj (by solve_by_elim (maxDepth:=20) only[HB.out,G,J,qq,qk,GE101.out])));replace BK101:=U.mk (vx (g:=gb101) (o:=.cells #[.int .i64 a0_0,.string a0_1,.string a0_2,.slice A0_3 l0_3.length c0_3,.slice A0_4 l0_4.length c0_4] 27 (0,0)) (by solve_by_elim only[BK101.out,qw,qx,qv]) hb);replace HB:=U.mk (zz (by solve_by_elim (maxDepth:=20) only[HB.out,G,J,qq,qk,GE101.out]) hb);clear hb ho14;have hcz15_0:w13.cell? ⟨gb101,0,none⟩ = some (.int .i64 a0_0):=(qj BK101.out 0).trans rfl;have hcz15_1:w13.cell? ⟨gb101,1,none⟩ = some (.string a0_1):=(qj BK101.out 1).trans rfl;have hcz15_2:w13.cell? ⟨gb101,2,none⟩ = some (.string a0_2):=(qj BK101.out 2).trans rfl;have hcz15_3:w13.cell? ⟨gb101,3,none⟩ = some (.slice A0_3 l0_3.length c0_3):=(qj BK101.out 3).trans rfl;have hcz15_4:w13.cell? ⟨gb101,4,none⟩ = some (.slice A0_4 l0_4.length c0_4):=(qj BK101.out 4).trans rfl;have hfz15_0:=qz BK101.out 0;have hfz15_1:=qz BK101.out 1;have hfz15_2:=qz BK101.out 2;have hfz15_3:=qz BK101.out 3;have hfz15_4:=qz BK101.out 4)|((with_reducible refine jw (f:=115) rfl ?_);refine goesL_ (some 9) rfl rfl Try.func115 (by kernel_rfl) rfl #[.int .i64 (Int.tmod a0_0 4294967296)] rfl (by(try simp only[jq0,jq1,jq2]);first|done|rfl|(simp only[jq3,jq4];rfl)) ?_;(with_reducible refine(qxv.calls k (Int.tmod a0_0 4294967296) t105 _ A2.out).mono ?_);rintro e w16 ⟨v106,rfl,ho0,hb⟩;refine⟨_,rfl,?_⟩;have HO107:=U.mk (Kd.R_lower (Kd.R_new' ho0 (Kd.R_lt (by solve_by_elim only[HO104.out,Kd.zv,Kd.zk,Kd.zw]))) (zj (by solve_by_elim (maxDepth:=20) only[HB.out,G,J,qq,qk,GE101.out])));replace HO104:=U.mk (Kd.R_elder' (by solve_by_elim only[HO104.out,Kd.zv,Kd.zk,Kd.zw]) (Kd.R_base ho0) hb);replace BK101:=U.mk (vx (g:=gb101) (o:=.cells #[.int .i64 a0_0,.string a0_1,.string a0_2,.slice A0_3 l0_3.length c0_3,.slice A0_4 l0_4.length c0_4] 27 (0,0)) (by solve_by_elim only[BK101.out,qw,qx,qv]) hb);replace HB:=U.mk (zz (by solve_by_elim (maxDepth:=20) only[HB.out,G,J,qq,qk,GE101.out]) hb);(try clear hb ho0);obtain⟨Ao18,co18,eo18⟩:=Kd.R_slice HO107.out;subst eo18)|((with_reducible refine gate_builtin (b:=.append) (xs:=#[.tmp 5,.tmp 9]) rfl ?_);at_builtin;refine Kd.R_append_rows (Kd.int .u8) (w0:=w) w.heap.size rfl (.tmp 5) (.tmp 9) 22 5 (.int .u8 0) 1 rfl Try.underlying22 info5 rfl (by decide) (by omega) v103 y102 t105 _ _ _ (fun k_=>some k_≠(.slice Ao18 t105.length co18:Value).ownBlock) (fun _=>False) rfl rfl ?aO ?aR (fun _ _ h=>h) (fun _ h=>h.elim) ?aF ?aB ?aS ?aL ?_;(case aR=>repeat(first|exact(Kd.R_reads' HO107.out).2.2|(with_reducible refine Kd.C_alloc ?_ _)|(with_reducible refine Kd.C_drewN ?_ _)|(with_reducible refine Kd.C_drew ?_)));(case aB=>exact(by solve_by_elim (maxDepth:=20) only[HB.out,G,J,qq,qk,GE101.out]));(case aF=>exact(fun k_ hk=>Kd.fresh' (Kd.R_lt (by solve_by_elim only[HO107.out,Kd.zv,Kd.zk,Kd.zw])) k_ hk));(case aO=>exact(by(with_reducible repeat(first|apply Kd.zv|apply Kd.zk|apply Kd.zw));exact Kd.R_mono HO104.out (fun _ hk=>hk.2)));(case aS=>exact(zj (by solve_by_elim (maxDepth:=20) only[HB.out,G,J,qq,qk,GE101.out])));(case aL=>have:=LMc3.out;omega);intro v109 w17 ho hb hg hat;rw[← Ny108.out] at ho;replace BK101:=U.mk (blk_grown (g:=gb101) (o:=.cells #[.int .i64 a0_0,.string a0_1,.string a0_2,.slice A0_3 l0_3.length c0_3,.slice A0_4 l0_4.length c0_4] 27 (0,0)) (by solve_by_elim only[BK101.out,qw,qx,qv]) hg (Kd.R_ne HO104.out BK101.out (by decide)));replace HO107:=U.mk (Kd.R_after (ok:=(fun _=>True)) (by solve_by_elim only[HO107.out,Kd.zv,Kd.zk,Kd.zw]) hg hat);replace HB:=U.mk (hb);have HO110:=U.mk (ho);clear HO104;clear ho hb hg hat;have hcz19_0:w17.cell? ⟨gb101,0,none⟩ = some (.int .i64 a0_0):=(qj BK101.out 0).trans rfl;have hcz19_1:w17.cell? ⟨gb101,1,none⟩ = some (.string a0_1):=(qj BK101.out 1).trans rfl;have hcz19_2:w17.cell? ⟨gb101,2,none⟩ = some (.string a0_2):=(qj BK101.out 2).trans rfl;have hcz19_3:w17.cell? ⟨gb101,3,none⟩ = some (.slice A0_3 l0_3.length c0_3):=(qj BK101.out 3).trans rfl;have hcz19_4:w17.cell? ⟨gb101,4,none⟩ = some (.slice A0_4 l0_4.length c0_4):=(qj BK101.out 4).trans rfl;have hfz19_0:=qz BK101.out 0;have hfz19_1:=qz BK101.out 1;have hfz19_2:=qz BK101.out 2;have hfz19_3:=qz BK101.out 3;have hfz19_4:=qz BK101.out 4)|((with_reducible refine jw (f:=115) rfl ?_);refine goesL_ (some 15) rfl rfl Try.func115 (by kernel_rfl) rfl #[.int .i64 (wrap64 (Int.tdiv a0_0 4294967296))] rfl (by(try simp only[jq0,jq1,jq2]);first|done|rfl|(simp only[jq3,jq4];rfl)) ?_;(with_reducible refine(qxv.calls k (wrap64 (Int.tdiv a0_0 4294967296)) t111 _ A4.out).mono ?_);rintro e w20 ⟨v112,rfl,ho0,hb⟩;refine⟨_,rfl,?_⟩;have HO113:=U.mk (Kd.R_lower (Kd.R_new' (Kd.R_new' ho0 (Kd.R_lt (by solve_by_elim only[HO107.out,Kd.zv,Kd.zk,Kd.zw]))) (Kd.R_lt (by solve_by_elim only[HO110.out,Kd.zv,Kd.zk,Kd.zw]))) (zj (by solve_by_elim (maxDepth:=20) only[HB.out,G,J,qq,qk,GE101.out])));replace HO107:=U.mk (Kd.R_elder' (by solve_by_elim only[HO107.out,Kd.zv,Kd.zk,Kd.zw]) (Kd.R_base ho0) hb);replace HO110:=U.mk (Kd.R_elder' (by solve_by_elim only[HO110.out,Kd.zv,Kd.zk,Kd.zw]) (Kd.R_base ho0) hb);replace BK101:=U.mk (vx (g:=gb101) (o:=.cells #[.int .i64 a0_0,.string a0_1,.string a0_2,.slice A0_3 l0_3.length c0_3,.slice A0_4 l0_4.length c0_4] 27 (0,0)) (by solve_by_elim only[BK101.out,qw,qx,qv]) hb);replace HB:=U.mk (zz (by solve_by_elim (maxDepth:=20) only[HB.out,G,J,qq,qk,GE101.out]) hb);(try clear hb ho0);obtain⟨Ao22,co22,eo22⟩:=Kd.R_slice HO113.out;subst eo22)|((with_reducible refine gate_builtin (b:=.append) (xs:=#[.tmp 11,.tmp 15]) rfl ?_);at_builtin;refine Kd.R_append_rows (Kd.int .u8) (w0:=w) w.heap.size rfl (.tmp 11) (.tmp 15) 22 5 (.int .u8 0) 1 rfl Try.underlying22 info5 rfl (by decide) (by omega) v109 y108 t111 _ _ _ (fun k_=>some k_≠(.slice Ao18 t105.length co18:Value).ownBlock∧some k_≠(.slice Ao22 t111.length co22:Value).ownBlock) (fun _=>False) rfl rfl ?aO ?aR (fun _ _ h=>h) (fun _ h=>h.elim) ?aF ?aB ?aS ?aL ?_;(case aR=>repeat(first|exact(Kd.R_reads' HO113.out).2.2|(with_reducible refine Kd.C_alloc ?_ _)|(with_reducible refine Kd.C_drewN ?_ _)|(with_reducible refine Kd.C_drew ?_)));(case aB=>exact(by solve_by_elim (maxDepth:=20) only[HB.out,G,J,qq,qk,GE101.out]));(case aF=>exact(fun k_ hk=>⟨Kd.fresh' (Kd.R_lt (by solve_by_elim only[HO107.out,Kd.zv,Kd.zk,Kd.zw])) k_ hk,Kd.fresh' (Kd.R_lt (by solve_by_elim only[HO113.out,Kd.zv,Kd.zk,Kd.zw])) k_ hk⟩));(case aO=>exact(by solve_by_elim only[HO110.out,Kd.zv,Kd.zk,Kd.zw]));(case aS=>exact(zj (by solve_by_elim (maxDepth:=20) only[HB.out,G,J,qq,qk,GE101.out])));(case aL=>have:=LMc5.out;omega);intro v115 w21 ho hb hg hat;rw[← Ny114.out] at ho;replace BK101:=U.mk (blk_grown (g:=gb101) (o:=.cells #[.int .i64 a0_0,.string a0_1,.string a0_2,.slice A0_3 l0_3.length c0_3,.slice A0_4 l0_4.length c0_4] 27 (0,0)) (by solve_by_elim only[BK101.out,qw,qx,qv]) hg (Kd.R_ne HO110.out BK101.out (by decide)));replace HO107:=U.mk (Kd.R_after (ok:=(fun k_=>some k_≠(.slice Ao22 t111.length co22:Value).ownBlock)) (by(with_reducible repeat(first|apply Kd.zv|apply Kd.zk|apply Kd.zw));exact Kd.R_mono HO107.out (fun _ hk=>⟨hk.2,hk.1.2⟩)) hg hat);replace HO113:=U.mk (Kd.R_after (ok:=(fun k_=>some k_≠(.slice Ao18 t105.length co18:Value).ownBlock)) (by(with_reducible repeat(first|apply Kd.zv|apply Kd.zk|apply Kd.zw));exact Kd.R_mono HO113.out (fun _ hk=>⟨hk.1.2,hk.2⟩)) hg hat);replace HB:=U.mk (hb);have HO116:=U.mk (ho);clear HO110;clear ho hb hg hat;have hcz23_0:w21.cell? ⟨gb101,0,none⟩ = some (.int .i64 a0_0):=(qj BK101.out 0).trans rfl;have hcz23_1:w21.cell? ⟨gb101,1,none⟩ = some (.string a0_1):=(qj BK101.out 1).trans rfl;have hcz23_2:w21.cell? ⟨gb101,2,none⟩ = some (.string a0_2):=(qj BK101.out 2).trans rfl;have hcz23_3:w21.cell? ⟨gb101,3,none⟩ = some (.slice A0_3 l0_3.length c0_3):=(qj BK101.out 3).trans rfl;have hcz23_4:w21.cell? ⟨gb101,4,none⟩ = some (.slice A0_4 l0_4.length c0_4):=(qj BK101.out 4).trans rfl;have hfz23_0:=qz BK101.out 0;have hfz23_1:=qz BK101.out 1;have hfz23_2:=qz BK101.out 2;have hfz23_3:=qz BK101.out 3;have hfz23_4:=qz BK101.out 4)|((with_reducible refine gate_convert (src:=9) (dst:=22) rfl ?_);refine bytesGoesL_ (some 20) rfl rfl (s:=a0_1) rfl rfl ?_;(with_reducible refine(bytesOfS.calls a0_1 t117 _ A6.out).mono ?_);rintro e w24 ⟨v118,rfl,ho0,hb⟩;refine⟨_,rfl,?_⟩;have HO119:=U.mk (Kd.V_lower (Kd.V_mono (ok':=fun k_=>some k_≠(.slice Ao18 t105.length co18:Value).ownBlock∧some k_≠(.slice Ao22 t111.length co22:Value).ownBlock∧some k_≠(v115:Value).ownBlock∧k_≠gb101) ho0 (fun k_ hk_=>⟨(Kd.fresh' (Kd.R_lt (by solve_by_elim only[HO107.out,Kd.zv,Kd.zk,Kd.zw])) k_ hk_),(Kd.fresh' (Kd.R_lt (by solve_by_elim only[HO113.out,Kd.zv,Kd.zk,Kd.zw])) k_ hk_),(Kd.fresh' (Kd.R_lt (by solve_by_elim only[HO116.out,Kd.zv,Kd.zk,Kd.zw])) k_ hk_),(Kd.freshB (g:=gb101) (o:=.cells #[.int .i64 a0_0,.string a0_1,.string a0_2,.slice A0_3 l0_3.length c0_3,.slice A0_4 l0_4.length c0_4] 27 (0,0)) (by solve_by_elim only[BK101.out,qw,qx,qv]) k_ hk_)⟩)) (zj (by solve_by_elim (maxDepth:=20) only[HB.out,G,J,qq,qk,GE101.out])));replace HO107:=U.mk (Kd.R_below (by solve_by_elim only[HO107.out,Kd.zv,Kd.zk,Kd.zw]) hb);replace HO113:=U.mk (Kd.R_below (by solve_by_elim only[HO113.out,Kd.zv,Kd.zk,Kd.zw]) hb);replace HO116:=U.mk (Kd.R_below (by solve_by_elim only[HO116.out,Kd.zv,Kd.zk,Kd.zw]) hb);replace BK101:=U.mk (vx (g:=gb101) (o:=.cells #[.int .i64 a0_0,.string a0_1,.string a0_2,.slice A0_3 l0_3.length c0_3,.slice A0_4 l0_4.length c0_4] 27 (0,0)) (by solve_by_elim only[BK101.out,qw,qx,qv]) hb);replace HB:=U.mk (zz (by solve_by_elim (maxDepth:=20) only[HB.out,G,J,qq,qk,GE101.out]) hb);(try clear hb ho0);obtain⟨Ao25,co25,eo25⟩:=Kd.V_slice HO119.out;subst eo25)|((with_reducible refine jw (f:=116) rfl ?_);refine goesL_ (some 21) rfl rfl Try.func116 (by kernel_rfl) rfl #[.slice Ao25 t117.length co25] rfl (by(try simp only[jq0,jq1,jq2]);first|done|rfl|(simp only[jq3,jq4];rfl)) ?_;(with_reducible refine(qxw.calls k _ _ t117 t120 _ ?side1 ?side2 A7.out).mono ?_);(case side1=>solve_by_elim only[(Kd.V_reads' HO119.out).2.2,Kd.C_alloc,Kd.C_drewN,Kd.C_drew]);(case side2=>exact(Kd.V_reads' HO119.out).2.1);rintro e w26 ⟨v121,rfl,ho0,hb⟩;refine⟨_,rfl,?_⟩;replace HO119:=U.mk (Kd.V_elder' (by(with_reducible repeat(first|apply Kd.vv|apply Kd.vk|apply Kd.vw));exact HO119.out) (Kd.R_base ho0) hb);have HO122:=U.mk (Kd.R_lower (Kd.R_new' (Kd.R_new' (Kd.R_new' ho0 (Kd.R_lt (by solve_by_elim only[HO107.out,Kd.zv,Kd.zk,Kd.zw]))) (Kd.R_lt (by solve_by_elim only[HO113.out,Kd.zv,Kd.zk,Kd.zw]))) (Kd.R_lt (by solve_by_elim only[HO116.out,Kd.zv,Kd.zk,Kd.zw]))) (zj (by solve_by_elim (maxDepth:=20) only[HB.out,G,J,qq,qk,GE101.out])));replace HO107:=U.mk (Kd.R_elder' (by solve_by_elim only[HO107.out,Kd.zv,Kd.zk,Kd.zw]) (Kd.R_base ho0) hb);replace HO113:=U.mk (Kd.R_elder' (by solve_by_elim only[HO113.out,Kd.zv,Kd.zk,Kd.zw]) (Kd.R_base ho0) hb);replace HO116:=U.mk (Kd.R_elder' (by solve_by_elim only[HO116.out,Kd.zv,Kd.zk,Kd.zw]) (Kd.R_base ho0) hb);replace BK101:=U.mk (vx (g:=gb101) (o:=.cells #[.int .i64 a0_0,.string a0_1,.string a0_2,.slice A0_3 l0_3.length c0_3,.slice A0_4 l0_4.length c0_4] 27 (0,0)) (by solve_by_elim only[BK101.out,qw,qx,qv]) hb);replace HB:=U.mk (zz (by solve_by_elim (maxDepth:=20) only[HB.out,G,J,qq,qk,GE101.out]) hb);(try clear hb ho0);obtain⟨Ao28,co28,eo28⟩:=Kd.R_slice HO122.out;subst eo28)|((with_reducible refine gate_builtin (b:=.append) (xs:=#[.tmp 17,.tmp 21]) rfl ?_);at_builtin;refine Kd.R_append_rows (Kd.int .u8) (w0:=w) w.heap.size rfl (.tmp 17) (.tmp 21) 22 5 (.int .u8 0) 1 rfl Try.underlying22 info5 rfl (by decide) (by omega) v115 y114 t120 _ _ _ (fun k_=>some k_≠(.slice Ao18 t105.length co18:Value).ownBlock∧some k_≠(.slice Ao22 t111.length co22:Value).ownBlock∧some k_≠(.slice Ao28 t120.length co28:Value).ownBlock) (fun _=>False) rfl rfl ?aO ?aR (fun _ _ h=>h) (fun _ h=>h.elim) ?aF ?aB ?aS ?aL ?_;(case aR=>repeat(first|exact(Kd.R_reads' HO122.out).2.2|(with_reducible refine Kd.C_alloc ?_ _)|(with_reducible refine Kd.C_drewN ?_ _)|(with_reducible refine Kd.C_drew ?_)));(case aB=>exact(by solve_by_elim (maxDepth:=20) only[HB.out,G,J,qq,qk,GE101.out]));(case aF=>exact(fun k_ hk=>⟨Kd.fresh' (Kd.R_lt (by solve_by_elim only[HO107.out,Kd.zv,Kd.zk,Kd.zw])) k_ hk,Kd.fresh' (Kd.R_lt (by solve_by_elim only[HO113.out,Kd.zv,Kd.zk,Kd.zw])) k_ hk,Kd.fresh' (Kd.R_lt (by solve_by_elim only[HO122.out,Kd.zv,Kd.zk,Kd.zw])) k_ hk⟩));(case aO=>exact(by(with_reducible repeat(first|apply Kd.zv|apply Kd.zk|apply Kd.zw));exact Kd.R_mono HO116.out (fun _ hk=>⟨hk.1.1,⟨hk.1.2,hk.2⟩⟩)));(case aS=>exact(zj (by solve_by_elim (maxDepth:=20) only[HB.out,G,J,qq,qk,GE101.out])));(case aL=>have:=LMc8.out;omega);intro v124 w27 ho hb hg hat;rw[← Ny123.out] at ho;replace BK101:=U.mk (blk_grown (g:=gb101) (o:=.cells #[.int .i64 a0_0,.string a0_1,.string a0_2,.slice A0_3 l0_3.length c0_3,.slice A0_4 l0_4.length c0_4] 27 (0,0)) (by solve_by_elim only[BK101.out,qw,qx,qv]) hg (Kd.R_ne HO116.out BK101.out (by decide)));replace HO107:=U.mk (Kd.R_after (ok:=(fun k_=>some k_≠(.slice Ao22 t111.length co22:Value).ownBlock∧some k_≠(.slice Ao28 t120.length co28:Value).ownBlock)) (by(with_reducible repeat(first|apply Kd.zv|apply Kd.zk|apply Kd.zw));exact Kd.R_mono HO107.out (fun _ hk=>⟨⟨hk.1.1,hk.2⟩,hk.1.2⟩)) hg hat);replace HO113:=U.mk (Kd.R_after (ok:=(fun k_=>some k_≠(.slice Ao18 t105.length co18:Value).ownBlock∧some k_≠(.slice Ao28 t120.length co28:Value).ownBlock)) (by(with_reducible repeat(first|apply Kd.zv|apply Kd.zk|apply Kd.zw));exact Kd.R_mono HO113.out (fun _ hk=>⟨⟨hk.1.1,hk.2⟩,hk.1.2⟩)) hg hat);replace HO119:=U.mk (Kd.V_afterv (ok:=(fun k_=>some k_≠(.slice Ao18 t105.length co18:Value).ownBlock∧some k_≠(.slice Ao22 t111.length co22:Value).ownBlock∧some k_≠(.slice Ao28 t120.length co28:Value).ownBlock∧k_≠gb101)) (by(with_reducible repeat(first|apply Kd.vv|apply Kd.vk|apply Kd.vw));exact Kd.V_mono HO119.out (fun _ hk=>⟨⟨hk.1.1,⟨hk.1.2.1,⟨hk.2,hk.1.2.2.2⟩⟩⟩,hk.1.2.2.1⟩)) hg hat);replace HO122:=U.mk (Kd.R_after (ok:=(fun k_=>some k_≠(.slice Ao18 t105.length co18:Value).ownBlock∧some k_≠(.slice Ao22 t111.length co22:Value).ownBlock)) (by(with_reducible repeat(first|apply Kd.zv|apply Kd.zk|apply Kd.zw));exact Kd.R_mono HO122.out (fun _ hk=>⟨⟨hk.1.1.2,hk.1.2⟩,hk.2⟩)) hg hat);replace HB:=U.mk (hb);have HO125:=U.mk (ho);clear HO116;clear ho hb hg hat;have hcz29_0:w27.cell? ⟨gb101,0,none⟩ = some (.int .i64 a0_0):=(qj BK101.out 0).trans rfl;have hcz29_1:w27.cell? ⟨gb101,1,none⟩ = some (.string a0_1):=(qj BK101.out 1).trans rfl;have hcz29_2:w27.cell? ⟨gb101,2,none⟩ = some (.string a0_2):=(qj BK101.out 2).trans rfl;have hcz29_3:w27.cell? ⟨gb101,3,none⟩ = some (.slice A0_3 l0_3.length c0_3):=(qj BK101.out 3).trans rfl;have hcz29_4:w27.cell? ⟨gb101,4,none⟩ = some (.slice A0_4 l0_4.length c0_4):=(qj BK101.out 4).trans rfl;have hfz29_0:=qz BK101.out 0;have hfz29_1:=qz BK101.out 1;have hfz29_2:=qz BK101.out 2;have hfz29_3:=qz BK101.out 3;have hfz29_4:=qz BK101.out 4)|((with_reducible refine jw (f:=73) rfl ?_);refine goesL_ (some 25) rfl rfl Try.func73 (by kernel_rfl) rfl #[.agg #[.int .i64 a0_0,.string a0_1,.string a0_2,.slice A0_3 l0_3.length c0_3,.slice A0_4 l0_4.length c0_4]] rfl (by(try simp only[jq0,jq1,jq2]);first|done|rfl|(simp only[jq3,jq4];rfl)) ?_;(with_reducible refine(qwk.calls k a0_0 a0_1 a0_2 _ _ l0_3 _ _ l0_4 t126 _ ?side1 ?side2 ?side3 ?side4 A9.out).mono ?_);(case side1=>solve_by_elim only[(Kd.C_below HR0_3.out HB.out),Kd.C_alloc,Kd.C_drewN,Kd.C_drew]);(case side2=>exact HC0_3.out);(case side3=>solve_by_elim only[(Kd.C_below HR0_4.out HB.out),Kd.C_alloc,Kd.C_drewN,Kd.C_drew]);(case side4=>exact HC0_4.out);rintro e w30 ⟨v127,rfl,ho0,hb⟩;refine⟨_,rfl,?_⟩;replace HO119:=U.mk (Kd.V_elder' (by(with_reducible repeat(first|apply Kd.vv|apply Kd.vk|apply Kd.vw));exact HO119.out) (Kd.R_base ho0) hb);have HO128:=U.mk (Kd.R_lower (Kd.R_new' (Kd.R_new' (Kd.R_new' (Kd.R_new' ho0 (Kd.R_lt (by solve_by_elim only[HO107.out,Kd.zv,Kd.zk,Kd.zw]))) (Kd.R_lt (by solve_by_elim only[HO113.out,Kd.zv,Kd.zk,Kd.zw]))) (Kd.R_lt (by solve_by_elim only[HO122.out,Kd.zv,Kd.zk,Kd.zw]))) (Kd.R_lt (by solve_by_elim only[HO125.out,Kd.zv,Kd.zk,Kd.zw]))) (zj (by solve_by_elim (maxDepth:=20) only[HB.out,G,J,qq,qk,GE101.out])));replace HO107:=U.mk (Kd.R_elder' (by solve_by_elim only[HO107.out,Kd.zv,Kd.zk,Kd.zw]) (Kd.R_base ho0) hb);replace HO113:=U.mk (Kd.R_elder' (by solve_by_elim only[HO113.out,Kd.zv,Kd.zk,Kd.zw]) (Kd.R_base ho0) hb);replace HO122:=U.mk (Kd.R_elder' (by solve_by_elim only[HO122.out,Kd.zv,Kd.zk,Kd.zw]) (Kd.R_base ho0) hb);replace HO125:=U.mk (Kd.R_elder' (by solve_by_elim only[HO125.out,Kd.zv,Kd.zk,Kd.zw]) (Kd.R_base ho0) hb);replace BK101:=U.mk (vx (g:=gb101) (o:=.cells #[.int .i64 a0_0,.string a0_1,.string a0_2,.slice A0_3 l0_3.length c0_3,.slice A0_4 l0_4.length c0_4] 27 (0,0)) (by solve_by_elim only[BK101.out,qw,qx,qv]) hb);replace HB:=U.mk (zz (by solve_by_elim (maxDepth:=20) only[HB.out,G,J,qq,qk,GE101.out]) hb);(try clear hb ho0);obtain⟨Ao32,co32,eo32⟩:=Kd.R_slice HO128.out;subst eo32)|((with_reducible refine gate_builtin (b:=.append) (xs:=#[.tmp 23,.tmp 25]) rfl ?_);at_builtin;refine Kd.R_append_rows (Kd.int .u8) (w0:=w) w.heap.size rfl (.tmp 23) (.tmp 25) 22 5 (.int .u8 0) 1 rfl Try.underlying22 info5 rfl (by decide) (by omega) v124 y123 t126 _ _ _ (fun k_=>some k_≠(.slice Ao18 t105.length co18:Value).ownBlock∧some k_≠(.slice Ao22 t111.length co22:Value).ownBlock∧some k_≠(.slice Ao28 t120.length co28:Value).ownBlock∧some k_≠(.slice Ao32 t126.length co32:Value).ownBlock) (fun _=>False) rfl rfl ?aO ?aR (fun _ _ h=>h) (fun _ h=>h.elim) ?aF ?aB ?aS ?aL ?_;(case aR=>repeat(first|exact(Kd.R_reads' HO128.out).2.2|(with_reducible refine Kd.C_alloc ?_ _)|(with_reducible refine Kd.C_drewN ?_ _)|(with_reducible refine Kd.C_drew ?_)));(case aB=>exact(by solve_by_elim (maxDepth:=20) only[HB.out,G,J,qq,qk,GE101.out]));(case aF=>exact(fun k_ hk=>⟨Kd.fresh' (Kd.R_lt (by solve_by_elim only[HO107.out,Kd.zv,Kd.zk,Kd.zw])) k_ hk,Kd.fresh' (Kd.R_lt (by solve_by_elim only[HO113.out,Kd.zv,Kd.zk,Kd.zw])) k_ hk,Kd.fresh' (Kd.R_lt (by solve_by_elim only[HO122.out,Kd.zv,Kd.zk,Kd.zw])) k_ hk,Kd.fresh' (Kd.R_lt (by solve_by_elim only[HO128.out,Kd.zv,Kd.zk,Kd.zw])) k_ hk⟩));(case aO=>exact(by(with_reducible repeat(first|apply Kd.zv|apply Kd.zk|apply Kd.zw));exact Kd.R_mono HO125.out (fun _ hk=>⟨hk.1.1,⟨hk.1.2.1,⟨hk.1.2.2,hk.2⟩⟩⟩)));(case aS=>exact(zj (by solve_by_elim (maxDepth:=20) only[HB.out,G,J,qq,qk,GE101.out])));(case aL=>have:=LMc10.out;omega);intro v130 w31 ho hb hg hat;rw[← Ny129.out] at ho;replace BK101:=U.mk (blk_grown (g:=gb101) (o:=.cells #[.int .i64 a0_0,.string a0_1,.string a0_2,.slice A0_3 l0_3.length c0_3,.slice A0_4 l0_4.length c0_4] 27 (0,0)) (by solve_by_elim only[BK101.out,qw,qx,qv]) hg (Kd.R_ne HO125.out BK101.out (by decide)));replace HO107:=U.mk (Kd.R_after (ok:=(fun k_=>some k_≠(.slice Ao22 t111.length co22:Value).ownBlock∧some k_≠(.slice Ao28 t120.length co28:Value).ownBlock∧some k_≠(.slice Ao32 t126.length co32:Value).ownBlock)) (by(with_reducible repeat(first|apply Kd.zv|apply Kd.zk|apply Kd.zw));exact Kd.R_mono HO107.out (fun _ hk=>⟨⟨hk.1.1.1,⟨hk.1.1.2,hk.2⟩⟩,hk.1.2⟩)) hg hat);replace HO113:=U.mk (Kd.R_after (ok:=(fun k_=>some k_≠(.slice Ao18 t105.length co18:Value).ownBlock∧some k_≠(.slice Ao28 t120.length co28:Value).ownBlock∧some k_≠(.slice Ao32 t126.length co32:Value).ownBlock)) (by(with_reducible repeat(first|apply Kd.zv|apply Kd.zk|apply Kd.zw));exact Kd.R_mono HO113.out (fun _ hk=>⟨⟨hk.1.1.1,⟨hk.1.1.2,hk.2⟩⟩,hk.1.2⟩)) hg hat);replace HO119:=U.mk (Kd.V_afterv (ok:=(fun k_=>some k_≠(.slice Ao18 t105.length co18:Value).ownBlock∧some k_≠(.slice Ao22 t111.length co22:Value).ownBlock∧some k_≠(.slice Ao28 t120.length co28:Value).ownBlock∧some k_≠(.slice Ao32 t126.length co32:Value).ownBlock∧k_≠gb101)) (by(with_reducible repeat(first|apply Kd.vv|apply Kd.vk|apply Kd.vw));exact Kd.V_mono HO119.out (fun _ hk=>⟨⟨hk.1.1.1,⟨hk.1.1.2.1,⟨hk.1.1.2.2.1,⟨hk.2,hk.1.1.2.2.2⟩⟩⟩⟩,hk.1.2⟩)) hg hat);replace HO122:=U.mk (Kd.R_after (ok:=(fun k_=>some k_≠(.slice Ao18 t105.length co18:Value).ownBlock∧some k_≠(.slice Ao22 t111.length co22:Value).ownBlock∧some k_≠(.slice Ao32 t126.length co32:Value).ownBlock)) (by(with_reducible repeat(first|apply Kd.zv|apply Kd.zk|apply Kd.zw));exact Kd.R_mono HO122.out (fun _ hk=>⟨⟨hk.1.1.1,⟨hk.1.1.2,hk.2⟩⟩,hk.1.2⟩)) hg hat);replace HO128:=U.mk (Kd.R_after (ok:=(fun k_=>some k_≠(.slice Ao18 t105.length co18:Value).ownBlock∧some k_≠(.slice Ao22 t111.length co22:Value).ownBlock∧some k_≠(.slice Ao28 t120.length co28:Value).ownBlock)) (by(with_reducible repeat(first|apply Kd.zv|apply Kd.zk|apply Kd.zw));exact Kd.R_mono HO128.out (fun _ hk=>⟨⟨hk.1.1.1.2,⟨hk.1.1.2,hk.1.2⟩⟩,hk.2⟩)) hg hat);replace HB:=U.mk (hb);have HO131:=U.mk (ho);clear HO125;clear ho hb hg hat;obtain⟨Ao33,co33,eo33⟩:=Kd.R_slice HO131.out;subst eo33)|((with_reducible refine jw (f:=116) rfl ?_);refine goesL_ (some 27) rfl rfl Try.func116 (by kernel_rfl) rfl #[.slice Ao33 y129.length co33] rfl (by(try simp only[jq0,jq1,jq2]);first|done|rfl|(simp only[jq3,jq4];rfl)) ?_;(with_reducible refine(qxw.calls k _ _ y129 t132 _ ?side1 ?side2 A11.out).mono ?_);(case side1=>solve_by_elim only[(Kd.R_reads' HO131.out).2.2,Kd.C_alloc,Kd.C_drewN,Kd.C_drew]);(case side2=>exact(Kd.R_reads' HO131.out).2.1);rintro e w34 ⟨v133,rfl,ho0,hb⟩;refine⟨_,rfl,?_⟩;replace HO119:=U.mk (Kd.V_elder' (by(with_reducible repeat(first|apply Kd.vv|apply Kd.vk|apply Kd.vw));exact HO119.out) (Kd.R_base ho0) hb);have HO134:=U.mk (Kd.R_lower (Kd.R_new' (Kd.R_new' (Kd.R_new' (Kd.R_new' (Kd.R_new' ho0 (Kd.R_lt (by solve_by_elim only[HO107.out,Kd.zv,Kd.zk,Kd.zw]))) (Kd.R_lt (by solve_by_elim only[HO113.out,Kd.zv,Kd.zk,Kd.zw]))) (Kd.R_lt (by solve_by_elim only[HO122.out,Kd.zv,Kd.zk,Kd.zw]))) (Kd.R_lt (by solve_by_elim only[HO128.out,Kd.zv,Kd.zk,Kd.zw]))) (Kd.R_lt (by solve_by_elim only[HO131.out,Kd.zv,Kd.zk,Kd.zw]))) (zj (by solve_by_elim (maxDepth:=20) only[HB.out,G,J,qq,qk,GE101.out])));replace HO107:=U.mk (Kd.R_elder' (by solve_by_elim only[HO107.out,Kd.zv,Kd.zk,Kd.zw]) (Kd.R_base ho0) hb);replace HO113:=U.mk (Kd.R_elder' (by solve_by_elim only[HO113.out,Kd.zv,Kd.zk,Kd.zw]) (Kd.R_base ho0) hb);replace HO122:=U.mk (Kd.R_elder' (by solve_by_elim only[HO122.out,Kd.zv,Kd.zk,Kd.zw]) (Kd.R_base ho0) hb);replace HO128:=U.mk (Kd.R_elder' (by solve_by_elim only[HO128.out,Kd.zv,Kd.zk,Kd.zw]) (Kd.R_base ho0) hb);replace HO131:=U.mk (Kd.R_elder' (by solve_by_elim only[HO131.out,Kd.zv,Kd.zk,Kd.zw]) (Kd.R_base ho0) hb);replace BK101:=U.mk (vx (g:=gb101) (o:=.cells #[.int .i64 a0_0,.string a0_1,.string a0_2,.slice A0_3 l0_3.length c0_3,.slice A0_4 l0_4.length c0_4] 27 (0,0)) (by solve_by_elim only[BK101.out,qw,qx,qv]) hb);replace HB:=U.mk (zz (by solve_by_elim (maxDepth:=20) only[HB.out,G,J,qq,qk,GE101.out]) hb);(try clear hb ho0)))
     go_ret
     exact⟨_,by first|rfl|(simp[*,jv,jk] <;> rfl),by(with_reducible repeat(first|apply Kd.zv|apply Kd.zk|apply Kd.zw));exact Kd.R_mono HO134.out (fun _ hk=>trivial),by repeat(first|(with_reducible first|exact HB.out|apply G|apply J|apply qq|refine qk ?_ GE101.out)|exact HB.out)⟩
    ·rw[if_neg c10] at H
     exact absurd H (by simp)
   ·rw[if_neg c8] at H
    exact absurd H (by simp)
  ·rw[if_neg c5] at H
   exact absurd H (by simp)
 ·rw[if_neg c3] at H
  exact absurd H (by simp)
def qwx.l0:Nat→List (List Int)→List (S27)→Int→Int→Option ((List (List Int)) × Bool)
 | 0,_,_,_,_=>none
 | k + 1,x4,x10,x11,x12=>if x12 < x11 then(if 0≤x12 then(if x12 < (x10.length:Int) then((qkz.f k ((wk x10 x12).f0) ((wk x10 x12).f1) ((wk x10 x12).f2) ((wk x10 x12).f3) ((wk x10 x12).f4)).bind fun t103=>(if t103=true then((qww.f k ((wk x10 x12).f0) ((wk x10 x12).f1) ((wk x10 x12).f2) ((wk x10 x12).f3) ((wk x10 x12).f4)).bind fun t104=>(if x4.length < 5864062014805 then(qwx.l0 k (x4 ++ [t104]) x10 x11 (wrap64 (x12 + 1))) else(none))) else(some (([]:List (List Int)),false)))) else(none)) else(none)) else(some (x4,true))
def qwx.f (k:Nat) (l0:List (S27)):Option ((List (List Int)) × Bool):=if (l0.length:Int) > 200 then(some (([]:List (List Int)),false)) else(qwx.l0 k ([]:List (List Int)) l0 (l0.length:Int) 0)
theorem qwx.calls (k:Nat) (A0:Option Addr) (c0:Nat) (l0:List (S27)) (r1:List (List Int)) (r2:Bool) (w:World) (hr0:Kd.C k27 w A0 l0.length l0) (hc0:l0.length≤c0) (h:qwx.f k l0=some (r1,r2)) :
  Calls Try.prog 80 #[.slice A0 l0.length c0] w fun e w'=>∃ v0_:Value,e=.returned (.tuple #[v0_,.bool r2])∧Kd.S (Kd.slice 5 (Kd.int .u8)) 22 w' w.heap.size (fun _=>True) v0_ r1∧Below w.heap.size w w':=by
 have hu27:=Try.underlying27
 have HR0:=U.mk hr0
 have HC0:=U.mk hc0
 clear hr0 hc0
 have HB:=U.mk (Below.refl w.heap.size w)
 unfold qwx.f at h
 have H:=h
 clear h
 by_cases c2:(l0.length:Int) > 200
 ·rw[if_pos c2] at H
  have c2b0:decide (200 < (l0.length:Int))=true:=decide_eq_true c2
  have c2b1:decide (200 < l0.length)=true:=decide_eq_true (by omega)
  clear c2
  simp only[Option.some.injEq,Prod.mk.injEq] at H
  obtain⟨rfl,rfl⟩:=H
  go_enter Try.func80,Try.ntmps80
  go_wp2
  go_ret2
  exact⟨_,by first|rfl|(simp[*,jv,jk] <;> rfl),by first|exact Kd.S_nil _ _ _ _ _|exact Kd.N_nil _ _ _ _ _|exact Kd.V_nil _ _ _ _ _|exact Kd.Q_nil _ _ _ _ _|exact Kd.R_nil _ _ _ _ _,by repeat(first|(with_reducible first|exact HB.out|apply G|apply J|apply qq)|exact HB.out)⟩
 ·rw[if_neg c2] at H
  have c2b0:decide (200 < (l0.length:Int))=false:=decide_eq_false c2
  have c2b1:decide (200 < l0.length)=false:=decide_eq_false (by omega)
  clear c2
  have H':=U.mk H
  clear H
  go_enter Try.func80,Try.ntmps80
  go_wp2
  go_loopg [4,12] k (fun kq v4 v12 w'=>∃ (x4_1:List (List Int)) (x12_1:Int),v12=.int .i64 x12_1∧U (qwx.l0 kq x4_1 l0 (l0.length:Int) x12_1=some (r1,r2))∧U (kq≤k)∧U (Kd.S (Kd.slice 5 (Kd.int .u8)) 22 w' w.heap.size (fun _=>True) v4 x4_1)∧U (Below w.heap.size w w'))
  case atStart=>exact⟨(([]:List (List Int))),(0),(by first|rfl|(simp;done)|(simp[*];done)),H',⟨Nat.le_refl _⟩,⟨by first|exact Kd.S_nil _ _ _ _ _|exact Kd.N_nil _ _ _ _ _|exact Kd.V_nil _ _ _ _ _|exact Kd.Q_nil _ _ _ _ _|exact Kd.R_nil _ _ _ _ _⟩,⟨by repeat(first|(with_reducible first|exact HB.out|apply G|apply J|apply qq)|exact HB.out)⟩⟩
  case round =>
   clear H'
   try clear c2
   try clear c2b0
   try clear c2b1
   try clear p2
   obtain⟨x4_1,x12_1,rfl,HA,HK1,HO_4,HB⟩:=hrel
   cases gk with
   | zero=>exact absurd HA.out (by simp[qwx.l0])
   | succ k1 =>
    have H:=HA.out
    clear HA
    simp only[qwx.l0] at H
    by_cases c3:x12_1 < (l0.length:Int)
    ·rw[if_pos c3] at H
     have c3b0:decide (x12_1 < (l0.length:Int))=true:=decide_eq_true c3
     clear c3
     by_cases c4 : 0≤x12_1
     ·rw[if_pos c4] at H
      have c4b0:decide (0≤x12_1)=true:=decide_eq_true c4
      clear c4
      by_cases c5:x12_1 < (l0.length:Int)
      ·rw[if_pos c5] at H
       have c5b0:decide (x12_1 < (l0.length:Int))=true:=decide_eq_true c5
       clear c5
       replace H:=jq8.mp H
       obtain⟨t103,A60,H⟩:=H
       try dsimp only at H
       have A6:=U.mk A60
       clear A60
       by_cases c7:t103=true
       ·subst c7
        have H1:((qww.f k1 ((wk l0 x12_1).f0) ((wk l0 x12_1).f1) ((wk l0 x12_1).f2) ((wk l0 x12_1).f3) ((wk l0 x12_1).f4)).bind fun t104=>(if x4_1.length < 5864062014805 then(qwx.l0 k1 (x4_1 ++ [t104]) l0 (l0.length:Int) (wrap64 (x12_1 + 1))) else(none)))=some (r1,r2):=by rw[if_pos rfl] at H;exact H
        clear H
        have H:=H1
        clear H1
        replace H:=jq8.mp H
        obtain⟨t104,A80,H⟩:=H
        try dsimp only at H
        have A8:=U.mk A80
        clear A80
        by_cases c9:x4_1.length < 5864062014805
        ·rw[if_pos c9] at H
         have LMc9:=U.mk c9
         clear c9
         obtain⟨y107,hy107⟩ : ∃ y_:List (List Int),y_=(x4_1 ++ [t104]):=⟨_,rfl⟩
         replace H:(qwx.l0 k1 y107 l0 (l0.length:Int) (wrap64 (x12_1 + 1)))=some (r1,r2):=by first|(rw[hy107];with_reducible exact H)|(have H2_:=(Option.bind_some _ _).symm.trans H;rw[hy107];with_reducible exact H2_)|(have H2_:=(Option.bind_some _ _).symm.trans H;with_reducible exact H2_)|with_reducible exact H|(rw[hy107];exact H)|exact H
         have Ny107:=U.mk hy107
         clear hy107
         have H':=U.mk H
         clear H
         have p101 : 0≤(x12_1:Int):=of_decide_eq_true (by assumption)
         have q101:x12_1 < (l0.length:Int):=of_decide_eq_true (by assumption)
         obtain⟨ad101,A101_3,c101_3,A101_4,c101_4,e101,hx101_0,hx101_1,hx101_2,hx101_3,hx101_4,hl101_3,hi101_3,hl101_4,hi101_4⟩:=at_T27 HR0.out x12_1 p101 q101
         cases e101
         replace hx101_0:=(HB.out.cell (World.block_lt_of_cell? w _ hx101_0)).trans hx101_0
         replace hx101_1:=(HB.out.cell (World.block_lt_of_cell? w _ hx101_1)).trans hx101_1
         replace hx101_2:=(HB.out.cell (World.block_lt_of_cell? w _ hx101_2)).trans hx101_2
         replace hx101_3:=(HB.out.cell (World.block_lt_of_cell? w _ hx101_3)).trans hx101_3
         replace hx101_4:=(HB.out.cell (World.block_lt_of_cell? w _ hx101_4)).trans hx101_4
         have HR101_3:=U.mk hi101_3
         have HC101_3:=U.mk hl101_3
         clear hi101_3 hl101_3
         have HR101_4:=U.mk hi101_4
         have HC101_4:=U.mk hl101_4
         clear hi101_4 hl101_4
         replace p101:=eq_true p101
         replace q101:=eq_true q101
         go_wp2_with (first|((with_reducible refine gate_dst (N:=6) rfl ?_);refine box_event ?hg (N:=6) ?hd (cs:=#[.int .i64 0,.string (⟨#[]⟩ : ByteArray),.string (⟨#[]⟩ : ByteArray),.slice none 0 0,.slice none 0 0]) (t:=27) ?hr ?_;(case hd=>rfl);(case hg=>rfl);(case hr=>first|(go_simp;done)|(go_simp;rfl));intro gb102 hg w10 hbox hb;replace HO_4:=U.mk (Kd.S_below (by(with_reducible repeat(first|apply Kd.vq|apply Kd.kx|apply Kd.vz));exact HO_4.out) hb);have BK102:=U.mk (hbox);have GW102:=U.mk ((by rw[hg];exact(zj (by repeat(first|(with_reducible first|exact HB.out|apply G|apply J|apply qq)|exact HB.out))):w.heap.size≤gb102));have GE102:=U.mk ((by rw[hg];exact(zj (by repeat(first|(with_reducible first|exact HB.out|apply G|apply J|apply qq)|exact HB.out))):w.heap.size≤gb102));replace HB:=U.mk (zz (by repeat(first|(with_reducible first|exact HB.out|apply G|apply J|apply qq)|exact HB.out)) hb);clear hb hbox hg;have hcz11_0:w10.cell? ⟨gb102,0,none⟩ = some (.int .i64 0):=(qj BK102.out 0).trans rfl;have hcz11_1:w10.cell? ⟨gb102,1,none⟩ = some (.string (⟨#[]⟩ : ByteArray)):=(qj BK102.out 1).trans rfl;have hcz11_2:w10.cell? ⟨gb102,2,none⟩ = some (.string (⟨#[]⟩ : ByteArray)):=(qj BK102.out 2).trans rfl;have hcz11_3:w10.cell? ⟨gb102,3,none⟩ = some (.slice none 0 0):=(qj BK102.out 3).trans rfl;have hcz11_4:w10.cell? ⟨gb102,4,none⟩ = some (.slice none 0 0):=(qj BK102.out 4).trans rfl;have hfz11_0:=qz BK102.out 0;have hfz11_1:=qz BK102.out 1;have hfz11_2:=qz BK102.out 2;have hfz11_3:=qz BK102.out 3;have hfz11_4:=qz BK102.out 4)|((with_reducible refine jw (f:=18) rfl ?_);refine goesL_ (some 17) rfl rfl Try.func18 (by kernel_rfl) rfl #[.agg #[.int .i64 ((wk l0 x12_1).f0),.string ((wk l0 x12_1).f1),.string ((wk l0 x12_1).f2),.slice A101_3 ((wk l0 x12_1).f3).length c101_3,.slice A101_4 ((wk l0 x12_1).f4).length c101_4]] rfl (by(try simp only[jq0,jq1,jq2]);first|done|rfl|(simp only[jq3,jq4];rfl)) ?_;(with_reducible refine(qkz.calls k1 ((wk l0 x12_1).f0) ((wk l0 x12_1).f1) ((wk l0 x12_1).f2) _ _ ((wk l0 x12_1).f3) _ _ ((wk l0 x12_1).f4) true _ ?side1 ?side2 ?side3 ?side4 A6.out).mono ?_);(case side1=>exact Kd.C_below HR101_3.out (by repeat(first|(with_reducible first|exact HB.out|apply G|apply J|apply qq|refine qk ?_ GE102.out)|exact HB.out)));(case side2=>exact HC101_3.out);(case side3=>exact Kd.C_below HR101_4.out (by repeat(first|(with_reducible first|exact HB.out|apply G|apply J|apply qq|refine qk ?_ GE102.out)|exact HB.out)));(case side4=>exact HC101_4.out);rintro e w12 ⟨rfl,hb⟩;refine⟨_,rfl,?_⟩;replace HO_4:=U.mk (Kd.S_below (by(with_reducible repeat(first|apply Kd.vq|apply Kd.kx|apply Kd.vz));exact(Kd.S_mono (Kd.S_far (p:=⟨gb102,4,none⟩) (Kd.S_far (p:=⟨gb102,3,none⟩) (Kd.S_far (p:=⟨gb102,2,none⟩) (Kd.S_far (p:=⟨gb102,1,none⟩) (Kd.S_far (p:=⟨gb102,0,none⟩) (Kd.S_types HO_4.out BK102.out (by decide)) (fun _ hk=>hk.2) (.int .i64 ((wk l0 x12_1).f0))) (fun _ hk=>hk.2) (.string ((wk l0 x12_1).f1))) (fun _ hk=>hk.2) (.string ((wk l0 x12_1).f2))) (fun _ hk=>hk.2) (.slice A101_3 ((wk l0 x12_1).f3).length c101_3)) (fun _ hk=>hk.2) (.slice A101_4 ((wk l0 x12_1).f4).length c101_4)) (fun _ h_=>h_.1))) hb);replace BK102:=U.mk (vx (g:=gb102) (o:=.cells #[.int .i64 ((wk l0 x12_1).f0),.string ((wk l0 x12_1).f1),.string ((wk l0 x12_1).f2),.slice A101_3 ((wk l0 x12_1).f3).length c101_3,.slice A101_4 ((wk l0 x12_1).f4).length c101_4] 27 (0,0)) (by(with_reducible repeat(first|refine qw ?_ _|refine qx ?_|refine qv ?_ _));refine blk_put (cs:=#[.int .i64 ((wk l0 x12_1).f0),.string ((wk l0 x12_1).f1),.string ((wk l0 x12_1).f2),.slice A101_3 ((wk l0 x12_1).f3).length c101_3,.slice none 0 0]) ?_ 4 _ rfl;(with_reducible repeat(first|refine qw ?_ _|refine qx ?_|refine qv ?_ _));refine blk_put (cs:=#[.int .i64 ((wk l0 x12_1).f0),.string ((wk l0 x12_1).f1),.string ((wk l0 x12_1).f2),.slice none 0 0,.slice none 0 0]) ?_ 3 _ rfl;(with_reducible repeat(first|refine qw ?_ _|refine qx ?_|refine qv ?_ _));refine blk_put (cs:=#[.int .i64 ((wk l0 x12_1).f0),.string ((wk l0 x12_1).f1),.string (⟨#[]⟩ : ByteArray),.slice none 0 0,.slice none 0 0]) ?_ 2 _ rfl;(with_reducible repeat(first|refine qw ?_ _|refine qx ?_|refine qv ?_ _));refine blk_put (cs:=#[.int .i64 ((wk l0 x12_1).f0),.string (⟨#[]⟩ : ByteArray),.string (⟨#[]⟩ : ByteArray),.slice none 0 0,.slice none 0 0]) ?_ 1 _ rfl;(with_reducible repeat(first|refine qw ?_ _|refine qx ?_|refine qv ?_ _));refine blk_put (cs:=#[.int .i64 0,.string (⟨#[]⟩ : ByteArray),.string (⟨#[]⟩ : ByteArray),.slice none 0 0,.slice none 0 0]) ?_ 0 _ rfl;(with_reducible repeat(first|refine qw ?_ _|refine qx ?_|refine qv ?_ _));exact BK102.out) hb);replace HB:=U.mk (zz (by repeat(first|(with_reducible first|exact HB.out|apply G|apply J|apply qq|refine qk ?_ GE102.out)|exact HB.out)) hb);(try clear hb);have hcz13_0:w12.cell? ⟨gb102,0,none⟩ = some (.int .i64 ((wk l0 x12_1).f0)):=(qj BK102.out 0).trans rfl;have hcz13_1:w12.cell? ⟨gb102,1,none⟩ = some (.string ((wk l0 x12_1).f1)):=(qj BK102.out 1).trans rfl;have hcz13_2:w12.cell? ⟨gb102,2,none⟩ = some (.string ((wk l0 x12_1).f2)):=(qj BK102.out 2).trans rfl;have hcz13_3:w12.cell? ⟨gb102,3,none⟩ = some (.slice A101_3 ((wk l0 x12_1).f3).length c101_3):=(qj BK102.out 3).trans rfl;have hcz13_4:w12.cell? ⟨gb102,4,none⟩ = some (.slice A101_4 ((wk l0 x12_1).f4).length c101_4):=(qj BK102.out 4).trans rfl;have hfz13_0:=qz BK102.out 0;have hfz13_1:=qz BK102.out 1;have hfz13_2:=qz BK102.out 2;have hfz13_3:=qz BK102.out 3;have hfz13_4:=qz BK102.out 4)|((with_reducible refine jw (f:=76) rfl ?_);refine goesL_ (some 21) rfl rfl Try.func76 (by kernel_rfl) rfl #[.agg #[.int .i64 ((wk l0 x12_1).f0),.string ((wk l0 x12_1).f1),.string ((wk l0 x12_1).f2),.slice A101_3 ((wk l0 x12_1).f3).length c101_3,.slice A101_4 ((wk l0 x12_1).f4).length c101_4]] rfl (by(try simp only[jq0,jq1,jq2]);first|done|rfl|(simp only[jq3,jq4];rfl)) ?_;(with_reducible refine(qww.calls k1 ((wk l0 x12_1).f0) ((wk l0 x12_1).f1) ((wk l0 x12_1).f2) _ _ ((wk l0 x12_1).f3) _ _ ((wk l0 x12_1).f4) t104 _ ?side1 ?side2 ?side3 ?side4 A8.out).mono ?_);(case side1=>repeat(first|exact(Kd.C_below HR101_3.out HB.out)|(with_reducible refine Kd.C_alloc ?_ _)|(with_reducible refine Kd.C_drewN ?_ _)|(with_reducible refine Kd.C_drew ?_)));(case side2=>exact HC101_3.out);(case side3=>repeat(first|exact(Kd.C_below HR101_4.out HB.out)|(with_reducible refine Kd.C_alloc ?_ _)|(with_reducible refine Kd.C_drewN ?_ _)|(with_reducible refine Kd.C_drew ?_)));(case side4=>exact HC101_4.out);rintro e w14 ⟨v105,rfl,ho0,hb⟩;refine⟨_,rfl,?_⟩;replace HO_4:=U.mk (Kd.S_elder' (by(with_reducible repeat(first|apply Kd.vq|apply Kd.kx|apply Kd.vz));exact HO_4.out) (Kd.R_base ho0) hb);have HO106:=U.mk (Kd.R_lower ho0 (zj (by repeat(first|(with_reducible first|exact HB.out|apply G|apply J|apply qq|refine qk ?_ GE102.out)|exact HB.out))));replace BK102:=U.mk (vx (g:=gb102) (o:=.cells #[.int .i64 ((wk l0 x12_1).f0),.string ((wk l0 x12_1).f1),.string ((wk l0 x12_1).f2),.slice A101_3 ((wk l0 x12_1).f3).length c101_3,.slice A101_4 ((wk l0 x12_1).f4).length c101_4] 27 (0,0)) (by(with_reducible repeat(first|refine qw ?_ _|refine qx ?_|refine qv ?_ _));exact BK102.out) hb);replace HB:=U.mk (zz (by repeat(first|(with_reducible first|exact HB.out|apply G|apply J|apply qq|refine qk ?_ GE102.out)|exact HB.out)) hb);(try clear hb ho0);obtain⟨Ao16,co16,eo16⟩:=Kd.R_slice HO106.out;subst eo16)|((with_reducible refine gate_builtin (b:=.append) (xs:=#[.tmp 19,.tmp 22]) rfl ?_);at_builtin;refine Kd.S_append (Kd.slice 5 (Kd.int .u8)) (w0:=w) w.heap.size rfl (.tmp 19) (.tmp 22) 44 22 (.slice none 0 0) 24 rfl Try.underlying44 info22 rfl (by decide) (by omega) u4 x4_1 t104 [.slice Ao16 t104.length co16] (fun _=>True) (fun k_=>some k_=(.slice Ao16 t104.length co16:Value).ownBlock) rfl rfl ?aP (fun k_ hk_=>((Kd.R_mono (ok':=fun k_=>((fun _=>True)) k_∧some k_≠(u4:Value).ownBlock) (Kd.R_apart' (HO106.out) (Kd.S_typed HO_4.out) (by decide)) (fun k_ hk=>⟨trivial,hk.2⟩))).1 k_ hk_.symm) ?aF ?aO ?aB ?aS ?aL ?_;(case aP=>exact Kd.M_row (Kd.R_mono (Kd.R_tight rfl (Kd.R_mono (ok':=fun k_=>((fun _=>True)) k_∧some k_≠(u4:Value).ownBlock) (Kd.R_apart' (HO106.out) (Kd.S_typed HO_4.out) (by decide)) (fun k_ hk=>⟨trivial,hk.2⟩))) (fun _ h_=>h_)));(case aB=>exact(by repeat(first|(with_reducible first|exact HB.out|apply G|apply J|apply qq|refine qk ?_ GE102.out)|exact HB.out)));(case aF=>exact(fun _ _=>trivial));(case aO=>exact(by(with_reducible repeat(first|apply Kd.vq|apply Kd.kx|apply Kd.vz));exact Kd.S_mono HO_4.out (fun k_ hk=>⟨trivial,fun e_=>hk.2 e_⟩)));(case aS=>exact(zj (by repeat(first|(with_reducible first|exact HB.out|apply G|apply J|apply qq|refine qk ?_ GE102.out)|exact HB.out))));(case aL=>have:=LMc9.out;omega);intro v108 w15 ho hb hg hat;rw[← Ny107.out] at ho;replace BK102:=U.mk (blk_grown (g:=gb102) (o:=.cells #[.int .i64 ((wk l0 x12_1).f0),.string ((wk l0 x12_1).f1),.string ((wk l0 x12_1).f2),.slice A101_3 ((wk l0 x12_1).f3).length c101_3,.slice A101_4 ((wk l0 x12_1).f4).length c101_4] 27 (0,0)) (by(with_reducible repeat(first|refine qw ?_ _|refine qx ?_|refine qv ?_ _));exact BK102.out) hg (Kd.S_ne HO_4.out BK102.out (by decide)));replace HB:=U.mk (hb);have HO109:=U.mk (ho);clear HO_4;clear HO106;clear ho hb hg hat))
         go_roundg k1
         case measure=>have:=HK1.out;omega
         case rel=>exact⟨(y107),(wrap64 (x12_1 + 1)),(by first|rfl|(simp;done)|(simp[*];done)),H',⟨by have:=HK1.out;omega⟩,⟨by(with_reducible repeat(first|apply Kd.vq|apply Kd.kx|apply Kd.vz));exact HO109.out⟩,⟨by repeat(first|(with_reducible first|exact HB.out|apply G|apply J|apply qq|refine qk ?_ GE102.out)|exact HB.out)⟩⟩
        ·rw[if_neg c9] at H
         exact absurd H (by simp)
       ·replace c7:=jq9.mpr c7
        subst c7
        have H1:(some (([]:List (List Int)),false))=some (r1,r2):=by rw[if_neg (show ¬ (false=true) by decide)] at H;exact H
        clear H
        have H:=H1
        clear H1
        simp only[Option.some.injEq,Prod.mk.injEq] at H
        obtain⟨rfl,rfl⟩:=H
        have p101 : 0≤(x12_1:Int):=of_decide_eq_true (by assumption)
        have q101:x12_1 < (l0.length:Int):=of_decide_eq_true (by assumption)
        obtain⟨ad101,A101_3,c101_3,A101_4,c101_4,e101,hx101_0,hx101_1,hx101_2,hx101_3,hx101_4,hl101_3,hi101_3,hl101_4,hi101_4⟩:=at_T27 HR0.out x12_1 p101 q101
        cases e101
        replace hx101_0:=(HB.out.cell (World.block_lt_of_cell? w _ hx101_0)).trans hx101_0
        replace hx101_1:=(HB.out.cell (World.block_lt_of_cell? w _ hx101_1)).trans hx101_1
        replace hx101_2:=(HB.out.cell (World.block_lt_of_cell? w _ hx101_2)).trans hx101_2
        replace hx101_3:=(HB.out.cell (World.block_lt_of_cell? w _ hx101_3)).trans hx101_3
        replace hx101_4:=(HB.out.cell (World.block_lt_of_cell? w _ hx101_4)).trans hx101_4
        have HR101_3:=U.mk hi101_3
        have HC101_3:=U.mk hl101_3
        clear hi101_3 hl101_3
        have HR101_4:=U.mk hi101_4
        have HC101_4:=U.mk hl101_4
        clear hi101_4 hl101_4
        replace p101:=eq_true p101
        replace q101:=eq_true q101
        go_wp2_with (first|((with_reducible refine gate_dst (N:=6) rfl ?_);refine box_event ?hg (N:=6) ?hd (cs:=#[.int .i64 0,.string (⟨#[]⟩ : ByteArray),.string (⟨#[]⟩ : ByteArray),.slice none 0 0,.slice none 0 0]) (t:=27) ?hr ?_;(case hd=>rfl);(case hg=>rfl);(case hr=>first|(go_simp;done)|(go_simp;rfl));intro gb102 hg w17 hbox hb;replace HO_4:=U.mk (Kd.S_below (by(with_reducible repeat(first|apply Kd.vq|apply Kd.kx|apply Kd.vz));exact HO_4.out) hb);have BK102:=U.mk (hbox);have GW102:=U.mk ((by rw[hg];exact(zj (by repeat(first|(with_reducible first|exact HB.out|apply G|apply J|apply qq)|exact HB.out))):w.heap.size≤gb102));have GE102:=U.mk ((by rw[hg];exact(zj (by repeat(first|(with_reducible first|exact HB.out|apply G|apply J|apply qq)|exact HB.out))):w.heap.size≤gb102));replace HB:=U.mk (zz (by repeat(first|(with_reducible first|exact HB.out|apply G|apply J|apply qq)|exact HB.out)) hb);clear hb hbox hg;have hcz18_0:w17.cell? ⟨gb102,0,none⟩ = some (.int .i64 0):=(qj BK102.out 0).trans rfl;have hcz18_1:w17.cell? ⟨gb102,1,none⟩ = some (.string (⟨#[]⟩ : ByteArray)):=(qj BK102.out 1).trans rfl;have hcz18_2:w17.cell? ⟨gb102,2,none⟩ = some (.string (⟨#[]⟩ : ByteArray)):=(qj BK102.out 2).trans rfl;have hcz18_3:w17.cell? ⟨gb102,3,none⟩ = some (.slice none 0 0):=(qj BK102.out 3).trans rfl;have hcz18_4:w17.cell? ⟨gb102,4,none⟩ = some (.slice none 0 0):=(qj BK102.out 4).trans rfl;have hfz18_0:=qz BK102.out 0;have hfz18_1:=qz BK102.out 1;have hfz18_2:=qz BK102.out 2;have hfz18_3:=qz BK102.out 3;have hfz18_4:=qz BK102.out 4)|((with_reducible refine jw (f:=18) rfl ?_);refine goesL_ (some 17) rfl rfl Try.func18 (by kernel_rfl) rfl #[.agg #[.int .i64 ((wk l0 x12_1).f0),.string ((wk l0 x12_1).f1),.string ((wk l0 x12_1).f2),.slice A101_3 ((wk l0 x12_1).f3).length c101_3,.slice A101_4 ((wk l0 x12_1).f4).length c101_4]] rfl (by(try simp only[jq0,jq1,jq2]);first|done|rfl|(simp only[jq3,jq4];rfl)) ?_;(with_reducible refine(qkz.calls k1 ((wk l0 x12_1).f0) ((wk l0 x12_1).f1) ((wk l0 x12_1).f2) _ _ ((wk l0 x12_1).f3) _ _ ((wk l0 x12_1).f4) false _ ?side1 ?side2 ?side3 ?side4 A6.out).mono ?_);(case side1=>exact Kd.C_below HR101_3.out (by repeat(first|(with_reducible first|exact HB.out|apply G|apply J|apply qq|refine qk ?_ GE102.out)|exact HB.out)));(case side2=>exact HC101_3.out);(case side3=>exact Kd.C_below HR101_4.out (by repeat(first|(with_reducible first|exact HB.out|apply G|apply J|apply qq|refine qk ?_ GE102.out)|exact HB.out)));(case side4=>exact HC101_4.out);rintro e w19 ⟨rfl,hb⟩;refine⟨_,rfl,?_⟩;replace HO_4:=U.mk (Kd.S_below (by(with_reducible repeat(first|apply Kd.vq|apply Kd.kx|apply Kd.vz));exact(Kd.S_mono (Kd.S_far (p:=⟨gb102,4,none⟩) (Kd.S_far (p:=⟨gb102,3,none⟩) (Kd.S_far (p:=⟨gb102,2,none⟩) (Kd.S_far (p:=⟨gb102,1,none⟩) (Kd.S_far (p:=⟨gb102,0,none⟩) (Kd.S_types HO_4.out BK102.out (by decide)) (fun _ hk=>hk.2) (.int .i64 ((wk l0 x12_1).f0))) (fun _ hk=>hk.2) (.string ((wk l0 x12_1).f1))) (fun _ hk=>hk.2) (.string ((wk l0 x12_1).f2))) (fun _ hk=>hk.2) (.slice A101_3 ((wk l0 x12_1).f3).length c101_3)) (fun _ hk=>hk.2) (.slice A101_4 ((wk l0 x12_1).f4).length c101_4)) (fun _ h_=>h_.1))) hb);replace BK102:=U.mk (vx (g:=gb102) (o:=.cells #[.int .i64 ((wk l0 x12_1).f0),.string ((wk l0 x12_1).f1),.string ((wk l0 x12_1).f2),.slice A101_3 ((wk l0 x12_1).f3).length c101_3,.slice A101_4 ((wk l0 x12_1).f4).length c101_4] 27 (0,0)) (by(with_reducible repeat(first|refine qw ?_ _|refine qx ?_|refine qv ?_ _));refine blk_put (cs:=#[.int .i64 ((wk l0 x12_1).f0),.string ((wk l0 x12_1).f1),.string ((wk l0 x12_1).f2),.slice A101_3 ((wk l0 x12_1).f3).length c101_3,.slice none 0 0]) ?_ 4 _ rfl;(with_reducible repeat(first|refine qw ?_ _|refine qx ?_|refine qv ?_ _));refine blk_put (cs:=#[.int .i64 ((wk l0 x12_1).f0),.string ((wk l0 x12_1).f1),.string ((wk l0 x12_1).f2),.slice none 0 0,.slice none 0 0]) ?_ 3 _ rfl;(with_reducible repeat(first|refine qw ?_ _|refine qx ?_|refine qv ?_ _));refine blk_put (cs:=#[.int .i64 ((wk l0 x12_1).f0),.string ((wk l0 x12_1).f1),.string (⟨#[]⟩ : ByteArray),.slice none 0 0,.slice none 0 0]) ?_ 2 _ rfl;(with_reducible repeat(first|refine qw ?_ _|refine qx ?_|refine qv ?_ _));refine blk_put (cs:=#[.int .i64 ((wk l0 x12_1).f0),.string (⟨#[]⟩ : ByteArray),.string (⟨#[]⟩ : ByteArray),.slice none 0 0,.slice none 0 0]) ?_ 1 _ rfl;(with_reducible repeat(first|refine qw ?_ _|refine qx ?_|refine qv ?_ _));refine blk_put (cs:=#[.int .i64 0,.string (⟨#[]⟩ : ByteArray),.string (⟨#[]⟩ : ByteArray),.slice none 0 0,.slice none 0 0]) ?_ 0 _ rfl;(with_reducible repeat(first|refine qw ?_ _|refine qx ?_|refine qv ?_ _));exact BK102.out) hb);replace HB:=U.mk (zz (by repeat(first|(with_reducible first|exact HB.out|apply G|apply J|apply qq|refine qk ?_ GE102.out)|exact HB.out)) hb);(try clear hb)))
        go_ret2
        exact⟨_,by first|rfl|(simp[*,jv,jk] <;> rfl),by first|exact Kd.S_nil _ _ _ _ _|exact Kd.N_nil _ _ _ _ _|exact Kd.V_nil _ _ _ _ _|exact Kd.Q_nil _ _ _ _ _|exact Kd.R_nil _ _ _ _ _,by repeat(first|(with_reducible first|exact HB.out|apply G|apply J|apply qq|refine qk ?_ GE102.out)|exact HB.out)⟩
      ·rw[if_neg c5] at H
       exact absurd H (by simp)
     ·rw[if_neg c4] at H
      exact absurd H (by simp)
    ·rw[if_neg c3] at H
     have c3b0:decide (x12_1 < (l0.length:Int))=false:=decide_eq_false c3
     clear c3
     simp only[Option.some.injEq,Prod.mk.injEq] at H
     obtain⟨rfl,rfl⟩:=H
     go_wp2
     go_ret2
     exact⟨_,by first|rfl|(simp[*,jv,jk] <;> rfl),by(with_reducible repeat(first|apply Kd.vq|apply Kd.kx|apply Kd.vz));exact HO_4.out,by repeat(first|(with_reducible first|exact HB.out|apply G|apply J|apply qq)|exact HB.out)⟩
def qkv.j0:Nat→Int→List (List Int)→Bool→Option (Int × List Int × Int × Int)
 | 0,_,_,_=>none
 | k + 1,x0,x5,x19=>if x19=true then(some (0,([]:List Int),0,0)) else((qxj.f k x5).bind fun t107=>((qxk.f k (x5.length:Int) t107 0 0).bind fun t111=>((zqx.f k x0 t111).bind fun bt114=>(some ((x5.length:Int),t107,bt114.1,bt114.2)))))
def qkv.f (k:Nat) (a0:Int) (l1:List (S27)):Option (Int × List Int × Int × Int):=(qwx.f k l1).bind fun bt102=>(if bt102.2=true then((zqw.f a0).bind fun t106=>(qkv.j0 k a0 bt102.1 (!t106))) else(qkv.j0 k a0 bt102.1 true))
theorem qkv.calls (k:Nat) (a0:Int) (A1:Option Addr) (c1:Nat) (l1:List (S27)) (r1:Int) (r2:List Int) (r3:Int) (r4:Int) (w:World) (hr1:Kd.C k27 w A1 l1.length l1) (hc1:l1.length≤c1) (h:qkv.f k a0 l1=some (r1,r2,r3,r4)) :
  Calls Try.prog 58 #[.int .i64 a0,.slice A1 l1.length c1] w fun e w'=>∃ v1_:Value,e=.returned (.agg #[.int .i64 r1,v1_,.int .i64 r3,.int .i64 r4])∧Kd.R (Kd.int .u8) 5 w' w.heap.size (fun _=>True) v1_ r2∧Below w.heap.size w w':=by
 have hu61:=Try.underlying61
 have hu59:=Try.underlying59
 have HR1:=U.mk hr1
 have HC1:=U.mk hc1
 clear hr1 hc1
 have HB:=U.mk (Below.refl w.heap.size w)
 unfold qkv.f at h
 have H:=h
 clear h
 replace H:=jq8.mp H
 obtain⟨⟨t102,t103⟩,A30,H⟩:=H
 try dsimp only at H
 have A3:=U.mk A30
 clear A30
 have HC4:=U.mk H
 clear H
 go_enter Try.func58,Try.ntmps58
 go_upto_region 2 with (first|((with_reducible refine gate_dst (N:=4) rfl ?_);refine box_event ?hg (N:=4) ?hd (cs:=#[.int .i64 0,.slice none 0 0,.int .i64 0,.int .i64 0]) (t:=61) ?hr ?_;(case hd=>rfl);(case hg=>rfl);(case hr=>first|(go_simp;done)|(go_simp;rfl));intro gb101 hg w5 hbox hb;have BK101:=U.mk (hbox);have GW101:=U.mk ((by rw[hg];exact(zj (by solve_by_elim only[HB.out,G,J,qq])):w.heap.size≤gb101));have GE101:=U.mk ((by rw[hg];exact(zj (by solve_by_elim only[HB.out,G,J,qq])):w.heap.size≤gb101));replace HB:=U.mk (zz (by solve_by_elim only[HB.out,G,J,qq]) hb);clear hb hbox hg)|((with_reducible refine jw (f:=80) rfl ?_);refine goesL_ (some 10) rfl rfl Try.func80 (by kernel_rfl) rfl #[.slice A1 l1.length c1] rfl (by(try simp only[jq0,jq1,jq2]);first|done|rfl|(simp only[jq3,jq4];rfl)) ?_;(with_reducible refine(qwx.calls k _ _ l1 t102 t103 _ ?side1 ?side2 A3.out).mono ?_);(case side1=>solve_by_elim only[(Kd.C_below HR1.out HB.out),Kd.C_alloc,Kd.C_drewN,Kd.C_drew]);(case side2=>exact HC1.out);rintro e w6 ⟨v104,rfl,ho0,hb⟩;refine⟨_,rfl,?_⟩;have HO105:=U.mk (Kd.S_lower ho0 (zj (by solve_by_elim (maxDepth:=20) only[HB.out,G,J,qq,qk,GE101.out])));replace BK101:=U.mk (vx (g:=gb101) (o:=.cells #[.int .i64 0,.slice none 0 0,.int .i64 0,.int .i64 0] 61 (0,0)) (by solve_by_elim only[BK101.out,qw,qx,qv]) hb);replace HB:=U.mk (zz (by solve_by_elim (maxDepth:=20) only[HB.out,G,J,qq,qk,GE101.out]) hb);(try clear hb ho0)))
 (try simp only[Act.put,jq5,jq6,jq7])
 go_cut [19] (fun v19 wc=>∃ (kq:Nat) (x19_3:Bool),v19=.bool x19_3∧U (qkv.j0 kq a0 t102 x19_3=some (r1,r2,r3,r4))∧U (kq≤k)∧U (Kd.S (Kd.slice 5 (Kd.int .u8)) 22 wc w.heap.size (fun _=>True) v104 t102)∧U (wc.heap[gb101]? = some (.cells #[.int .i64 0,(.slice none 0 0),.int .i64 0,.int .i64 0] 61 (0,0)))∧U (Below w.heap.size w wc))
 case first =>
  have H:=HC4.out
  clear HC4
  by_cases c7:t103=true
  ·subst c7
   have H1:((zqw.f a0).bind fun t106=>(qkv.j0 k a0 t102 (!t106)))=some (r1,r2,r3,r4):=by rw[if_pos rfl] at H;exact H
   clear H
   have H:=H1
   clear H1
   replace H:=jq8.mp H
   obtain⟨t106,A80,H⟩:=H
   try dsimp only at H
   have A8:=U.mk A80
   clear A80
   have H':=U.mk H
   clear H
   go_wp2_with (first|(go_at_call 103;(with_reducible refine(zqw.calls a0 t106 _ A8.out).mono ?_);rintro e w' ⟨rfl,⟨nd,rfl⟩⟩))
   go_meet
   case rel=>exact⟨_,(!t106),(by first|rfl|(simp;done)|(simp[*];done)),H',⟨by first|omega|exact Nat.le_refl _⟩,⟨by(with_reducible repeat(first|apply Kd.vq|apply Kd.kx|apply Kd.vz));exact HO105.out⟩,⟨by(with_reducible repeat(first|refine qw ?_ _|refine qx ?_|refine qv ?_ _));exact BK101.out⟩,⟨by repeat(first|(with_reducible first|exact HB.out|apply G|apply J|apply qq|refine qk ?_ GE101.out)|exact HB.out)⟩⟩
  ·replace c7:=jq9.mpr c7
   subst c7
   have H1:(qkv.j0 k a0 t102 true)=some (r1,r2,r3,r4):=by rw[if_neg (show ¬ (false=true) by decide)] at H;exact H
   clear H
   have H:=H1
   clear H1
   have H':=U.mk H
   clear H
   go_wp2
   go_meet
   case rel=>exact⟨_,(true),(by first|rfl|(simp;done)|(simp[*];done)),H',⟨by first|omega|exact Nat.le_refl _⟩,⟨by(with_reducible repeat(first|apply Kd.vq|apply Kd.kx|apply Kd.vz));exact HO105.out⟩,⟨by(with_reducible repeat(first|refine qw ?_ _|refine qx ?_|refine qv ?_ _));exact BK101.out⟩,⟨by repeat(first|(with_reducible first|exact HB.out|apply G|apply J|apply qq|refine qk ?_ GE101.out)|exact HB.out)⟩⟩
 case rest =>
  clear HC4
  try clear c1
  try clear p2
  try clear c5
  try clear c7
  try clear c8
  obtain⟨kq,x19_3,rfl,HA,HJ3,HO_5,BK101,HB⟩:=hcut
  cases kq with
  | zero=>exact absurd HA.out (by simp[qkv.j0])
  | succ kj3 =>
   have H:=HA.out
   clear HA
   simp only[qkv.j0] at H
   by_cases c9:x19_3=true
   ·subst c9
    have H1:(some (0,([]:List Int),0,0))=some (r1,r2,r3,r4):=by rw[if_pos rfl] at H;exact H
    clear H
    have H:=H1
    clear H1
    simp only[Option.some.injEq,Prod.mk.injEq] at H
    obtain⟨rfl,rfl,rfl,rfl⟩:=H
    have hcz10_0:wc.cell? ⟨gb101,0,none⟩ = some (.int .i64 0):=(qj BK101.out 0).trans rfl
    have hcz10_1:wc.cell? ⟨gb101,1,none⟩ = some (.slice none 0 0):=(qj BK101.out 1).trans rfl
    have hcz10_2:wc.cell? ⟨gb101,2,none⟩ = some (.int .i64 0):=(qj BK101.out 2).trans rfl
    have hcz10_3:wc.cell? ⟨gb101,3,none⟩ = some (.int .i64 0):=(qj BK101.out 3).trans rfl
    have hfz10_0:=qz BK101.out 0
    have hfz10_1:=qz BK101.out 1
    have hfz10_2:=qz BK101.out 2
    have hfz10_3:=qz BK101.out 3
    go_wp2
    refine bodyPost_ret (results_cell_row rfl _ _ gb101 61 #[.int .i64 0,.slice none 0 0,.int .i64 0,.int .i64 0] (0,0) _ rfl (by(with_reducible repeat(first|refine qw ?_ _|refine qx ?_|refine qv ?_ _));refine blk_put (cs:=#[.int .i64 0,.slice none 0 0,.int .i64 0,.int .i64 0]) ?_ 3 _ rfl;(with_reducible repeat(first|refine qw ?_ _|refine qx ?_|refine qv ?_ _));refine blk_put (cs:=#[.int .i64 0,.slice none 0 0,.int .i64 0,.int .i64 0]) ?_ 2 _ rfl;(with_reducible repeat(first|refine qw ?_ _|refine qx ?_|refine qv ?_ _));refine blk_put (cs:=#[.int .i64 0,.slice none 0 0,.int .i64 0,.int .i64 0]) ?_ 1 _ rfl;(with_reducible repeat(first|refine qw ?_ _|refine qx ?_|refine qv ?_ _));refine blk_put (cs:=#[.int .i64 0,.slice none 0 0,.int .i64 0,.int .i64 0]) ?_ 0 _ rfl;(with_reducible repeat(first|refine qw ?_ _|refine qx ?_|refine qv ?_ _));exact BK101.out) Try.underlying61 rfl (by kernel_rfl)) rfl ?_
    exact⟨_,by first|rfl|(simp[*,jv,jk] <;> rfl),by first|exact Kd.R_nil _ _ _ _ _|exact Kd.N_nil _ _ _ _ _|exact Kd.V_nil _ _ _ _ _|exact Kd.Q_nil _ _ _ _ _|exact Kd.S_nil _ _ _ _ _,by repeat(first|(with_reducible first|exact HB.out|apply G|apply J|apply qq|refine qk ?_ GE101.out)|exact HB.out)⟩
   ·replace c9:=jq9.mpr c9
    subst c9
    have H1:((qxj.f kj3 t102).bind fun t107=>((qxk.f kj3 (t102.length:Int) t107 0 0).bind fun t111=>((zqx.f kj3 a0 t111).bind fun bt114=>(some ((t102.length:Int),t107,bt114.1,bt114.2)))))=some (r1,r2,r3,r4):=by rw[if_neg (show ¬ (false=true) by decide)] at H;exact H
    clear H
    have H:=H1
    clear H1
    replace H:=jq8.mp H
    obtain⟨t107,A110,H⟩:=H
    try dsimp only at H
    have A11:=U.mk A110
    clear A110
    replace H:=jq8.mp H
    obtain⟨t111,A120,H⟩:=H
    try dsimp only at H
    have A12:=U.mk A120
    clear A120
    replace H:=jq8.mp H
    obtain⟨⟨t114,t115⟩,A130,H⟩:=H
    try dsimp only at H
    have A13:=U.mk A130
    clear A130
    simp only[Option.some.injEq,Prod.mk.injEq] at H
    obtain⟨rfl,rfl,rfl,rfl⟩:=H
    obtain⟨Ao14,co14,eo14⟩:=Kd.S_slice HO_5.out
    subst eo14
    go_wp2_with (first|((with_reducible refine jw (f:=81) rfl ?_);refine goesL_ (some 24) rfl rfl Try.func81 (by kernel_rfl) rfl #[.slice Ao14 t102.length co14] rfl (by(try simp only[jq0,jq1,jq2]);first|done|rfl|(simp only[jq3,jq4];rfl)) ?_;(with_reducible refine(qxj.callsR kj3 (fun k_=>(True∧k_≠gb101)) w.heap.size _ _ t102 t107 _ ?side1 ?side2 A11.out).mono ?_);(case side1=>exact Kd.S_R (Kd.S_types (HO_5.out) BK101.out (by decide)));(case side2=>exact(zj (by solve_by_elim (maxDepth:=20) only[HB.out,G,J,qq,qk,GE101.out])));rintro e w15 ⟨v108,rfl,ho0,hb⟩;refine⟨_,rfl,?_⟩;have HO109:=U.mk (Kd.R_mono (ok':=fun k_=>True) ho0 (fun _ hk_=>trivial));replace BK101:=U.mk (vx (g:=gb101) (o:=.cells #[.int .i64 0,.slice none 0 0,.int .i64 0,.int .i64 0] 61 (0,0)) (by solve_by_elim only[BK101.out,qw,qx,qv]) hb);replace HB:=U.mk (zz (by solve_by_elim (maxDepth:=20) only[HB.out,G,J,qq,qk,GE101.out]) hb);clear HO_5;(try clear hb ho0);obtain⟨Ao16,co16,eo16⟩:=Kd.R_slice HO109.out;subst eo16)|((with_reducible refine gate_dst (N:=7) rfl ?_);refine box_event ?hg (N:=7) ?hd (cs:=#[.int .i64 0,.slice none 0 0,.int .i64 0,.int .i64 0]) (t:=61) ?hr ?_;(case hd=>rfl);(case hg=>rfl);(case hr=>first|(go_simp;done)|(go_simp;rfl));intro gb110 hg w17 hbox hb;replace HO109:=U.mk (Kd.R_below (by solve_by_elim only[HO109.out,Kd.zv,Kd.zk,Kd.zw]) hb);have BK110:=U.mk (hbox);have GW110:=U.mk ((by rw[hg];exact(zj (by solve_by_elim (maxDepth:=20) only[HB.out,G,J,qq,qk,GE101.out])):w.heap.size≤gb110));have GE110:=U.mk ((by rw[hg];exact(zj (by solve_by_elim (maxDepth:=20) only[HB.out,G,J,qq,qk,GE101.out])):w.heap.size≤gb110));replace HB:=U.mk (zz (by solve_by_elim (maxDepth:=20) only[HB.out,G,J,qq,qk,GE101.out]) hb);have NB101_110:=U.mk ((by rw[hg];exact Nat.ne_of_lt (blk_lt (g:=gb101) (o:=.cells #[.int .i64 0,.slice none 0 0,.int .i64 0,.int .i64 0] 61 (0,0)) (by solve_by_elim only[BK101.out,qw,qx,qv])):gb101≠gb110));have NB110_101:=U.mk ((by rw[hg];exact Nat.ne_of_gt (blk_lt (g:=gb101) (o:=.cells #[.int .i64 0,.slice none 0 0,.int .i64 0,.int .i64 0] 61 (0,0)) (by solve_by_elim only[BK101.out,qw,qx,qv])):gb110≠gb101));replace BK101:=U.mk (vx (g:=gb101) (o:=.cells #[.int .i64 0,.slice none 0 0,.int .i64 0,.int .i64 0] 61 (0,0)) (by solve_by_elim only[BK101.out,qw,qx,qv]) hb);clear hb hbox hg;have hnb18:=NB110_101.out;have hnc18:=NB101_110.out;have hcz19_0:w17.cell? ⟨gb110,0,none⟩ = some (.int .i64 0):=(qj BK110.out 0).trans rfl;have hcz19_1:w17.cell? ⟨gb110,1,none⟩ = some (.slice none 0 0):=(qj BK110.out 1).trans rfl;have hcz19_2:w17.cell? ⟨gb110,2,none⟩ = some (.int .i64 0):=(qj BK110.out 2).trans rfl;have hcz19_3:w17.cell? ⟨gb110,3,none⟩ = some (.int .i64 0):=(qj BK110.out 3).trans rfl;have hfz19_0:=qz BK110.out 0;have hfz19_1:=qz BK110.out 1;have hfz19_2:=qz BK110.out 2;have hfz19_3:=qz BK110.out 3)|((with_reducible refine jw (f:=98) rfl ?_);refine goesL_ (some 28) rfl rfl Try.func98 (by kernel_rfl) rfl #[.agg #[.int .i64 (t102.length:Int),.slice Ao16 t107.length co16,.int .i64 0,.int .i64 0]] rfl (by(try simp only[jq0,jq1,jq2]);first|done|rfl|(simp only[jq3,jq4];rfl)) ?_;(with_reducible refine(qxk.calls kj3 (t102.length:Int) _ _ t107 0 0 t111 _ ?side1 ?side2 A12.out).mono ?_);(case side1=>refine(Kd.R_reads' (e:=5) (base:=w.heap.size) (ok:=fun k_=>True) (n:=t107.length) (c:=co16) ?_).2.2;exact(by(with_reducible repeat(first|apply Kd.zv|apply Kd.zk|apply Kd.zw));exact(Kd.R_mono (Kd.R_far (p:=⟨gb110,3,none⟩) (Kd.R_far (p:=⟨gb110,2,none⟩) (Kd.R_far (p:=⟨gb110,1,none⟩) (Kd.R_far (p:=⟨gb110,0,none⟩) (Kd.R_types HO109.out BK110.out (by decide)) (fun _ hk=>hk.2) (.int .i64 (t102.length:Int))) (fun _ hk=>hk.2) (.slice Ao16 t107.length co16)) (fun _ hk=>hk.2) (.int .i64 0)) (fun _ hk=>hk.2) (.int .i64 0)) (fun _ h_=>h_.1))));(case side2=>exact(Kd.R_reads' HO109.out).2.1);rintro e w20 ⟨v112,rfl,ho0,hb⟩;refine⟨_,rfl,?_⟩;have HO113:=U.mk (Kd.R_lower (Kd.R_new' ho0 (Kd.R_lt (by(with_reducible repeat(first|apply Kd.zv|apply Kd.zk|apply Kd.zw));exact(Kd.R_mono (Kd.R_far (p:=⟨gb110,3,none⟩) (Kd.R_far (p:=⟨gb110,2,none⟩) (Kd.R_far (p:=⟨gb110,1,none⟩) (Kd.R_far (p:=⟨gb110,0,none⟩) (Kd.R_types HO109.out BK110.out (by decide)) (fun _ hk=>hk.2) (.int .i64 (t102.length:Int))) (fun _ hk=>hk.2) (.slice Ao16 t107.length co16)) (fun _ hk=>hk.2) (.int .i64 0)) (fun _ hk=>hk.2) (.int .i64 0)) (fun _ h_=>h_.1))))) (zj (by solve_by_elim (maxDepth:=20) only[HB.out,G,J,qq,qk,GE101.out,qk,GE110.out])));replace HO109:=U.mk (Kd.R_elder' (by(with_reducible repeat(first|apply Kd.zv|apply Kd.zk|apply Kd.zw));exact(Kd.R_mono (Kd.R_far (p:=⟨gb110,3,none⟩) (Kd.R_far (p:=⟨gb110,2,none⟩) (Kd.R_far (p:=⟨gb110,1,none⟩) (Kd.R_far (p:=⟨gb110,0,none⟩) (Kd.R_types HO109.out BK110.out (by decide)) (fun _ hk=>hk.2) (.int .i64 (t102.length:Int))) (fun _ hk=>hk.2) (.slice Ao16 t107.length co16)) (fun _ hk=>hk.2) (.int .i64 0)) (fun _ hk=>hk.2) (.int .i64 0)) (fun _ h_=>h_.1))) (Kd.R_base ho0) hb);replace BK101:=U.mk (vx (g:=gb101) (o:=.cells #[.int .i64 0,.slice none 0 0,.int .i64 0,.int .i64 0] 61 (0,0)) (by(with_reducible repeat(first|refine qw ?_ _|refine qx ?_|refine qv ?_ _));refine blk_far ?_ NB101_110.out _;(with_reducible repeat(first|refine qw ?_ _|refine qx ?_|refine qv ?_ _));refine blk_far ?_ NB101_110.out _;(with_reducible repeat(first|refine qw ?_ _|refine qx ?_|refine qv ?_ _));refine blk_far ?_ NB101_110.out _;(with_reducible repeat(first|refine qw ?_ _|refine qx ?_|refine qv ?_ _));refine blk_far ?_ NB101_110.out _;(with_reducible repeat(first|refine qw ?_ _|refine qx ?_|refine qv ?_ _));exact BK101.out) hb);replace BK110:=U.mk (vx (g:=gb110) (o:=.cells #[.int .i64 (t102.length:Int),.slice Ao16 t107.length co16,.int .i64 0,.int .i64 0] 61 (0,0)) (by(with_reducible repeat(first|refine qw ?_ _|refine qx ?_|refine qv ?_ _));refine blk_put (cs:=#[.int .i64 (t102.length:Int),.slice Ao16 t107.length co16,.int .i64 0,.int .i64 0]) ?_ 3 _ rfl;(with_reducible repeat(first|refine qw ?_ _|refine qx ?_|refine qv ?_ _));refine blk_put (cs:=#[.int .i64 (t102.length:Int),.slice Ao16 t107.length co16,.int .i64 0,.int .i64 0]) ?_ 2 _ rfl;(with_reducible repeat(first|refine qw ?_ _|refine qx ?_|refine qv ?_ _));refine blk_put (cs:=#[.int .i64 (t102.length:Int),.slice none 0 0,.int .i64 0,.int .i64 0]) ?_ 1 _ rfl;(with_reducible repeat(first|refine qw ?_ _|refine qx ?_|refine qv ?_ _));refine blk_put (cs:=#[.int .i64 0,.slice none 0 0,.int .i64 0,.int .i64 0]) ?_ 0 _ rfl;(with_reducible repeat(first|refine qw ?_ _|refine qx ?_|refine qv ?_ _));exact BK110.out) hb);replace HB:=U.mk (zz (by solve_by_elim (maxDepth:=20) only[HB.out,G,J,qq,qk,GE101.out,qk,GE110.out]) hb);(try clear hb ho0);obtain⟨Ao21,co21,eo21⟩:=Kd.R_slice HO113.out;subst eo21)|((with_reducible refine jw (f:=104) rfl ?_);refine goesL_ (some 29) rfl rfl Try.func104 (by kernel_rfl) rfl #[.int .i64 a0,.slice Ao21 t111.length co21] rfl (by(try simp only[jq0,jq1,jq2]);first|done|rfl|(simp only[jq3,jq4];rfl)) ?_;(with_reducible refine(zqx.calls kj3 a0 _ _ t111 t114 t115 _ ?side1 ?side2 A13.out).mono ?_);(case side1=>solve_by_elim only[(Kd.R_reads' HO113.out).2.2,Kd.C_alloc,Kd.C_drewN,Kd.C_drew]);(case side2=>exact(Kd.R_reads' HO113.out).2.1);rintro e w22 ⟨rfl,hb⟩;refine⟨_,rfl,?_⟩;replace HO109:=U.mk (Kd.R_below (by solve_by_elim only[HO109.out,Kd.zv,Kd.zk,Kd.zw]) hb);replace HO113:=U.mk (Kd.R_below (by solve_by_elim only[HO113.out,Kd.zv,Kd.zk,Kd.zw]) hb);replace BK101:=U.mk (vx (g:=gb101) (o:=.cells #[.int .i64 0,.slice none 0 0,.int .i64 0,.int .i64 0] 61 (0,0)) (by solve_by_elim only[BK101.out,qw,qx,qv]) hb);replace BK110:=U.mk (vx (g:=gb110) (o:=.cells #[.int .i64 (t102.length:Int),.slice Ao16 t107.length co16,.int .i64 0,.int .i64 0] 61 (0,0)) (by solve_by_elim only[BK110.out,qw,qx,qv]) hb);replace HB:=U.mk (zz (by solve_by_elim (maxDepth:=20) only[HB.out,G,J,qq,qk,GE101.out,qk,GE110.out]) hb);(try clear hb);have hcz23_0:w22.cell? ⟨gb110,0,none⟩ = some (.int .i64 (t102.length:Int)):=(qj BK110.out 0).trans rfl;have hcz23_1:w22.cell? ⟨gb110,1,none⟩ = some (.slice Ao16 t107.length co16):=(qj BK110.out 1).trans rfl;have hcz23_2:w22.cell? ⟨gb110,2,none⟩ = some (.int .i64 0):=(qj BK110.out 2).trans rfl;have hcz23_3:w22.cell? ⟨gb110,3,none⟩ = some (.int .i64 0):=(qj BK110.out 3).trans rfl;have hfz23_0:=qz BK110.out 0;have hfz23_1:=qz BK110.out 1;have hfz23_2:=qz BK110.out 2;have hfz23_3:=qz BK110.out 3;have hcz24_0:w22.cell? ⟨gb101,0,none⟩ = some (.int .i64 0):=(qj BK101.out 0).trans rfl;have hcz24_1:w22.cell? ⟨gb101,1,none⟩ = some (.slice none 0 0):=(qj BK101.out 1).trans rfl;have hcz24_2:w22.cell? ⟨gb101,2,none⟩ = some (.int .i64 0):=(qj BK101.out 2).trans rfl;have hcz24_3:w22.cell? ⟨gb101,3,none⟩ = some (.int .i64 0):=(qj BK101.out 3).trans rfl;have hfz24_0:=qz BK101.out 0;have hfz24_1:=qz BK101.out 1;have hfz24_2:=qz BK101.out 2;have hfz24_3:=qz BK101.out 3))
    refine bodyPost_ret (results_cell_row rfl _ _ gb101 61 #[.int .i64 (t102.length:Int),.slice Ao16 t107.length co16,.int .i64 t114,.int .i64 t115] (0,0) _ rfl (by(with_reducible repeat(first|refine qw ?_ _|refine qx ?_|refine qv ?_ _));refine blk_put (cs:=#[.int .i64 (t102.length:Int),.slice Ao16 t107.length co16,.int .i64 t114,.int .i64 0]) ?_ 3 _ rfl;(with_reducible repeat(first|refine qw ?_ _|refine qx ?_|refine qv ?_ _));refine blk_put (cs:=#[.int .i64 (t102.length:Int),.slice Ao16 t107.length co16,.int .i64 0,.int .i64 0]) ?_ 2 _ rfl;(with_reducible repeat(first|refine qw ?_ _|refine qx ?_|refine qv ?_ _));refine blk_put (cs:=#[.int .i64 (t102.length:Int),.slice none 0 0,.int .i64 0,.int .i64 0]) ?_ 1 _ rfl;(with_reducible repeat(first|refine qw ?_ _|refine qx ?_|refine qv ?_ _));refine blk_put (cs:=#[.int .i64 0,.slice none 0 0,.int .i64 0,.int .i64 0]) ?_ 0 _ rfl;(with_reducible repeat(first|refine qw ?_ _|refine qx ?_|refine qv ?_ _));refine blk_far ?_ NB101_110.out _;(with_reducible repeat(first|refine qw ?_ _|refine qx ?_|refine qv ?_ _));refine blk_far ?_ NB101_110.out _;(with_reducible repeat(first|refine qw ?_ _|refine qx ?_|refine qv ?_ _));exact BK101.out) Try.underlying61 rfl (by kernel_rfl)) rfl ?_
    exact⟨_,by first|rfl|(simp[*,jv,jk] <;> rfl),by(with_reducible repeat(first|apply Kd.zv|apply Kd.zk|apply Kd.zw));exact Kd.R_mono (Kd.R_far (p:=⟨gb101,3,none⟩) (Kd.R_far (p:=⟨gb101,2,none⟩) (Kd.R_far (p:=⟨gb101,1,none⟩) (Kd.R_far (p:=⟨gb101,0,none⟩) (Kd.R_far (p:=⟨gb110,3,none⟩) (Kd.R_far (p:=⟨gb110,2,none⟩) (Kd.R_types (Kd.R_types HO109.out BK110.out (by decide)) BK101.out (by decide)) (fun _ hk=>hk.1.2) (.int .i64 t114)) (fun _ hk=>hk.1.2) (.int .i64 t115)) (fun _ hk=>hk.2) (.int .i64 (t102.length:Int))) (fun _ hk=>hk.2) (.slice Ao16 t107.length co16)) (fun _ hk=>hk.2) (.int .i64 t114)) (fun _ hk=>hk.2) (.int .i64 t115)) (fun _ hk=>trivial),by repeat(first|(with_reducible first|exact HB.out|apply G|apply J|apply qq|refine qk ?_ GE101.out|refine qk ?_ GE110.out)|exact HB.out)⟩
open Go.RowKit Go.Proofs.YtipdkendfcopiaaW.PrintWords
def nilS.f (l:List Int):Option Bool:=some (decide (l.length=0))
theorem nil_absurd {l:List Int} {P:Prop} (hp : 0 < l.length):l.length=0→P:=fun h=>absurd h (Nat.ne_of_gt hp)
theorem nil_absurd' {l:List Int} {P:Prop} (hp : 0 < l.length):l=[]→P:=fun h=>absurd (congrArg List.length h) (Nat.ne_of_gt hp)
theorem eqlnil (W:World) (A:Option Addr) (n c:Nat):(binOp .eql 22 (.slice A n c) (.slice none 0 0)).run Try.prog W=.ok (.bool A.isNone) W:=Lib.run_eql_slice_nil W 22 5 A n c 0 0 Try.underlying22
theorem nil_is {l:List Int} {A:Option Addr} {n c:Nat} (hn:l.length=0→Value.slice A n c=.slice none 0 0) (h:nilS.f l=some true):A.isNone=true:=by
 have:=hn (of_decide_eq_true (Option.some.inj h))
 injection this with h1
 rw[h1]
 rfl
theorem nil_isnt {e:Nat} {w:World} {base:Nat} {ok:Nat→Prop} {l:List Int} {A:Option Addr} {n c:Nat} (ho:Kd.R (Kd.int .u8) e w base ok (.slice A n c) l) (h:nilS.f l=some false):A.isNone=false:=by
 obtain⟨g,cp,h1,_⟩:=Kd.R_form ho (Nat.pos_of_ne_zero (of_decide_eq_false (Option.some.inj h)))
 injection h1 with h1
 rw[h1]
 rfl
theorem nil_eq {e:Nat} {w:World} {base:Nat} {ok:Nat→Prop} {l:List Int} {A:Option Addr} {n c:Nat} {b:Bool} (hn:l.length=0→Value.slice A n c=.slice none 0 0) (ho:Kd.R (Kd.int .u8) e w base ok (.slice A n c) l) (h:nilS.f l=some b):A.isNone=b:=by
 cases b with
 | true=>exact nil_is hn h
 | false=>exact nil_isnt ho h
theorem nilS_false {l:List Int} (h:nilS.f l=some false) : 0 < l.length:=by
 have:=Option.some.inj h
 exact Nat.pos_of_ne_zero (of_decide_eq_false this)
theorem mixN_len (a:List Int) (x:Int):∀ n,(mixN a x n).length=a.length:=fun n=>mix_len a x n
theorem dgAll_length:∀ (l a:List Int),(dgAll a l).length=a.length
 | [],a=>rfl
 | x :: l,a=>by
  show(dgAll (dgMix a x) l).length=_
  rw[dgAll_length l (dgMix a x)]
  exact mixN_len a x 4
theorem flatMap_yb_len:∀ a:List Int,(a.flatMap yb).length=4 * a.length
 | []=>rfl
 | x :: a=>by
  rw[List.flatMap_cons,List.length_append,flatMap_yb_len a]
  simp only[yb,List.length_cons,List.length_nil]
  omega
theorem digest_pos {l r:List Int} (h:xk.f l=some r) : 0 < r.length:=by
 unfold xk.f at h
 by_cases hb:isBytes l
 case neg=>rw[if_neg hb] at h;cases h
 rw[if_pos hb] at h
 by_cases hl:(l.length:Int) > 20000
 ·rw[if_pos hl] at h;cases h
 ·rw[if_neg hl] at h
  obtain rfl:=Option.some.inj h
  rw[dg,flatMap_yb_len,dgS,dgAll_length,dgAll_length,dgAll_length]
  simp
def qjq.f (a0:Int):Option (Bool):=if a0 ≥ 1 then(some (decide (a0 < 1073741789))) else(some false)
theorem qjq.calls (a0:Int) (r:Bool) (w:World) (h:qjq.f a0=some r) :
  Calls Try.prog 105 #[.int .i64 a0] w fun e w'=>e=.returned (.bool r)∧Drawn0 w w':=by
 have H:(if a0 ≥ 1 then(some (decide (a0 < 1073741789))) else(some false))=some r:=h
 clear h
 by_cases c2:a0 ≥ 1
 ·rw[if_pos c2] at H
  have c2b0:decide (1≤a0)=true:=decide_eq_true c2
  clear c2
  obtain rfl:=Option.some.inj H
  go_enter Try.func105,Try.ntmps105
  go_wp2
  go_ret
  exact⟨by first|rfl|(simp;done)|(simp[*];done),by repeat(first|exact Drawn0.refl _|apply Drawn0.step)⟩
 ·rw[if_neg c2] at H
  have c2b0:decide (1≤a0)=false:=decide_eq_false c2
  clear c2
  obtain rfl:=Option.some.inj H
  go_enter Try.func105,Try.ntmps105
  go_wp2
  go_ret
  exact⟨by first|rfl|(simp;done)|(simp[*];done),by repeat(first|exact Drawn0.refl _|apply Drawn0.step)⟩
def xx.j0:Nat→List Int→List Int→Bool→Option (List Int)
 | 0,_,_,_=>none
 | k + 1,x0,x1,x12=>if x12=true then(some ([]:List Int)) else((xk.f x0).bind fun t101=>((xk.f x1).bind fun t104=>(if t101.length + t104.length < 140737488355328 then((xk.f (t101 ++ t104)).bind fun t110=>(some t110)) else(none))))
def xx.f (k:Nat) (l0:List Int) (l1:List Int):Option (List Int):=if (l0.length:Int) > 20000 then(xx.j0 k l0 l1 true) else(xx.j0 k l0 l1 (decide ((l1.length:Int) > 20000)))
theorem xx.calls (k:Nat) (A0:Option Addr) (c0:Nat) (l0:List Int) (A1:Option Addr) (c1:Nat) (l1:List Int) (r:List Int) (w:World) (hr0:Kd.C (Kd.int .u8) w A0 l0.length l0) (hc0:l0.length≤c0) (hr1:Kd.C (Kd.int .u8) w A1 l1.length l1) (hc1:l1.length≤c1) (h:xx.f k l0 l1=some r) :
  Calls Try.prog 75 #[.slice A0 l0.length c0,.slice A1 l1.length c1] w fun e w'=>∃ v0_:Value,e=.returned (v0_)∧Kd.R (Kd.int .u8) 5 w' w.heap.size (fun _=>True) v0_ r∧Below w.heap.size w w':=by
 have HR0:=U.mk hr0
 have HC0:=U.mk hc0
 clear hr0 hc0
 have HR1:=U.mk hr1
 have HC1:=U.mk hc1
 clear hr1 hc1
 have HB:=U.mk (Below.refl w.heap.size w)
 unfold xx.f at h
 have H:=h
 clear h
 have HC3:=U.mk H
 clear H
 go_enter Try.func75,Try.ntmps75
 go_upto_region 1 with (fail)
 go_cut [12] (fun v12 wc=>∃ (kq:Nat) (x12_2:Bool),v12=.bool x12_2∧U (xx.j0 kq l0 l1 x12_2=some r)∧U (kq≤k)∧U (Below w.heap.size w wc))
 case first =>
  have H:=HC3.out
  clear HC3
  by_cases c4:(l0.length:Int) > 20000
  ·rw[if_pos c4] at H
   have c4b0:decide (20000 < (l0.length:Int))=true:=decide_eq_true c4
   have c4b1:decide (20000 < l0.length)=true:=decide_eq_true (by omega)
   clear c4
   (first|rw[c4b0]|(simp only[i64_w,i32_w];rw[c4b0])|skip)
   have H':=U.mk H
   clear H
   go_wp2
   go_meet
   case rel=>exact⟨_,(true),(by first|rfl|(simp;done)|(simp[*];done)),H',⟨by first|omega|exact Nat.le_refl _⟩,⟨by repeat(first|(with_reducible first|exact HB.out|apply G|apply J|apply qq)|exact HB.out)⟩⟩
  ·rw[if_neg c4] at H
   have c4b0:decide (20000 < (l0.length:Int))=false:=decide_eq_false c4
   have c4b1:decide (20000 < l0.length)=false:=decide_eq_false (by omega)
   clear c4
   (first|rw[c4b0]|(simp only[i64_w,i32_w];rw[c4b0])|skip)
   have H':=U.mk H
   clear H
   go_wp2
   go_meet
   case rel=>exact⟨_,(decide ((l1.length:Int) > 20000)),(by first|rfl|(simp;done)|(simp[*];done)),H',⟨by first|omega|exact Nat.le_refl _⟩,⟨by repeat(first|(with_reducible first|exact HB.out|apply G|apply J|apply qq)|exact HB.out)⟩⟩
 case rest =>
  clear HC3
  try clear c1
  try clear p2
  try clear c4
  try clear c4b0
  try clear c4b1
  obtain⟨kq,x12_2,rfl,HA,HJ2,HB⟩:=hcut
  cases kq with
  | zero=>exact absurd HA.out (by simp[xx.j0])
  | succ kj2 =>
   have H:=HA.out
   clear HA
   simp only[xx.j0] at H
   by_cases c5:x12_2=true
   ·subst c5
    have H1:(some ([]:List Int))=some r:=by rw[if_pos rfl] at H;exact H
    clear H
    have H:=H1
    clear H1
    obtain rfl:=Option.some.inj H
    go_wp2
    go_ret
    exact⟨_,by first|rfl|(simp[*,jv,jk] <;> rfl),by first|exact Kd.R_nil _ _ _ _ _|exact Kd.N_nil _ _ _ _ _|exact Kd.V_nil _ _ _ _ _|exact Kd.Q_nil _ _ _ _ _|exact Kd.S_nil _ _ _ _ _,by repeat(first|(with_reducible first|exact HB.out|apply G|apply J|apply qq)|exact HB.out)⟩
   ·replace c5:=jq9.mpr c5
    subst c5
    have H1:((xk.f l0).bind fun t101=>((xk.f l1).bind fun t104=>(if t101.length + t104.length < 140737488355328 then((xk.f (t101 ++ t104)).bind fun t110=>(some t110)) else(none))))=some r:=by rw[if_neg (show ¬ (false=true) by decide)] at H;exact H
    clear H
    have H:=H1
    clear H1
    replace H:=jq8.mp H
    obtain⟨t101,A60,H⟩:=H
    try dsimp only at H
    have A6:=U.mk A60
    clear A60
    replace H:=jq8.mp H
    obtain⟨t104,A70,H⟩:=H
    try dsimp only at H
    have A7:=U.mk A70
    clear A70
    by_cases c8:t101.length + t104.length < 140737488355328
    ·rw[if_pos c8] at H
     have LMc8:=U.mk c8
     clear c8
     obtain⟨y107,hy107⟩ : ∃ y_:List Int,y_=(t101 ++ t104):=⟨_,rfl⟩
     replace H:((xk.f y107).bind fun t110=>(some t110))=some r:=by first|(rw[hy107];with_reducible exact H)|(have H2_:=(Option.bind_some _ _).symm.trans H;rw[hy107];with_reducible exact H2_)|(have H2_:=(Option.bind_some _ _).symm.trans H;with_reducible exact H2_)|with_reducible exact H|(rw[hy107];exact H)|exact H
     have Ny107:=U.mk hy107
     clear hy107
     replace H:=jq8.mp H
     obtain⟨t110,A90,H⟩:=H
     replace H:(some t110)=some r:=H
     have A9:=U.mk A90
     clear A90
     obtain rfl:=Option.some.inj H
     go_wp2_with (first|((with_reducible refine jw (f:=77) rfl ?_);refine goesL_ (some 14) rfl rfl Try.func77 (by kernel_rfl) rfl #[.slice A0 l0.length c0] rfl (by(try simp only[jq0,jq1,jq2]);first|done|rfl|(simp only[jq3,jq4];rfl)) ?_;(with_reducible refine(xk.calls _ _ l0 t101 _ ?side1 ?side2 A6.out).mono ?_);(case side1=>solve_by_elim only[(Kd.C_below HR0.out HB.out),Kd.C_alloc,Kd.C_drewN,Kd.C_drew]);(case side2=>exact HC0.out);rintro e w10 ⟨v102,rfl,ho0,hb⟩;refine⟨_,rfl,?_⟩;have HO103:=U.mk (Kd.R_lower ho0 (zj (by solve_by_elim only[HB.out,G,J,qq])));replace HB:=U.mk (zz (by solve_by_elim only[HB.out,G,J,qq]) hb);(try clear hb ho0))|((with_reducible refine jw (f:=77) rfl ?_);refine goesL_ (some 16) rfl rfl Try.func77 (by kernel_rfl) rfl #[.slice A1 l1.length c1] rfl (by(try simp only[jq0,jq1,jq2]);first|done|rfl|(simp only[jq3,jq4];rfl)) ?_;(with_reducible refine(xk.calls _ _ l1 t104 _ ?side1 ?side2 A7.out).mono ?_);(case side1=>solve_by_elim only[(Kd.C_below HR1.out HB.out),Kd.C_alloc,Kd.C_drewN,Kd.C_drew]);(case side2=>exact HC1.out);rintro e w11 ⟨v105,rfl,ho0,hb⟩;refine⟨_,rfl,?_⟩;have HO106:=U.mk (Kd.R_lower (Kd.R_new' ho0 (Kd.R_lt (by solve_by_elim only[HO103.out,Kd.zv,Kd.zk,Kd.zw]))) (zj (by solve_by_elim only[HB.out,G,J,qq])));replace HO103:=U.mk (Kd.R_elder' (by solve_by_elim only[HO103.out,Kd.zv,Kd.zk,Kd.zw]) (Kd.R_base ho0) hb);replace HB:=U.mk (zz (by solve_by_elim only[HB.out,G,J,qq]) hb);(try clear hb ho0);obtain⟨Ao13,co13,eo13⟩:=Kd.R_slice HO106.out;subst eo13)|((with_reducible refine gate_builtin (b:=.append) (xs:=#[.tmp 14,.tmp 16]) rfl ?_);(try (refine gate_guard (by rfl) ?_;dsimp only));at_builtin;refine Kd.R_append_rows (Kd.int .u8) (w0:=w) w.heap.size rfl (.tmp 14) (.tmp 16) 22 5 (.int .u8 0) 1 rfl Try.underlying22 info5 rfl (by decide) (by omega) v102 t101 t104 _ _ _ (fun k_=>some k_≠(.slice Ao13 t104.length co13:Value).ownBlock) (fun _=>False) rfl rfl ?aO ?aR (fun _ _ h=>h) (fun _ h=>h.elim) ?aF ?aB ?aS ?aL ?_;(case aR=>repeat(first|exact(Kd.R_reads' HO106.out).2.2|(with_reducible refine Kd.C_alloc ?_ _)|(with_reducible refine Kd.C_drewN ?_ _)|(with_reducible refine Kd.C_drew ?_)));(case aB=>exact(by solve_by_elim only[HB.out,G,J,qq]));(case aF=>exact(fun k_ hk=>Kd.fresh' (Kd.R_lt (by solve_by_elim only[HO106.out,Kd.zv,Kd.zk,Kd.zw])) k_ hk));(case aO=>exact(by(with_reducible repeat(first|apply Kd.zv|apply Kd.zk|apply Kd.zw));exact Kd.R_mono HO103.out (fun _ hk=>hk.2)));(case aS=>exact(zj (by solve_by_elim only[HB.out,G,J,qq])));(case aL=>have:=LMc8.out;omega);intro v108 w12 ho hb hg hat;rw[← Ny107.out] at ho;replace HO106:=U.mk (Kd.R_after (ok:=(fun _=>True)) (by solve_by_elim only[HO106.out,Kd.zv,Kd.zk,Kd.zw]) hg hat);replace HB:=U.mk (hb);have HO109:=U.mk (ho);clear HO103;clear ho hb hg hat;obtain⟨Ao14,co14,eo14⟩:=Kd.R_slice HO109.out;subst eo14)|((with_reducible refine jw (f:=77) rfl ?_);refine goesL_ (some 18) rfl rfl Try.func77 (by kernel_rfl) rfl #[.slice Ao14 y107.length co14] rfl (by(try simp only[jq0,jq1,jq2]);first|done|rfl|(simp only[jq3,jq4];rfl)) ?_;(with_reducible refine(xk.calls _ _ y107 t110 _ ?side1 ?side2 A9.out).mono ?_);(case side1=>solve_by_elim only[(Kd.R_reads' HO109.out).2.2,Kd.C_alloc,Kd.C_drewN,Kd.C_drew]);(case side2=>exact(Kd.R_reads' HO109.out).2.1);rintro e w15 ⟨v111,rfl,ho0,hb⟩;refine⟨_,rfl,?_⟩;have HO112:=U.mk (Kd.R_lower (Kd.R_new' (Kd.R_new' ho0 (Kd.R_lt (by solve_by_elim only[HO106.out,Kd.zv,Kd.zk,Kd.zw]))) (Kd.R_lt (by solve_by_elim only[HO109.out,Kd.zv,Kd.zk,Kd.zw]))) (zj (by solve_by_elim only[HB.out,G,J,qq])));replace HO106:=U.mk (Kd.R_elder' (by solve_by_elim only[HO106.out,Kd.zv,Kd.zk,Kd.zw]) (Kd.R_base ho0) hb);replace HO109:=U.mk (Kd.R_elder' (by solve_by_elim only[HO109.out,Kd.zv,Kd.zk,Kd.zw]) (Kd.R_base ho0) hb);replace HB:=U.mk (zz (by solve_by_elim only[HB.out,G,J,qq]) hb);(try clear hb ho0)))
     go_ret
     exact⟨_,by first|rfl|(simp[*,jv,jk] <;> rfl),by(with_reducible repeat(first|apply Kd.zv|apply Kd.zk|apply Kd.zw));exact Kd.R_mono HO112.out (fun _ hk=>trivial),by repeat(first|(with_reducible first|exact HB.out|apply G|apply J|apply qq)|exact HB.out)⟩
    ·rw[if_neg c8] at H
     exact absurd H (by simp)
def qqz.j0:Nat→Int→List Int→Bool→Option (Int × Int)
 | 0,_,_,_=>none
 | k + 1,x0,x1,x14=>if x14=true then(some (0,0)) else((qqw.f x0).bind fun t103=>((xx.f k t103 x1).bind fun t106=>((qzk.f t106).bind fun t109=>((qzv.f k 4 (wrap64 (1 + (Int.tmod t109 1073741788))) 2147483579).bind fun t110=>((qqx.f t110 x1).bind fun t111=>(some (t110,Int.tmod (wrap64 ((wrap64 (1 + (Int.tmod t109 1073741788))) + (wrap64 (t111 * x0)))) 1073741789)))))))
def qqz.f (k:Nat) (a0:Int) (l1:List Int):Option (Int × Int):=(qjq.f a0).bind fun t102=>(if t102=true then(qqz.j0 k a0 l1 (decide ((l1.length:Int) > 20000))) else(qqz.j0 k a0 l1 true))
theorem qqz.calls (k:Nat) (a0:Int) (A1:Option Addr) (c1:Nat) (l1:List Int) (r1:Int) (r2:Int) (w:World) (hr1:Kd.C (Kd.int .u8) w A1 l1.length l1) (hc1:l1.length≤c1) (h:qqz.f k a0 l1=some (r1,r2)) :
  Calls Try.prog 106 #[.int .i64 a0,.slice A1 l1.length c1] w fun e w'=>e=.returned (.agg #[.int .i64 r1,.int .i64 r2])∧Below w.heap.size w w':=by
 have hu59:=Try.underlying59
 have HR1:=U.mk hr1
 have HC1:=U.mk hc1
 clear hr1 hc1
 have HB:=U.mk (Below.refl w.heap.size w)
 unfold qqz.f at h
 have H:=h
 clear h
 have HC3:=U.mk H
 clear H
 go_enter Try.func106,Try.ntmps106
 go_upto_region 1 with (first|((with_reducible refine gate_dst (N:=4) rfl ?_);(try (refine gate_guard (by rfl) ?_;dsimp only));refine box_event ?hg (N:=4) ?hd (cs:=#[.int .i64 0,.int .i64 0]) (t:=59) ?hr ?_;(case hd=>rfl);(case hg=>rfl);(case hr=>first|(go_simp;done)|(go_simp;rfl));intro gb101 hg w4 hbox hb;have BK101:=U.mk (hbox);have GW101:=U.mk ((by rw[hg];exact(zj (by solve_by_elim only[HB.out,G,J,qq])):w.heap.size≤gb101));have GE101:=U.mk ((by rw[hg];exact(zj (by solve_by_elim only[HB.out,G,J,qq])):w.heap.size≤gb101));replace HB:=U.mk (zz (by solve_by_elim only[HB.out,G,J,qq]) hb);clear hb hbox hg))
 (try simp only[Act.put,jq5,jq6,jq7])
 go_cut [14] (fun v14 wc=>∃ (kq:Nat) (x14_2:Bool),v14=.bool x14_2∧U (qqz.j0 kq a0 l1 x14_2=some (r1,r2))∧U (kq≤k)∧U (wc.heap[gb101]? = some (.cells #[.int .i64 0,.int .i64 0] 59 (0,0)))∧U (Below w.heap.size w wc))
 case first =>
  have H:=HC3.out
  clear HC3
  replace H:=jq8.mp H
  obtain⟨t102,A50,H⟩:=H
  try dsimp only at H
  have A5:=U.mk A50
  clear A50
  by_cases c6:t102=true
  ·subst c6
   have H1:(qqz.j0 k a0 l1 (decide ((l1.length:Int) > 20000)))=some (r1,r2):=by rw[if_pos rfl] at H;exact H
   clear H
   have H:=H1
   clear H1
   have H':=U.mk H
   clear H
   go_wp2_with (first|((with_reducible refine jw (f:=105) rfl ?_);refine goesL_ (some 8) rfl rfl Try.func105 (by kernel_rfl) rfl #[.int .i64 a0] rfl (by(try simp only[jq0,jq1,jq2]);first|done|rfl|(simp only[jq3,jq4];rfl)) ?_;(with_reducible refine(qjq.calls a0 true _ A5.out).mono ?_);rintro e w' ⟨rfl,⟨nd,rfl⟩⟩;refine⟨_,rfl,?_⟩))
   go_meet
   case rel=>exact⟨_,(decide ((l1.length:Int) > 20000)),(by first|rfl|(simp;done)|(simp[*];done)),H',⟨by first|omega|exact Nat.le_refl _⟩,⟨by(with_reducible repeat(first|refine qw ?_ _|refine qx ?_|refine qv ?_ _));exact BK101.out⟩,⟨by repeat(first|(with_reducible first|exact HB.out|apply G|apply J|apply qq|refine qk ?_ GE101.out)|exact HB.out)⟩⟩
  ·replace c6:=jq9.mpr c6
   subst c6
   have H1:(qqz.j0 k a0 l1 true)=some (r1,r2):=by rw[if_neg (show ¬ (false=true) by decide)] at H;exact H
   clear H
   have H:=H1
   clear H1
   have H':=U.mk H
   clear H
   go_wp2_with (first|((with_reducible refine jw (f:=105) rfl ?_);refine goesL_ (some 8) rfl rfl Try.func105 (by kernel_rfl) rfl #[.int .i64 a0] rfl (by(try simp only[jq0,jq1,jq2]);first|done|rfl|(simp only[jq3,jq4];rfl)) ?_;(with_reducible refine(qjq.calls a0 false _ A5.out).mono ?_);rintro e w' ⟨rfl,⟨nd,rfl⟩⟩;refine⟨_,rfl,?_⟩))
   go_meet
   case rel=>exact⟨_,(true),(by first|rfl|(simp;done)|(simp[*];done)),H',⟨by first|omega|exact Nat.le_refl _⟩,⟨by(with_reducible repeat(first|refine qw ?_ _|refine qx ?_|refine qv ?_ _));exact BK101.out⟩,⟨by repeat(first|(with_reducible first|exact HB.out|apply G|apply J|apply qq|refine qk ?_ GE101.out)|exact HB.out)⟩⟩
 case rest =>
  clear HC3
  try clear c1
  try clear p2
  try clear c6
  obtain⟨kq,x14_2,rfl,HA,HJ2,BK101,HB⟩:=hcut
  cases kq with
  | zero=>exact absurd HA.out (by simp[qqz.j0])
  | succ kj2 =>
   have H:=HA.out
   clear HA
   simp only[qqz.j0] at H
   by_cases c7:x14_2=true
   ·subst c7
    have H1:(some (0,0))=some (r1,r2):=by rw[if_pos rfl] at H;exact H
    clear H
    have H:=H1
    clear H1
    simp only[Option.some.injEq,Prod.mk.injEq] at H
    obtain⟨rfl,rfl⟩:=H
    have hcz8_0:wc.cell? ⟨gb101,0,none⟩ = some (.int .i64 0):=(qj BK101.out 0).trans rfl
    have hcz8_1:wc.cell? ⟨gb101,1,none⟩ = some (.int .i64 0):=(qj BK101.out 1).trans rfl
    have hfz8_0:=qz BK101.out 0
    have hfz8_1:=qz BK101.out 1
    go_wp2
    refine bodyPost_ret (results_cell_row rfl _ _ gb101 59 #[.int .i64 0,.int .i64 0] (0,0) _ rfl (by(with_reducible repeat(first|refine qw ?_ _|refine qx ?_|refine qv ?_ _));refine blk_put (cs:=#[.int .i64 0,.int .i64 0]) ?_ 1 _ rfl;(with_reducible repeat(first|refine qw ?_ _|refine qx ?_|refine qv ?_ _));refine blk_put (cs:=#[.int .i64 0,.int .i64 0]) ?_ 0 _ rfl;(with_reducible repeat(first|refine qw ?_ _|refine qx ?_|refine qv ?_ _));exact BK101.out) Try.underlying59 rfl (by kernel_rfl)) rfl ?_
    exact⟨by first|rfl|(simp[*,jv,jk] <;> rfl),by repeat(first|(with_reducible first|exact HB.out|apply G|apply J|apply qq|refine qk ?_ GE101.out)|exact HB.out)⟩
   ·replace c7:=jq9.mpr c7
    subst c7
    have H1:((qqw.f a0).bind fun t103=>((xx.f kj2 t103 l1).bind fun t106=>((qzk.f t106).bind fun t109=>((qzv.f kj2 4 (wrap64 (1 + (Int.tmod t109 1073741788))) 2147483579).bind fun t110=>((qqx.f t110 l1).bind fun t111=>(some (t110,Int.tmod (wrap64 ((wrap64 (1 + (Int.tmod t109 1073741788))) + (wrap64 (t111 * a0)))) 1073741789)))))))=some (r1,r2):=by rw[if_neg (show ¬ (false=true) by decide)] at H;exact H
    clear H
    have H:=H1
    clear H1
    replace H:=jq8.mp H
    obtain⟨t103,A90,H⟩:=H
    try dsimp only at H
    have A9:=U.mk A90
    clear A90
    replace H:=jq8.mp H
    obtain⟨t106,A100,H⟩:=H
    try dsimp only at H
    have A10:=U.mk A100
    clear A100
    replace H:=jq8.mp H
    obtain⟨t109,A110,H⟩:=H
    try dsimp only at H
    have A11:=U.mk A110
    clear A110
    replace H:=jq8.mp H
    obtain⟨t110,A120,H⟩:=H
    try dsimp only at H
    have A12:=U.mk A120
    clear A120
    replace H:=jq8.mp H
    obtain⟨t111,A130,H⟩:=H
    try dsimp only at H
    have A13:=U.mk A130
    clear A130
    simp only[Option.some.injEq,Prod.mk.injEq] at H
    obtain⟨rfl,rfl⟩:=H
    go_wp2_with (first|((with_reducible refine jw (f:=79) rfl ?_);refine goesL_ (some 17) rfl rfl Try.func79 (by kernel_rfl) rfl #[.int .i64 a0] rfl (by(try simp only[jq0,jq1,jq2]);first|done|rfl|(simp only[jq3,jq4];rfl)) ?_;(with_reducible refine(qqw.calls a0 t103 _ A9.out).mono ?_);rintro e w14 ⟨v104,rfl,ho0,hb⟩;refine⟨_,rfl,?_⟩;have HO105:=U.mk (Kd.R_lower ho0 (zj (by solve_by_elim (maxDepth:=20) only[HB.out,G,J,qq,qk,GE101.out])));replace BK101:=U.mk (vx (g:=gb101) (o:=.cells #[.int .i64 0,.int .i64 0] 59 (0,0)) (by solve_by_elim only[BK101.out,qw,qx,qv]) hb);replace HB:=U.mk (zz (by solve_by_elim (maxDepth:=20) only[HB.out,G,J,qq,qk,GE101.out]) hb);(try clear hb ho0);obtain⟨Ao15,co15,eo15⟩:=Kd.R_slice HO105.out;subst eo15)|((with_reducible refine jw (f:=75) rfl ?_);refine goesL_ (some 19) rfl rfl Try.func75 (by kernel_rfl) rfl #[.slice Ao15 t103.length co15,.slice A1 l1.length c1] rfl (by(try simp only[jq0,jq1,jq2]);first|done|rfl|(simp only[jq3,jq4];rfl)) ?_;(with_reducible refine(xx.calls kj2 _ _ t103 _ _ l1 t106 _ ?side1 ?side2 ?side3 ?side4 A10.out).mono ?_);(case side1=>solve_by_elim only[(Kd.R_reads' HO105.out).2.2,Kd.C_alloc,Kd.C_drewN,Kd.C_drew]);(case side2=>exact(Kd.R_reads' HO105.out).2.1);(case side3=>solve_by_elim only[(Kd.C_below HR1.out HB.out),Kd.C_alloc,Kd.C_drewN,Kd.C_drew]);(case side4=>exact HC1.out);rintro e w16 ⟨v107,rfl,ho0,hb⟩;refine⟨_,rfl,?_⟩;have HO108:=U.mk (Kd.R_lower (Kd.R_new' ho0 (Kd.R_lt (by solve_by_elim only[HO105.out,Kd.zv,Kd.zk,Kd.zw]))) (zj (by solve_by_elim (maxDepth:=20) only[HB.out,G,J,qq,qk,GE101.out])));replace HO105:=U.mk (Kd.R_elder' (by solve_by_elim only[HO105.out,Kd.zv,Kd.zk,Kd.zw]) (Kd.R_base ho0) hb);replace BK101:=U.mk (vx (g:=gb101) (o:=.cells #[.int .i64 0,.int .i64 0] 59 (0,0)) (by solve_by_elim only[BK101.out,qw,qx,qv]) hb);replace HB:=U.mk (zz (by solve_by_elim (maxDepth:=20) only[HB.out,G,J,qq,qk,GE101.out]) hb);(try clear hb ho0);obtain⟨Ao17,co17,eo17⟩:=Kd.R_slice HO108.out;subst eo17)|((with_reducible refine jw (f:=130) rfl ?_);refine goesL_ (some 20) rfl rfl Try.func130 (by kernel_rfl) rfl #[.slice Ao17 t106.length co17] rfl (by(try simp only[jq0,jq1,jq2]);first|done|rfl|(simp only[jq3,jq4];rfl)) ?_;(with_reducible refine(qzk.calls _ _ t106 t109 _ ?side1 ?side2 A11.out).mono ?_);(case side1=>solve_by_elim only[(Kd.R_reads' HO108.out).2.2,Kd.C_alloc,Kd.C_drewN,Kd.C_drew]);(case side2=>exact(Kd.R_reads' HO108.out).2.1);rintro e w' ⟨rfl,⟨nd,rfl⟩⟩;refine⟨_,rfl,?_⟩;(try (rw[drewN_self w16];generalize hq_:World.drewN w16 _=w16;have n0_:U (Kd.R (Kd.int .u8) 5 w16 w.heap.size (fun k_=>some k_≠(.slice Ao17 t106.length co17:Value).ownBlock) (.slice Ao15 t103.length co15) t103):=⟨by rw[← hq_];exact(by(with_reducible repeat(first|apply Kd.zv|apply Kd.zk|apply Kd.zw));exact Kd.R_mono HO105.out (fun _ hk=>hk.2))⟩;have n1_:U (Kd.R (Kd.int .u8) 5 w16 w.heap.size (fun k_=>some k_≠(.slice Ao15 t103.length co15:Value).ownBlock) (.slice Ao17 t106.length co17) t106):=⟨by rw[← hq_];exact(by(with_reducible repeat(first|apply Kd.zv|apply Kd.zk|apply Kd.zw));exact Kd.R_mono HO108.out (fun _ hk=>hk.2))⟩;have n2_:U (w16.heap[gb101]? = some (.cells #[.int .i64 0,.int .i64 0] 59 (0,0))):=⟨by rw[← hq_];exact(by solve_by_elim only[BK101.out,qw,qx,qv])⟩;have n3_:U (Below w.heap.size w w16):=⟨by rw[← hq_];exact(by solve_by_elim (maxDepth:=20) only[HB.out,G,J,qq,qk,GE101.out])⟩;clear HO105 HO108 BK101 HB hq_;have HO105:=n0_;have HO108:=n1_;have BK101:=n2_;have HB:=n3_;clear n0_ n1_ n2_ n3_)))|((with_reducible refine jw (f:=127) rfl ?_);refine goesL_ (some 24) rfl rfl Try.func127 (by kernel_rfl) rfl #[.int .i64 4,.int .i64 (wrap64 (1 + (Int.tmod t109 1073741788))),.int .i64 2147483579] rfl (by(try simp only[jq0,jq1,jq2]);first|done|rfl|(simp only[jq3,jq4];rfl)) ?_;(with_reducible refine(qzv.calls kj2 4 (wrap64 (1 + (Int.tmod t109 1073741788))) 2147483579 t110 _ A12.out).mono ?_);rintro e w' ⟨rfl,⟨nd,rfl⟩⟩;refine⟨_,rfl,?_⟩;(try (rw[drewN_self w16];generalize hq_:World.drewN w16 _=w16;have n0_:U (Kd.R (Kd.int .u8) 5 w16 w.heap.size (fun k_=>some k_≠(.slice Ao17 t106.length co17:Value).ownBlock) (.slice Ao15 t103.length co15) t103):=⟨by rw[← hq_];exact(by(with_reducible repeat(first|apply Kd.zv|apply Kd.zk|apply Kd.zw));exact Kd.R_mono HO105.out (fun _ hk=>hk.2))⟩;have n1_:U (Kd.R (Kd.int .u8) 5 w16 w.heap.size (fun k_=>some k_≠(.slice Ao15 t103.length co15:Value).ownBlock) (.slice Ao17 t106.length co17) t106):=⟨by rw[← hq_];exact(by(with_reducible repeat(first|apply Kd.zv|apply Kd.zk|apply Kd.zw));exact Kd.R_mono HO108.out (fun _ hk=>hk.2))⟩;have n2_:U (w16.heap[gb101]? = some (.cells #[.int .i64 0,.int .i64 0] 59 (0,0))):=⟨by rw[← hq_];exact(by solve_by_elim only[BK101.out,qw,qx,qv])⟩;have n3_:U (Below w.heap.size w w16):=⟨by rw[← hq_];exact(by solve_by_elim (maxDepth:=20) only[HB.out,G,J,qq,qk,GE101.out])⟩;clear HO105 HO108 BK101 HB hq_;have HO105:=n0_;have HO108:=n1_;have BK101:=n2_;have HB:=n3_;clear n0_ n1_ n2_ n3_)))|((with_reducible refine jw (f:=128) rfl ?_);refine goesL_ (some 29) rfl rfl Try.func128 (by kernel_rfl) rfl #[.int .i64 t110,.slice A1 l1.length c1] rfl (by(try simp only[jq0,jq1,jq2]);first|done|rfl|(simp only[jq3,jq4];rfl)) ?_;(with_reducible refine(qqx.calls t110 _ _ l1 t111 _ ?side1 ?side2 A13.out).mono ?_);(case side1=>solve_by_elim only[(Kd.C_below HR1.out HB.out),Kd.C_alloc,Kd.C_drewN,Kd.C_drew]);(case side2=>exact HC1.out);rintro e w18 ⟨rfl,hb⟩;refine⟨_,rfl,?_⟩;replace HO105:=U.mk (Kd.R_below (by solve_by_elim only[HO105.out,Kd.zv,Kd.zk,Kd.zw]) hb);replace HO108:=U.mk (Kd.R_below (by solve_by_elim only[HO108.out,Kd.zv,Kd.zk,Kd.zw]) hb);replace BK101:=U.mk (vx (g:=gb101) (o:=.cells #[.int .i64 0,.int .i64 0] 59 (0,0)) (by solve_by_elim only[BK101.out,qw,qx,qv]) hb);replace HB:=U.mk (zz (by solve_by_elim (maxDepth:=20) only[HB.out,G,J,qq,qk,GE101.out]) hb);(try clear hb);have hcz19_0:w18.cell? ⟨gb101,0,none⟩ = some (.int .i64 0):=(qj BK101.out 0).trans rfl;have hcz19_1:w18.cell? ⟨gb101,1,none⟩ = some (.int .i64 0):=(qj BK101.out 1).trans rfl;have hfz19_0:=qz BK101.out 0;have hfz19_1:=qz BK101.out 1))
    refine bodyPost_ret (results_cell_row rfl _ _ gb101 59 #[.int .i64 t110,.int .i64 (Int.tmod (wrap64 ((wrap64 (1 + (Int.tmod t109 1073741788))) + (wrap64 (t111 * a0)))) 1073741789)] (0,0) _ rfl (by(with_reducible repeat(first|refine qw ?_ _|refine qx ?_|refine qv ?_ _));refine blk_put (cs:=#[.int .i64 t110,.int .i64 0]) ?_ 1 _ rfl;(with_reducible repeat(first|refine qw ?_ _|refine qx ?_|refine qv ?_ _));refine blk_put (cs:=#[.int .i64 0,.int .i64 0]) ?_ 0 _ rfl;(with_reducible repeat(first|refine qw ?_ _|refine qx ?_|refine qv ?_ _));exact BK101.out) Try.underlying59 rfl (by kernel_rfl)) rfl ?_
    exact⟨by first|rfl|(simp[*,jv,jk] <;> rfl),by repeat(first|(with_reducible first|exact HB.out|apply G|apply J|apply qq|refine qk ?_ GE101.out)|exact HB.out)⟩
theorem grown_R (w:World) (n:Nat) (hn:n≤140737488355328) (e:TypeId) :
  (Kd.int .u8).R e (w.drew.alloc (.cells (Builtin.zeroCells (Value.int .u8 0).cells n ++ Builtin.zeroCells (Value.int .u8 0).cells (grownCap w n 0 e - n)) e)) w.heap.size (fun _=>True) (.slice (some ⟨w.heap.size,0,none⟩) 0 (grownCap w n 0 e)) []:=by
 refine Kd.R_of_own (h1:=fun _=>rfl) (World.ownsRow_made w.drew _ _ (Nat.le_refl _) (grownCap_le_maxLen w n 0 e (by unfold maxLen;omega)) ?_) (fun _ _=>trivial)
 have:=grownCap_ge w n 0 e
 simp[Builtin.zeroCells,Value.cells]
 omega
set_option maxHeartbeats 1000000 in
theorem grow_calls (n:Nat) (hn:n≤140737488355328) (w:World) :
  Calls Try.prog 118 #[.slice none 0 0,.int .i64 (n:Int)] w fun e w'=>∃ (A:Option Addr) (c:Nat),e=.returned (.slice A 0 c)∧Kd.R (Kd.int .u8) 5 w' w.heap.size (fun _=>True) (.slice A 0 c) []∧Below w.heap.size w w':=by
 by_cases hz:n=0
 ·subst hz
  go_enter Try.func118,Try.ntmps118
  go_wp2
  go_ret
  exact⟨none,0,rfl,Kd.R_nil _ _ _ _ _,Below.refl _ _⟩
 ·have e1:IntKind.i64.wrap (n:Int)=n:=IntWalk.i64_in _ (by omega)
  have h0 : 0 < n:=by omega
  have hr:=Lib.run_append_nil_zeros (P:=Try.prog) w 22 3 22 5 _ (.int .u8 0) .i64 .i64 Try.underlying22 Try.underlying3 (show Try.prog.info? 5=some Try.t5 by kernel_rfl) rfl n h0 (by decide) (by omega) (by rw[show Try.t5.bytes=1 from rfl];omega)
  have HR:=U.mk hr
  clear hr
  have hc:grownCap w n 0 5≤maxLen:=grownCap_le_maxLen w n 0 5 (by unfold maxLen;omega)
  have hl:n≤grownCap w n 0 5:=grownCap_ge w n 0 5
  have HQ:=U.mk (grown_R w n hn 5)
  generalize grownCap w n 0 5=c at HR HQ hc hl
  have HB:U (Below w.heap.size w (w.drew.alloc (.cells (Builtin.zeroCells (Value.int .u8 0).cells n ++ Builtin.zeroCells (Value.int .u8 0).cells (c - n)) 5))):=⟨G (below_drew (Below.refl _ _)) _⟩
  generalize (w.drew.alloc (.cells (Builtin.zeroCells (Value.int .u8 0).cells n ++ Builtin.zeroCells (Value.int .u8 0).cells (c - n)) 5))=w2 at HR HQ HB
  go_enter Try.func118,Try.ntmps118
  go_wp2_with ((with_reducible refine gate_builtin (b:=.append) (xs:=#[.tmp 20,.tmp 21]) rfl ?_);at_builtin;refine Lib.wpList_append_run _ rfl (.tmp 20) (.tmp 21) 22 3 rfl _ _ rfl rfl _ _ HR.out ?_)
  go_ret
  exact⟨_,_,rfl,HQ.out,HB.out⟩
def qjv.f (l0:List (List Int)):Option (List Int):=if l0.flatten.length≤140737488355328 then some l0.flatten else none
theorem take_rd_L2 {l:List (List Int)} {k:Nat} (h:k < l.length):(l.take (k + 1)).flatten=(l.take k).flatten ++ rd_L2 l k:=by
 rw[List.take_succ_eq_append_getElem h,List.flatten_append];simp[rd_L2,List.getD_eq_getElem?_getD,List.getElem?_eq_getElem h]
theorem take_flat_le (l:List (List Int)) (k:Nat):(l.take k).flatten.length≤l.flatten.length:=by
 conv=>rhs;rw[← List.take_append_drop k l]
 rw[List.flatten_append,List.length_append]
 omega
set_option maxHeartbeats 1000000 in
theorem qjv.calls (A0:Option Addr) (c0:Nat) (l0:List (List Int)) (r:List Int) (w:World) (hr0:Kd.C (Kd.slice 5 (Kd.int .u8)) w A0 l0.length l0) (hc0:l0.length≤c0) (h:qjv.f l0=some r) :
  Calls Try.prog 78 #[.slice A0 l0.length c0] w fun e w'=>∃ v0_:Value,e=.returned (v0_)∧Kd.R (Kd.int .u8) 5 w' w.heap.size (fun _=>True) v0_ r∧Below w.heap.size w w':=by
 unfold qjv.f at h
 by_cases hs:l0.flatten.length≤140737488355328
 case neg=>rw[if_neg hs] at h;cases h
 rw[if_pos hs] at h
 obtain rfl:=Option.some.inj h
 clear h
 have hmax:=Kd.C_max hr0
 have HR0:=U.mk hr0
 have HC0:=U.mk hc0
 have HS:=U.mk hs
 have HM:=U.mk hmax
 clear hr0 hc0 hs hmax
 go_enter Try.func78,Try.ntmps78
 go_wp2
 go_loopw [3,11] (fun v3 i W=>∃ k s:Nat,k≤l0.length∧i=.int .i64 k∧v3=.int .i64 s∧U (s=(l0.take k).flatten.length∧Below w.heap.size w W)) (fun _ i _=>l0.length - (intOf i).toNat)
 case atStart=>exact⟨0,0,by omega,rfl,rfl,⟨rfl,Below.refl _ _⟩⟩
 case round =>
  obtain⟨k,s,hk,rfl,rfl,HW⟩:=hrel
  have hmax:=HM.out
  have hsb:s≤140737488355328:=by have h1:=HW.out.1;have h2:=take_flat_le l0 k;have h3:=HS.out;omega
  by_cases hlt:k < l0.length
  ·obtain⟨ad,A1,c1,rfl,hcell,hl1,hC1⟩:=at_L2 HR0.out k (by omega) (by omega)
   replace hcell:=(HW.out.2.cell (World.block_lt_of_cell? w _ hcell)).trans hcell
   rw[Int.toNat_natCast] at hcell
   obtain⟨ys,ey⟩ : ∃ ys,ys=rd_L2 l0 k:=⟨_,rfl⟩
   rw[← ey] at hcell
   obtain⟨n,en⟩ : ∃ n,n=ys.length:=⟨_,rfl⟩
   rw[← en] at hcell
   have hsn:s + n≤140737488355328:=by
    have h1:=HW.out.1;have h2:=take_flat_le l0 (k + 1);have h3:=HS.out
    rw[take_rd_L2 hlt,List.length_append,← ey,← h1,← en] at h2
    omega
   have EY:U (ys=rd_L2 l0 k∧n=ys.length):=⟨ey,en⟩
   clear ey en
   go_wp2
   go_roundw
   case rel=>exact⟨k + 1,s + n,by omega,by go_num,by go_num,⟨by rw[take_rd_L2 hlt,List.length_append,← HW.out.1,← EY.out.1,← EY.out.2],by repeat(first|exact HW.out.2|apply below_drew)⟩⟩
   case measure=>simp[intOf];omega
  ·obtain rfl:k=l0.length:=by omega
   rw[List.take_length] at HW
   clear hlt hk
   go_wp2_with (go_at_call 118;refine(grow_calls s hsb _).mono ?_;rintro e w1 ⟨A1,c1,rfl,HV,HB1⟩;replace HV:=U.mk (Kd.R_lower HV (base':=w.heap.size) HW.out.2.size);replace HB1:=U.mk (zz HW.out.2 HB1))
   clear HW
   go_loopw [6,27] (fun v i W=>∃ (k:Nat) (ys:List Int),k≤l0.length∧i=.int .i64 k∧U (ys=(l0.take k).flatten∧Kd.R (Kd.int .u8) 5 W w.heap.size (fun _=>True) v ys∧Below w.heap.size w W)) (fun _ i _=>l0.length - (intOf i).toNat)
   case atStart=>exact⟨0,[],by omega,rfl,⟨rfl,HV.out,HB1.out⟩⟩
   case round =>
    clear HV HB1
    obtain⟨k,ys,hk,rfl,HW⟩:=hrel
    obtain⟨A2,c2,rfl⟩:=Kd.R_slice HW.out.2.1
    have hmax:=HM.out
    by_cases hlt:k < l0.length
    ·obtain⟨ad,A3,c3,rfl,hcell,hl3,hC3⟩:=at_L2 HR0.out k (by omega) (by omega)
     replace hcell:=(HW.out.2.2.cell (World.block_lt_of_cell? w _ hcell)).trans hcell
     rw[Int.toNat_natCast] at hcell
     obtain⟨zs,ez⟩ : ∃ zs,zs=rd_L2 l0 k:=⟨_,rfl⟩
     rw[← ez] at hcell hC3
     replace hC3:=U.mk hC3
     replace ez:=U.mk ez
     go_wp2_with ((with_reducible refine gate_builtin (b:=.append) (xs:=#[.tmp 31,.tmp 32]) rfl ?_);at_builtin;refine Kd.R_append_row (Value.int .u8) 0 (w0:=w) w.heap.size rfl (.tmp 31) (.tmp 32) 22 5 (.int .u8 0) 1 rfl Try.underlying22 info5 rfl (by decide) _ ys zs _ _ _ (fun _=>True) rfl rfl (fun _ _=>trivial) (by repeat(first|exact HW.out.2.1|apply Kd.zw)) (by repeat(first|exact(Kd.C_below hC3.out HW.out.2.2)|apply Kd.C_drew)) (by repeat(first|exact HW.out.2.2|apply below_drew)) HW.out.2.2.size ?aL ?_;(case aL=>have h1:=HW.out.1;have h2:=take_flat_le l0 (k + 1);have h3:=HS.out;rw[take_rd_L2 hlt,List.length_append,← ez.out,← h1] at h2;omega);intro v1 w3 hr hb hg hat;replace hr:=U.mk hr;replace hb:=U.mk hb;clear hg hat)
     go_roundw
     case rel=>exact⟨k + 1,ys ++ zs,by omega,by go_num,⟨by rw[take_rd_L2 hlt,← HW.out.1,← ez.out],by repeat(first|exact hr.out|apply Kd.zw),by repeat(first|exact hb.out|apply below_drew)⟩⟩
     case measure=>simp[intOf];omega
    ·obtain rfl:k=l0.length:=by omega
     rw[List.take_length] at HW
     clear hlt hk
     go_wp2
     go_ret
     refine⟨_,rfl,?_,HW.out.2.2⟩
     rw[← HW.out.1]
     exact HW.out.2.1
def wv.f (l0:List Int):Option (List Int):=if l0.length≤140737488355328 then some l0 else none
set_option maxHeartbeats 1000000 in
theorem wv.calls (A0:Option Addr) (c0:Nat) (l0:List Int) (r:List Int) (w:World) (hr0:Kd.C (Kd.int .u8) w A0 l0.length l0) (hc0:l0.length≤c0) (h:wv.f l0=some r) :
  Calls Try.prog 74 #[.slice A0 l0.length c0] w fun e w'=>∃ v0_:Value,e=.returned (v0_)∧Kd.R (Kd.int .u8) 5 w' w.heap.size (fun _=>True) v0_ r∧Below w.heap.size w w':=by
 unfold wv.f at h
 by_cases hs:l0.length≤140737488355328
 case neg=>rw[if_neg hs] at h;cases h
 rw[if_pos hs] at h
 obtain rfl:=Option.some.inj h
 clear h
 have HR0:=U.mk hr0
 have HC0:=U.mk hc0
 have HS:=U.mk hs
 clear hr0 hc0 hs
 cases A0 with
 | none =>
  have h0:l0.length=0:=by
   rcases Nat.eq_zero_or_pos l0.length with h0|h0
   ·exact h0
   ·obtain⟨ad,h,_⟩:=HR0.out.2.2 h0
    cases h
  obtain rfl:=List.eq_nil_of_length_eq_zero h0
  have qe:=fun (W:World)=>Lib.run_eql_slice_nil (P:=Try.prog) W 22 5 none 0 c0 0 0 Try.underlying22
  simp only[List.length_nil]
  go_enter Try.func74,Try.ntmps74
  go_wp2
  go_ret
  exact⟨_,rfl,Kd.R_nil _ _ _ _ _,Below.refl _ _⟩
 | some ad =>
  have qe:=fun (W:World)=>Lib.run_eql_slice_nil (P:=Try.prog) W 22 5 (some ad) l0.length c0 0 0 Try.underlying22
  have HO:U ((Kd.int .u8).R 5 (w.alloc (.cells #[] 5)) w.heap.size (fun _=>True) (.slice (some ⟨w.heap.size,0,none⟩) 0 0) []):=⟨Kd.R_of_own (h1:=fun _=>rfl) (own_lit w w.heap.size 5 .u8 [] (Nat.le_refl _) (by simp)) (fun _ _=>trivial)⟩
  have HB:U (Below w.heap.size w (w.alloc (.cells #[] 5))):=⟨G (Below.refl _ _) _⟩
  go_enter Try.func74,Try.ntmps74
  go_wp2_with ((with_reducible refine gate_builtin (b:=.append) (xs:=#[.tmp 5,.tmp 6]) rfl ?_);at_builtin;refine Kd.R_append_row (Value.int .u8) 0 (w0:=w) w.heap.size rfl (.tmp 5) (.tmp 6) 22 5 (.int .u8 0) 1 rfl Try.underlying22 info5 rfl (by decide) _ [] l0 _ _ _ (fun _=>True) rfl rfl (fun _ _=>trivial) HO.out (Kd.C_below HR0.out HB.out) HB.out HB.out.size ?aL ?_;(case aL=>have:=HS.out;simp;omega);intro v1 w3 hr hb hg hat;replace hr:=U.mk hr;replace hb:=U.mk hb;clear hg hat)
  go_ret
  have h:=hr.out
  rw[List.nil_append] at h
  exact⟨_,rfl,h,hb.out⟩
end Go.Proofs.Ytipdkendfcopiaa.Pr
