/- Printed texts, walks and plain facts that the law FnExactAttenuate leans on, joined. -/
import Derived.Deep.MidRow
import Derived.Test.YtnbbbjfjkhglhaaGreatDoorFullFnExactAttenuateC
import Derived.WalkSpells
import Derived.Deep.RegionHeld3
import Derived.Deep.QuietTactic
import Derived.BigQuiet
import Derived.Laws.Cover1
set_option maxHeartbeats 8000000
set_option maxRecDepth 100000
open List renaming map_toArray → jq0, map_cons → jq1, map_nil → jq2, length_drop → jq3, length_take → jq4, setIfInBounds_toArray → jq5, set_cons_zero → jq6, set_cons_succ → jq7
open Option renaming bind_eq_some_iff → jq8
open Bool renaming eq_false_iff → jq9, true → Z, false → U
namespace Go.Proofs.YtnbbbjfjkhglhaaGreatDoor.Pr
open Go.RowKit Go.Proofs.YtnbbbjfjkhglhaaGreatDoorW.PrintWords Go.Proofs.YtnbbbjfjkhglhaaGreatDoorW.PrintLast Go.Proofs.YtnbbbjfjkhglhaaGreatDoorW.PrintMore
attribute [local go_sem] max2_int min2_int max_two min_two max_three min_three max_four min_four
set_option linter.unusedVariables false
set_option linter.unusedSimpArgs false
theorem qkw.re_ {P:Program} {ops:Array Oper} {Q:Exit→Act→World→Prop} {md:Region.Mode} {S S':World→Prop} : ∀ {fuel:Nat} {l:Array Bool} {a:Act} {w:World},S' w→(∀ w',S' w'→S w')→(S' w→wpAnyLast P md ops Q S' [] fuel l a w)→wpAnyLast P md ops Q S [] fuel l a w
 | 0,_,_,_,h,_,H=>H h
 | _ + 1,_,_,_,h,hi,H=>⟨(H h).1,fun i hm=>wpOp_mono (fun a' w' hx=>⟨fun hn _=>hi _ (hx.1 hn h),qkw.re_ (hx.1 (by simp) h) hi (fun _=>hx.2)⟩) ((H h).2 i hm)⟩
def qkw.f (k:Nat) (a0_0:ByteArray) (a0_1:Int) (a0_2:ByteArray) (a0_3:Int) (a0_4:Int) (a0_5:ByteArray) (a0_6:ByteArray):Option (ByteArray):=(qvq.f k a0_0 a0_1 a0_2 a0_3 a0_4 a0_5 a0_6).bind fun t102=>(if t102=true then(if a0_0.size + 1≤9223372036854775807 then((qxz.f).bind fun t103=>(if 0≤a0_1 then(if a0_1 < (t103.length:Int) then(if (a0_0 ++ (⟨#[32]⟩ : ByteArray)).size + (rdOf ByteArray.empty t103 a0_1).size≤9223372036854775807 then(if ((a0_0 ++ (⟨#[32]⟩ : ByteArray)) ++ (rdOf ByteArray.empty t103 a0_1)).size + 1≤9223372036854775807 then((qwj.f k a0_3 a0_4 a0_5 a0_6).bind fun t107=>(if (((a0_0 ++ (⟨#[32]⟩ : ByteArray)) ++ (rdOf ByteArray.empty t103 a0_1)) ++ (⟨#[32]⟩ : ByteArray)).size + t107.size≤9223372036854775807 then(some ((((a0_0 ++ (⟨#[32]⟩ : ByteArray)) ++ (rdOf ByteArray.empty t103 a0_1)) ++ (⟨#[32]⟩ : ByteArray)) ++ t107)) else(none))) else(none)) else(none)) else(none)) else(none))) else(none)) else(some (⟨#[]⟩ : ByteArray)))
def qkw.T3:Bool × List (List Nat × List Nat):=(true,[([],[]),([0],[0]),([1],[1]),([],[]),([],[]),([4],[4]),([3,5],[3,5]),([6],[6]),([2,7],[2,7]),([8],[8]),([],[]),([10],[10]),([11,3],[11]),([9,12],[9,12]),([13,12,0,1,2,3,4,5,6,7,8,9,10,11,12,13],[13])])
def qkw.B3:List Nat:=[0,1,3,0,0,16,56,120,255,511,0,1024,3080,8191,16383]
theorem qkw.tab3:rtab .any (opsOf Tryz.f7 3)=qkw.T3:=by kernel_rfl
theorem qkw.bits3:waitsOk qkw.T3.2 qkw.B3=true:=by kernel_rfl
theorem qkw.calls (k:Nat) (a0_0:ByteArray) (a0_1:Int) (a0_2:ByteArray) (a0_3:Int) (a0_4:Int) (a0_5:ByteArray) (a0_6:ByteArray) (r:ByteArray) (w:World) (h:qkw.f k a0_0 a0_1 a0_2 a0_3 a0_4 a0_5 a0_6=some r) :
  Calls Tryz.prog 7 #[.agg #[.string a0_0,.int .i64 a0_1,.string a0_2,.int .i64 a0_3,.int .i64 a0_4,.string a0_5,.string a0_6]] w fun e w'=>e=.returned (.string r)∧Below w.heap.size w w':=by
 have hu30:=Tryz.underlying30;have hu28:=Tryz.underlying28;have HB:=O.mk (Below.refl w.heap.size w);unfold qkw.f at h;have H:=h;clear h;replace H:=jq8.mp H;obtain⟨t102,A20,H⟩:=H;try dsimp only at H
 have A2:=O.mk A20;clear A20
 by_cases c3:t102=true
 ·subst c3;have H1:(if a0_0.size + 1≤9223372036854775807 then((qxz.f).bind fun t103=>(if 0≤a0_1 then(if a0_1 < (t103.length:Int) then(if (a0_0 ++ (⟨#[32]⟩ : ByteArray)).size + (rdOf ByteArray.empty t103 a0_1).size≤9223372036854775807 then(if ((a0_0 ++ (⟨#[32]⟩ : ByteArray)) ++ (rdOf ByteArray.empty t103 a0_1)).size + 1≤9223372036854775807 then((qwj.f k a0_3 a0_4 a0_5 a0_6).bind fun t107=>(if (((a0_0 ++ (⟨#[32]⟩ : ByteArray)) ++ (rdOf ByteArray.empty t103 a0_1)) ++ (⟨#[32]⟩ : ByteArray)).size + t107.size≤9223372036854775807 then(some ((((a0_0 ++ (⟨#[32]⟩ : ByteArray)) ++ (rdOf ByteArray.empty t103 a0_1)) ++ (⟨#[32]⟩ : ByteArray)) ++ t107)) else(none))) else(none)) else(none)) else(none)) else(none))) else(none))=some r:=by rw[if_pos rfl] at H;exact H
  clear H;have H:=H1;clear H1
  by_cases c4:a0_0.size + 1≤9223372036854775807
  ·rw[if_pos c4] at H;have c4b0:=eq_true c4;have c4b1:decide (a0_0.size + 1≤9223372036854775807)=true:=decide_eq_true c4;try have c4b2:(9223372036854775807 < a0_0.size + 1)=False:=eq_false (Nat.not_lt.2 c4)
   replace H:=jq8.mp H;obtain⟨t103,A50,H⟩:=H;try dsimp only at H
   have A5:=O.mk A50;clear A50
   by_cases c6 : 0≤a0_1
   ·rw[if_pos c6] at H;have c6b0:decide (0≤a0_1)=true:=decide_eq_true c6;clear c6
    by_cases c7:a0_1 < (t103.length:Int)
    ·rw[if_pos c7] at H;have c7b0:decide (a0_1 < (t103.length:Int))=true:=decide_eq_true c7;clear c7
     by_cases c8:(a0_0 ++ (⟨#[32]⟩ : ByteArray)).size + (rdOf ByteArray.empty t103 a0_1).size≤9223372036854775807
     ·rw[if_pos c8] at H;have c8b0:=eq_true c8;have c8b1:decide ((a0_0 ++ (⟨#[32]⟩ : ByteArray)).size + (rdOf ByteArray.empty t103 a0_1).size≤9223372036854775807)=true:=decide_eq_true c8;try have c8b2:(9223372036854775807 < (a0_0 ++ (⟨#[32]⟩ : ByteArray)).size + (rdOf ByteArray.empty t103 a0_1).size)=False:=eq_false (Nat.not_lt.2 c8)
      try (have c8b9:=c8b2;simp only[ByteArray.size_append,show(⟨#[32]⟩ : ByteArray).size=1 from rfl] at c8b9)
      by_cases c9:((a0_0 ++ (⟨#[32]⟩ : ByteArray)) ++ (rdOf ByteArray.empty t103 a0_1)).size + 1≤9223372036854775807
      ·rw[if_pos c9] at H;have c9b0:=eq_true c9;have c9b1:decide (((a0_0 ++ (⟨#[32]⟩ : ByteArray)) ++ (rdOf ByteArray.empty t103 a0_1)).size + 1≤9223372036854775807)=true:=decide_eq_true c9;try have c9b2:(9223372036854775807 < ((a0_0 ++ (⟨#[32]⟩ : ByteArray)) ++ (rdOf ByteArray.empty t103 a0_1)).size + 1)=False:=eq_false (Nat.not_lt.2 c9)
       try (have c9b9:=c9b2;simp only[ByteArray.size_append,show(⟨#[32]⟩ : ByteArray).size=1 from rfl] at c9b9)
       replace H:=jq8.mp H;obtain⟨t107,A100,H⟩:=H;try dsimp only at H
       have A10:=O.mk A100;clear A100
       by_cases c11:(((a0_0 ++ (⟨#[32]⟩ : ByteArray)) ++ (rdOf ByteArray.empty t103 a0_1)) ++ (⟨#[32]⟩ : ByteArray)).size + t107.size≤9223372036854775807
       ·rw[if_pos c11] at H;have c11b0:=eq_true c11;have c11b1:decide ((((a0_0 ++ (⟨#[32]⟩ : ByteArray)) ++ (rdOf ByteArray.empty t103 a0_1)) ++ (⟨#[32]⟩ : ByteArray)).size + t107.size≤9223372036854775807)=true:=decide_eq_true c11;try have c11b2:(9223372036854775807 < (((a0_0 ++ (⟨#[32]⟩ : ByteArray)) ++ (rdOf ByteArray.empty t103 a0_1)) ++ (⟨#[32]⟩ : ByteArray)).size + t107.size)=False:=eq_false (Nat.not_lt.2 c11)
        try (have c11b9:=c11b2;simp only[ByteArray.size_append,show(⟨#[32]⟩ : ByteArray).size=1 from rfl] at c11b9)
        obtain rfl:=Option.some.inj H;go_enter Tryz.func7,Tryz.ntmps7;try go_wp2_with (first|((with_reducible refine gate_dst (N:=1) rfl ?_);refine box_event ?hg (N:=1) ?hd (cs:=#[.string a0_0,.int .i64 a0_1,.string a0_2,.int .i64 a0_3,.int .i64 a0_4,.string a0_5,.string a0_6]) (t:=30) ?hr ?_;(case hd=>rfl);(case hg=>rfl);(case hr=>first|(go_simp;done)|(go_simp;rfl));intro gb101 hg w12 hbox hb;have BK101:=O.mk (hbox);have GW101:=O.mk ((by rw[hg];exact(zz (by solve_by_elim only[HB.out,J,L,I])):w.heap.size≤gb101));have GE101:=GW101;replace HB:=O.mk (zq (by solve_by_elim only[HB.out,J,L,I]) hb);clear hb hbox hg;obtain⟨y13_0,y13_1,y13_2,y13_3,y13_4,y13_5,y13_6,z13_0,z13_1,z13_2,z13_3,z13_4,z13_5,z13_6⟩:=bx7f BK101.out)|((with_reducible refine jq (f:=20) rfl ?_);refine goesL_ (some 4) rfl rfl Tryz.func20 (by kernel_rfl) rfl #[.agg #[.string a0_0,.int .i64 a0_1,.string a0_2,.int .i64 a0_3,.int .i64 a0_4,.string a0_5,.string a0_6]] rfl (by(try simp only[jq0,jq1,jq2]);first|done|rfl|(simp only[jq3,jq4];rfl)) ?_;(with_reducible refine(qvq.calls k a0_0 a0_1 a0_2 a0_3 a0_4 a0_5 a0_6 true _ A2.out).mono ?_);rintro e w14 ⟨rfl,hb⟩;refine⟨_,rfl,?_⟩;replace BK101:=O.mk (kz (by solve_by_elim only[BK101.out,qv,qw,qk]) hb);replace HB:=O.mk (zq (by solve_by_elim (maxDepth:=20) only[HB.out,J,L,I,qj,GE101.out]) hb);(try clear hb)))
        replace BK101:=O.mk (qw BK101.out);replace HB:=O.mk (I HB.out);refine start_ (n:=15) (S:=fun w'=>w'.cell? ⟨gb101,0,none⟩ = some (.string a0_0)∧w'.cell? ⟨gb101,1,none⟩ = some (.int .i64 a0_1)∧w'.cell? ⟨gb101,2,none⟩ = some (.string a0_2)∧w'.cell? ⟨gb101,3,none⟩ = some (.int .i64 a0_3)∧w'.cell? ⟨gb101,4,none⟩ = some (.int .i64 a0_4)∧w'.cell? ⟨gb101,5,none⟩ = some (.string a0_5)∧w'.cell? ⟨gb101,6,none⟩ = some (.string a0_6)) (ds:=[]) #[U,U,U,U,U,U,U,U,U,U,U,U,U,U,U] (by kernel_rfl) rfl rfl ⟨(qz BK101.out 0).trans rfl,(qz BK101.out 1).trans rfl,(qz BK101.out 2).trans rfl,(qz BK101.out 3).trans rfl,(qz BK101.out 4).trans rfl,(qz BK101.out 5).trans rfl,(qz BK101.out 6).trans rfl⟩ (fun hHeld=>?_);refine with_tabW qkw.tab3 qkw.bits3 (fun HT_ HW_=>?_)
        generalize w14.drew=w15 at BK101 HB hHeld ⊢;refine pure_ (i:=0) (N:=some 6) (v:=?_) (a':=?_) #[Z,U,U,U,U,U,U,U,U,U,U,U,U,U,U] rfl rfl (any_of HT_.out (by kernel_rfl)) (fun _ _ _ h=>h) (Or.inl ⟨by rfl,?_⟩) ?_ ?_;rotate_left
        ·intro w'
         go_simp
         with_reducible rfl
        rotate_left
        ·simp only[Act.put,jq5,jq6,jq7,i64_w,i32_w]
         rfl
        refine pure_ (i:=4) (N:=some 10) (v:=?_) (a':=?_) #[Z,U,U,U,Z,U,U,U,U,U,U,U,U,U,U] rfl rfl (any_of HT_.out (by kernel_rfl)) (fun _ _ _ h=>h) (Or.inl ⟨by rfl,?_⟩) ?_ ?_;rotate_left
        ·intro w'
         go_simp
         with_reducible rfl
        rotate_left
        ·simp only[Act.put,jq5,jq6,jq7,i64_w,i32_w]
         rfl
        refine pure_ (i:=10) (N:=some 16) (v:=?_) (a':=?_) #[Z,U,U,U,Z,U,U,U,U,U,Z,U,U,U,U] rfl rfl (any_of HT_.out (by kernel_rfl)) (fun _ _ _ h=>h) (Or.inl ⟨by rfl,?_⟩) ?_ ?_;rotate_left
        ·intro w'
         go_simp
         with_reducible rfl
        rotate_left
        ·simp only[Act.put,jq5,jq6,jq7,i64_w,i32_w]
         rfl
        refine take_ (i:=1) (N:=some 7) (v:=?_) (a':=?_) #[Z,Z,U,U,Z,U,U,U,U,U,Z,U,U,U,U] rfl rfl (take_ofW HT_.out HW_.out (by kernel_rfl)) (fun _ _ _ h=>h) (Or.inl ⟨by rfl,?_⟩) hHeld ?_ ?_;rotate_left
        ·rintro w' ⟨s0,s1,s2,s3,s4,s5,s6⟩
         go_simp
         with_reducible rfl
        rotate_left
        ·simp only[Act.put,jq5,jq6,jq7,i64_w,i32_w]
         rfl
        refine pure_ (i:=2) (N:=some 8) (v:=?_) (a':=?_) #[Z,Z,Z,U,Z,U,U,U,U,U,Z,U,U,U,U] rfl rfl (any_of HT_.out (by kernel_rfl)) (fun _ _ _ h=>h) (Or.inl ⟨by rfl,?_⟩) ?_ ?_;rotate_left
        ·intro w'
         go_simp
         with_reducible rfl
        rotate_left
        ·simp only[Act.put,jq5,jq6,jq7,i64_w,i32_w]
         rfl
        refine take_ (i:=5) (N:=some 11) (v:=?_) (a':=?_) #[Z,Z,Z,U,Z,Z,U,U,U,U,Z,U,U,U,U] rfl rfl (take_ofW HT_.out HW_.out (by kernel_rfl)) (fun _ _ _ h=>h) (Or.inl ⟨by rfl,?_⟩) hHeld ?_ ?_;rotate_left
        ·rintro w' ⟨s0,s1,s2,s3,s4,s5,s6⟩
         go_simp
         with_reducible rfl
        rotate_left
        ·simp only[Act.put,jq5,jq6,jq7,i64_w,i32_w]
         rfl
        refine take_ (i:=11) (N:=some 17) (v:=?_) (a':=?_) #[Z,Z,Z,U,Z,Z,U,U,U,U,Z,Z,U,U,U] rfl rfl (take_ofW HT_.out HW_.out (by kernel_rfl)) (fun _ _ _ h=>h) (Or.inl ⟨by rfl,?_⟩) hHeld ?_ ?_;rotate_left
        ·rintro w' ⟨s0,s1,s2,s3,s4,s5,s6⟩
         go_simp
         with_reducible rfl
        rotate_left
        ·simp only[Act.put,jq5,jq6,jq7,i64_w,i32_w]
         rfl
        refine one_ (i:=3) (N:=some 9) #[Z,Z,Z,Z,Z,Z,U,U,U,U,Z,Z,U,U,U] rfl rfl (one_of HT_.out (by kernel_rfl)) (by decide) (fun K hK=>?_);refine goes_ Tryz.func21 (by kernel_rfl) rfl #[] (by rfl) rfl rfl (by(try simp only[jq0,jq1,jq2]);first|done|rfl|(simp only[jq3,jq4];rfl)) ?_
        with_reducible refine(qxz.calls  t103 _ A5.out).mono ?_
        rintro e w16 ⟨v104,rfl,ho0,hb⟩
        refine⟨_,rfl,?_⟩;have HO105:=O.mk (Kd.R_lower ho0 (zz (by solve_by_elim (maxDepth:=20) only[HB.out,J,L,I,qj,GE101.out])));replace BK101:=O.mk (kz (by solve_by_elim only[BK101.out,qv,qw,qk]) hb);replace HB:=O.mk (zq (by solve_by_elim (maxDepth:=20) only[HB.out,J,L,I,qj,GE101.out]) hb)
        (try clear hb)
        (try clear hb2)
        (try clear hk)
        (try clear hi)
        (try clear ho0)
        obtain⟨Ao17,co17,eo17⟩:=Kd.R_slice HO105.out
        (first|subst eo17|(injection eo17 with f1_ f2_ f3_;have f4_:=f1_.symm;have f5_:=f3_.symm;clear f1_ f2_ f3_;subst f4_;subst f5_))
        have p106 : 0≤(a0_1:Int):=of_decide_eq_true (by assumption);have q106:a0_1 < (t103.length:Int):=of_decide_eq_true (by assumption);obtain⟨ad106,e106,hx106_0⟩:=Kd.at_string (Kd.R_reads' HO105.out).2.2 a0_1 p106 q106
        cases e106
        replace p106:=eq_true p106;replace q106:=eq_true q106;refine hK.out _ _ (by(repeat' apply And.intro) <;> first|exact(qz BK101.out _).trans rfl) (fun hHeld=>?_);clear hK K;refine qkw.re_ (S':=fun w'=>w'.cell? ⟨gb101,0,none⟩ = some (.string a0_0)∧w'.cell? ⟨gb101,1,none⟩ = some (.int .i64 a0_1)∧w'.cell? ⟨gb101,2,none⟩ = some (.string a0_2)∧w'.cell? ⟨gb101,3,none⟩ = some (.int .i64 a0_3)∧w'.cell? ⟨gb101,4,none⟩ = some (.int .i64 a0_4)∧w'.cell? ⟨gb101,5,none⟩ = some (.string a0_5)∧w'.cell? ⟨gb101,6,none⟩ = some (.string a0_6)∧w'.cell? (ad106.add (a0_1).toNat)=some (.string (rdOf ByteArray.empty t103 a0_1))) ⟨(qz BK101.out 0).trans rfl,(qz BK101.out 1).trans rfl,(qz BK101.out 2).trans rfl,(qz BK101.out 3).trans rfl,(qz BK101.out 4).trans rfl,(qz BK101.out 5).trans rfl,(qz BK101.out 6).trans rfl,hx106_0⟩ (by rintro w' ⟨s0,s1,s2,s3,s4,s5,s6,s7⟩;exact⟨s0,s1,s2,s3,s4,s5,s6⟩) (fun hHeld=>?_);refine norm_ (a':=?_) ?_ ?_;rotate_left
        ·show Act.put _ (some 9) _=_
         simp only[Act.put,jq5,jq6,jq7,i64_w,i32_w]
         rfl
        refine pure_ (i:=6) (N:=some 12) (v:=?_) (a':=?_) #[Z,Z,Z,Z,Z,Z,Z,U,U,U,Z,Z,U,U,U] rfl rfl (any_of HT_.out (by kernel_rfl)) (fun _ _ _ h=>h) (Or.inl ⟨by rfl,?_⟩) ?_ ?_;rotate_left
        ·intro w'
         go_simp
         with_reducible rfl
        rotate_left
        ·simp only[Act.put,jq5,jq6,jq7,i64_w,i32_w]
         rfl
        refine take_ (i:=7) (N:=some 13) (v:=?_) (a':=?_) #[Z,Z,Z,Z,Z,Z,Z,Z,U,U,Z,Z,U,U,U] rfl rfl (take_ofW HT_.out HW_.out (by kernel_rfl)) (fun _ _ _ h=>h) (Or.inl ⟨by rfl,?_⟩) hHeld ?_ ?_;rotate_left
        ·rintro w' ⟨s0,s1,s2,s3,s4,s5,s6,s7⟩
         go_simp
         with_reducible rfl
        rotate_left
        ·simp only[Act.put,jq5,jq6,jq7,i64_w,i32_w]
         rfl
        refine pure_ (i:=8) (N:=some 14) (v:=?_) (a':=?_) #[Z,Z,Z,Z,Z,Z,Z,Z,Z,U,Z,Z,U,U,U] rfl rfl (any_of HT_.out (by kernel_rfl)) (fun _ _ _ h=>h) (Or.inl ⟨by rfl,?_⟩) ?_ ?_;rotate_left
        ·intro w'
         go_simp
         with_reducible rfl
        rotate_left
        ·simp only[Act.put,jq5,jq6,jq7,i64_w,i32_w]
         rfl
        refine pure_ (i:=9) (N:=some 15) (v:=?_) (a':=?_) #[Z,Z,Z,Z,Z,Z,Z,Z,Z,Z,Z,Z,U,U,U] rfl rfl (any_of HT_.out (by kernel_rfl)) (fun _ _ _ h=>h) (Or.inl ⟨by rfl,?_⟩) ?_ ?_;rotate_left
        ·intro w'
         go_simp
         with_reducible rfl
        rotate_left
        ·simp only[Act.put,jq5,jq6,jq7,i64_w,i32_w]
         rfl
        refine one_ (i:=12) (N:=some 18) #[Z,Z,Z,Z,Z,Z,Z,Z,Z,Z,Z,Z,Z,U,U] rfl rfl (one_of HT_.out (by kernel_rfl)) (by decide) (fun K hK=>?_);refine goes_ Tryz.func22 (by kernel_rfl) rfl #[.agg #[.int .i64 a0_3,.int .i64 a0_4,.string a0_5,.string a0_6]] (by rfl) rfl rfl (by(try simp only[jq0,jq1,jq2]);first|done|rfl|(simp only[jq3,jq4];rfl)) ?_
        with_reducible refine(qwj.calls k a0_3 a0_4 a0_5 a0_6 t107 _ A10.out).mono ?_
        rintro e w18 ⟨rfl,hb⟩
        have HS7_:=(hb.cell (World.block_lt_of_cell? _ _ (hHeld.2.2.2.2.2.2.2))).trans (hHeld.2.2.2.2.2.2.2);refine⟨_,rfl,?_⟩;replace HO105:=O.mk (Kd.R_below (by solve_by_elim only[HO105.out,Kd.zk,Kd.zj,Kd.zv]) hb);replace BK101:=O.mk (kz (by solve_by_elim only[BK101.out,qv,qw,qk]) hb);replace HB:=O.mk (zq (by solve_by_elim (maxDepth:=20) only[HB.out,J,L,I,qj,GE101.out]) hb)
        (try clear hb)
        (try clear hb2)
        (try clear hk)
        (try clear hi)
        refine hK.out _ _ ⟨(qz BK101.out 0).trans rfl,(qz BK101.out 1).trans rfl,(qz BK101.out 2).trans rfl,(qz BK101.out 3).trans rfl,(qz BK101.out 4).trans rfl,(qz BK101.out 5).trans rfl,(qz BK101.out 6).trans rfl,HS7_⟩ (fun hHeld=>?_);clear hK K;refine norm_ (a':=?_) ?_ ?_;rotate_left
        ·show Act.put _ (some 18) _=_
         simp only[Act.put,jq5,jq6,jq7,i64_w,i32_w]
         rfl
        refine pure_ (i:=13) (N:=some 19) (v:=?_) (a':=?_) #[Z,Z,Z,Z,Z,Z,Z,Z,Z,Z,Z,Z,Z,Z,U] rfl rfl (any_of HT_.out (by kernel_rfl)) (fun _ _ _ h=>h) (Or.inl ⟨by rfl,?_⟩) ?_ ?_;rotate_left
        ·intro w'
         go_simp
         with_reducible rfl
        rotate_left
        ·simp only[Act.put,jq5,jq6,jq7,i64_w,i32_w]
         rfl
        refine pure_ (i:=14) (N:=some 2) (v:=?_) (a':=?_) #[Z,Z,Z,Z,Z,Z,Z,Z,Z,Z,Z,Z,Z,Z,Z] rfl rfl (any_of HT_.out (by kernel_rfl)) (fun _ _ _ h=>h) (Or.inl ⟨by rfl,?_⟩) ?_ ?_;rotate_left
        ·intro w'
         go_simp
         with_reducible rfl
        rotate_left
        ·simp only[Act.put,jq5,jq6,jq7,i64_w,i32_w]
         rfl
        refine done_ (done_of HT_.out (by kernel_rfl)) ?_;try go_wp2
        go_ret
        exact⟨by first|rfl|(simp[*,zx,zw] <;> rfl),by solve_by_elim (maxDepth:=20) only[HB.out,J,L,I,qj,GE101.out]⟩
       ·rw[if_neg c11] at H;exact absurd H (by simp)
      ·rw[if_neg c9] at H;exact absurd H (by simp)
     ·rw[if_neg c8] at H;exact absurd H (by simp)
    ·rw[if_neg c7] at H;exact absurd H (by simp)
   ·rw[if_neg c6] at H;exact absurd H (by simp)
  ·rw[if_neg c4] at H;exact absurd H (by simp)
 ·replace c3:=jq9.mpr c3;subst c3;have H1:(some (⟨#[]⟩ : ByteArray))=some r:=by rw[if_neg (show ¬ (false=true) by decide)] at H;exact H
  clear H;have H:=H1;clear H1;obtain rfl:=Option.some.inj H;go_enter Tryz.func7,Tryz.ntmps7;go_wp2_with (first|((with_reducible refine gate_dst (N:=1) rfl ?_);refine box_event ?hg (N:=1) ?hd (cs:=#[.string a0_0,.int .i64 a0_1,.string a0_2,.int .i64 a0_3,.int .i64 a0_4,.string a0_5,.string a0_6]) (t:=30) ?hr ?_;(case hd=>rfl);(case hg=>rfl);(case hr=>first|(go_simp;done)|(go_simp;rfl));intro gb101 hg w19 hbox hb;have BK101:=O.mk (hbox);have GW101:=O.mk ((by rw[hg];exact(zz (by solve_by_elim only[HB.out,J,L,I])):w.heap.size≤gb101));have GE101:=GW101;replace HB:=O.mk (zq (by solve_by_elim only[HB.out,J,L,I]) hb);clear hb hbox hg;obtain⟨y20_0,y20_1,y20_2,y20_3,y20_4,y20_5,y20_6,z20_0,z20_1,z20_2,z20_3,z20_4,z20_5,z20_6⟩:=bx7f BK101.out)|((with_reducible refine jq (f:=20) rfl ?_);refine goesL_ (some 4) rfl rfl Tryz.func20 (by kernel_rfl) rfl #[.agg #[.string a0_0,.int .i64 a0_1,.string a0_2,.int .i64 a0_3,.int .i64 a0_4,.string a0_5,.string a0_6]] rfl (by(try simp only[jq0,jq1,jq2]);first|done|rfl|(simp only[jq3,jq4];rfl)) ?_;(with_reducible refine(qvq.calls k a0_0 a0_1 a0_2 a0_3 a0_4 a0_5 a0_6 false _ A2.out).mono ?_);rintro e w21 ⟨rfl,hb⟩;refine⟨_,rfl,?_⟩;replace BK101:=O.mk (kz (by solve_by_elim only[BK101.out,qv,qw,qk]) hb);replace HB:=O.mk (zq (by solve_by_elim (maxDepth:=20) only[HB.out,J,L,I,qj,GE101.out]) hb);(try clear hb)))
  go_ret
  exact⟨by first|rfl|(simp[*,zx,zw] <;> rfl),by solve_by_elim (maxDepth:=20) only[HB.out,J,L,I,qj,GE101.out]⟩
def qwx.l0:Nat→List Int→Int→List Int→Int→Option (List Int)
 | 0,_,_,_,_=>none
 | k + 1,x0,x1,x4,x5=>if x5 < 4 then(if 0≤x5 then(if x5 < (x0.length:Int) then(if x5 < (x4.length:Int) then(if 0≤(Int.tmod (wrap64 (x5 + 1)) 4) then(if (Int.tmod (wrap64 (x5 + 1)) 4) < (x0.length:Int) then(qwx.l0 k (x0.set (x5:Int).toNat (Int.tmod (wrap64 ((wrap64 ((wrap64 ((wrap64 ((rd x0 x5) * (rd x4 x5))) + x1)) + 1)) + (rd x0 (Int.tmod (wrap64 (x5 + 1)) 4)))) 2147483579)) x1 x4 (wrap64 (x5 + 1))) else(none)) else(none)) else(none)) else(none)) else(none)) else(some x0)
def qwx.f (k:Nat) (l0:List Int) (a1:Int):Option (List Int):=qwx.l0 k l0 a1 (([1103515245,69069,1664525,22695477]:List Int)) 0
def qwx.T4:Bool × List (List Nat × List Nat):=(true,[([],[]),([],[]),([],[]),([],[]),([2,3],[2,3]),([4],[4]),([],[]),([],[]),([6,7],[6,7]),([8],[8]),([5,9],[5,9]),([],[]),([10,11],[10,11]),([12],[12]),([],[]),([],[]),([15],[15]),([16],[16]),([14,17],[14,17]),([18],[18]),([13,19],[13,19]),([20],[20]),([0,1,0,1,2,3,4,5,6,7,8,9,10,11,12,13,14,15,16,17,18,19,20,21],[0,1]),([22,21,0,1,2,3,4,5,6,7,8,9,10,11,12,13,14,15,16,17,18,19,20,21],[21,22])])
def qwx.B4:List Nat:=[0,0,0,0,12,28,0,0,192,448,1020,0,4092,8188,0,0,32768,98304,245760,507904,1048572,2097148,4194303,8388607]
theorem qwx.tab4:rtab .any (opsOf Tryz.f85 4)=qwx.T4:=by kernel_rfl
theorem qwx.bits4:waitsOk qwx.T4.2 qwx.B4=true:=by kernel_rfl
theorem qwx.calls (k:Nat) (P0_:Nat→Prop) (u9000_:Value) (l0:List Int) (a1:Int) (r:List Int) (w0 w:World) (hB:Below w0.heap.size w0 w) (ho0:Kd.R (Kd.int .i64) 3 w w0.heap.size P0_ u9000_ l0) (h:qwx.f k l0 a1=some r) :
  Calls Tryz.prog 85 #[u9000_,.int .i64 a1] w fun e w'=>e=.returned (.tuple #[])∧Kd.R (Kd.int .i64) 3 w' w0.heap.size (fun k_=>(P0_ k_∨w.heap.size≤k_)) u9000_ r∧Below w0.heap.size w0 w'∧jk w w' (fun k_=>P0_ k_):=by
 have HO0:=O.mk (show Kd.R (Kd.int .i64) 3 w w0.heap.size (fun k_=>(P0_ k_∨w.heap.size≤k_)) u9000_ l0 from Kd.R_mono ho0 (fun k_ hk=>(.inl hk)));have HK:=O.mk (jk.refl w (fun k_=>P0_ k_));have HW0:=O.mk hB.size;have HB:=O.mk hB;clear hB;have H:(qwx.l0 k l0 a1 (([1103515245,69069,1664525,22695477]:List Int)) 0)=some r:=h;clear h;obtain⟨y101,hy101⟩ : ∃ y_:List Int,y_=(([1103515245,69069,1664525,22695477]:List Int)):=⟨_,rfl⟩;replace H:(qwx.l0 k l0 a1 y101 0)=some r:=by first|(rw[hy101];with_reducible exact H)|(have H2_:=(Option.bind_some _ _).symm.trans H;rw[hy101];with_reducible exact H2_)|(have H2_:=(Option.bind_some _ _).symm.trans H;with_reducible exact H2_)|with_reducible exact H|(rw[hy101];exact H)|exact H
 have Ny101:=O.mk hy101;clear hy101;have H':=O.mk H;clear H;go_enter Tryz.func85,Tryz.ntmps85;go_wp2_with (first|((with_reducible refine gate_dst (N:=6) rfl ?_);refine Kd.R_lit (Kd.int .i64) _ 3 ?hg (N:=6) ?hd (xs:=([1103515245,69069,1664525,22695477]:List Int)) (inner:=[.int .i64 1103515245,.int .i64 69069,.int .i64 1664525,.int .i64 22695477]) (ok:=fun _=>True) (okp:=fun _=>True) ?hr ?hp (fun _ hk=>hk) trivial (Below.refl _ _) (Nat.le_refl _) (by simp) ?_;(case hd=>rfl);(case hg=>rfl);(case hr=>first|(go_simp;done)|(go_simp;rfl));(case hp=>exact(Reps.one (show Kd.M (Kd.int .i64) _ _ _ 1103515245 [.int .i64 1103515245] from rfl) (Reps.one (show Kd.M (Kd.int .i64) _ _ _ 69069 [.int .i64 69069] from rfl) (Reps.one (show Kd.M (Kd.int .i64) _ _ _ 1664525 [.int .i64 1664525] from rfl) (Reps.one (show Kd.M (Kd.int .i64) _ _ _ 22695477 [.int .i64 22695477] from rfl) (Reps.none _ _))))));intro v102 w3 ho4 hb hg_ hnew_;clear hg_ hnew_;(first|rw[← Ny101.out] at ho4|(simp only[Int.reduceToNat] at ho4;rw[← Ny101.out] at ho4));have HO103:=O.mk (Kd.R_lower (Kd.R_new' (Kd.R_newM (M:=fun k_=>(P0_ k_∨w.heap.size≤k_)) ho4 (by first|exact HK.out.1|exact(show jk w _ (fun k_=>P0_ k_) from by solve_by_elim only[HK.out,jk.alloc,jk.drewN,jk.drew]).1) (fun k_ h_=>.inr h_)) (Kd.R_lt (by solve_by_elim only[HO0.out,Kd.zk,Kd.zj,Kd.zv]))) (zz (by solve_by_elim only[HB.out,J,L,I])));replace HO0:=O.mk (Kd.R_elder' (by solve_by_elim only[HO0.out,Kd.zk,Kd.zj,Kd.zv]) (Kd.R_base ho4) hb);replace HK:=O.mk (jk.below (S:=(fun k_=>P0_ k_)) (by solve_by_elim only[HK.out,jk.alloc,jk.drewN,jk.drew]) hb);replace HB:=O.mk (zq (by solve_by_elim only[HB.out,J,L,I]) hb);clear hb ho4))
 go_loopg [5] k (fun kq v5 w'=>∃ (x0_1:List Int) (x5_1:Int),v5=.int .i64 x5_1∧O (qwx.l0 kq x0_1 a1 y101 x5_1=some r)∧O (kq≤k)∧O (Kd.R (Kd.int .i64) 3 w' w0.heap.size (fun k_=>(P0_ k_∨w.heap.size≤k_)∧some k_≠(v102:Value).ownBlock) u9000_ x0_1)∧O (Kd.R (Kd.int .i64) 3 w' w0.heap.size (fun k_=>(P0_ k_∨w.heap.size≤k_)∧some k_≠(u9000_:Value).ownBlock) v102 y101)∧O (jk w w' (fun k_=>P0_ k_))∧O (Below w0.heap.size w0 w'))
 case atStart=>exact⟨(l0),(0),(by first|rfl|(simp;done)|(simp[*];done)),H',⟨Nat.le_refl _⟩,⟨by(with_reducible repeat(first|apply Kd.zk|apply Kd.zj|apply Kd.zv));exact HO0.out⟩,⟨by(with_reducible repeat(first|apply Kd.zk|apply Kd.zj|apply Kd.zv));exact Kd.R_mono HO103.out (fun _ hk=>⟨hk.1.1,hk.2⟩)⟩,⟨by solve_by_elim only[HK.out,jk.alloc,jk.drewN,jk.drew]⟩,⟨by solve_by_elim only[HB.out,J,L,I]⟩⟩
 case round =>
  clear H';try clear p2
  obtain⟨x0_1,x5_1,rfl,HA,HK1,HO_0,HO_4,HK,HB⟩:=hrel
  cases gk with
  | zero=>exact absurd HA.out (by simp[qwx.l0])
  | succ k1 =>
   have H:=HA.out;clear HA;simp only[qwx.l0] at H
   by_cases c5:x5_1 < 4
   ·rw[if_pos c5] at H;have c5b0:decide (x5_1 < 4)=true:=decide_eq_true c5;clear c5
    by_cases c6 : 0≤x5_1
    ·rw[if_pos c6] at H;have c6b0:decide (0≤x5_1)=true:=decide_eq_true c6;clear c6
     by_cases c7:x5_1 < (x0_1.length:Int)
     ·rw[if_pos c7] at H;have c7b0:decide (x5_1 < (x0_1.length:Int))=true:=decide_eq_true c7;clear c7
      by_cases c8:x5_1 < (y101.length:Int)
      ·rw[if_pos c8] at H;have c8b0:decide (x5_1 < (y101.length:Int))=true:=decide_eq_true c8;clear c8;obtain⟨ji9,hji9⟩ : ∃ j_:Int,(Int.tmod (wrap64 (x5_1 + 1)) 4)=j_:=⟨_,rfl⟩;replace H:(if 0≤(ji9) then(if (ji9) < (x0_1.length:Int) then(qwx.l0 k1 (x0_1.set (x5_1:Int).toNat (Int.tmod (wrap64 ((wrap64 ((wrap64 ((wrap64 ((rd x0_1 x5_1) * (rd y101 x5_1))) + a1)) + 1)) + (rd x0_1 (ji9)))) 2147483579)) a1 y101 (wrap64 (x5_1 + 1))) else(none)) else(none))=some r:=by first|(rw[hji9] at H;exact H)|(simp only[hji9] at H ⊢;exact H)
       by_cases c10 : 0≤(ji9)
       ·rw[if_pos c10] at H;have c10b0:decide (0≤(ji9))=true:=decide_eq_true c10;clear c10
        by_cases c11:(ji9) < (x0_1.length:Int)
        ·rw[if_pos c11] at H;have c11b0:decide ((ji9) < (x0_1.length:Int))=true:=decide_eq_true c11;clear c11;obtain⟨y107,hy107⟩ : ∃ y_:List Int,y_=(x0_1.set (x5_1:Int).toNat (Int.tmod (wrap64 ((wrap64 ((wrap64 ((wrap64 ((rd x0_1 x5_1) * (rd y101 x5_1))) + a1)) + 1)) + (rd x0_1 (ji9)))) 2147483579)):=⟨_,rfl⟩;replace H:(qwx.l0 k1 y107 a1 y101 (wrap64 (x5_1 + 1)))=some r:=by first|(rw[hy107];with_reducible exact H)|(have H2_:=(Option.bind_some _ _).symm.trans H;rw[hy107];with_reducible exact H2_)|(have H2_:=(Option.bind_some _ _).symm.trans H;with_reducible exact H2_)|with_reducible exact H|(rw[hy107];exact H)|exact H
         have Ny107:=O.mk hy107;clear hy107;have H':=O.mk H;clear H;try go_wp2
         replace HO_0:=O.mk (Kd.zv HO_0.out);replace HO_4:=O.mk (Kd.zv HO_4.out);replace HK:=O.mk (jk.drew HK.out);replace HB:=O.mk (I HB.out);obtain⟨Ao14,co14,eo14⟩:=Kd.R_slice HO_0.out
         (first|subst eo14|(injection eo14 with f1_ f2_ f3_;have f4_:=f1_.symm;have f5_:=f3_.symm;clear f1_ f2_ f3_;subst f4_;subst f5_))
         have p104 : 0≤(x5_1:Int):=of_decide_eq_true (by assumption);have q104:x5_1 < (x0_1.length:Int):=of_decide_eq_true (by assumption);obtain⟨ad104,e104,hx104_0⟩:=Kd.at_int (Kd.R_reads' HO_0.out).2.2 x5_1 p104 q104
         cases e104
         replace p104:=eq_true p104;replace q104:=eq_true q104;obtain⟨Ao15,co15,eo15⟩:=Kd.R_slice HO_4.out
         (first|subst eo15|(injection eo15 with f1_ f2_ f3_;have f4_:=f1_.symm;have f5_:=f3_.symm;clear f1_ f2_ f3_;subst f4_;subst f5_))
         have p105 : 0≤(x5_1:Int):=of_decide_eq_true (by assumption);have q105:x5_1 < (y101.length:Int):=of_decide_eq_true (by assumption);obtain⟨ad105,e105,hx105_0⟩:=Kd.at_int (Kd.R_reads' HO_4.out).2.2 x5_1 p105 q105
         cases e105
         replace p105:=eq_true p105;replace q105:=eq_true q105;have p106 : 0≤((ji9):Int):=of_decide_eq_true (by assumption);have q106:(ji9) < (x0_1.length:Int):=of_decide_eq_true (by assumption);obtain⟨ad106,e106,hx106_0⟩:=Kd.at_int (Kd.R_reads' HO_0.out).2.2 (ji9) p106 q106;obtain rfl:ad104=ad106:=(by injection e106);replace p106:=eq_true p106;replace q106:=eq_true q106;have p12 : 0≤(x5_1:Int):=of_decide_eq_true (by assumption);have q12:(x5_1:Int) < ((x0_1.length:Int):Int):=of_decide_eq_true (by assumption);obtain⟨go12,co12,eo12,gb12,gl12,cl12,HG12⟩:=Kd.R_form HO_0.out (by omega)
         (first|cases eo12|(injection eo12 with ea_ en_ ec_;(first|subst ea_|(injection ea_ with ea_;subst ea_));subst ec_;clear en_))
         have GB12:=O.mk gb12;have GG12:=O.mk HG12;clear gb12 gl12 HG12;have HMgo12:=O.mk (show(P0_ go12∨w.heap.size≤go12) from(HO_0.out.1 _ rfl).1)
         (first|simp only[add_plain] at hx104_0|skip)
         (first|simp only[add_plain] at hx106_0|skip)
         obtain⟨hx12_0,hf12_0⟩:=Kd.R_celln 0 HO_0.out (x5_1:Int) p12 q12;replace p12:=eq_true p12;replace q12:=eq_true q12;have HP16:=Kd.R_putn HO_0.out (x5_1:Int) (Int.tmod (wrap64 ((wrap64 ((wrap64 ((wrap64 ((rd x0_1 x5_1) * (rd y101 x5_1))) + a1)) + 1)) + (rd x0_1 (ji9)))) 2147483579);rw[← Ny107.out] at HP16;have HQ16:=O.mk HP16;clear HP16;refine start_ (n:=24) (S:=fun w'=>w'.cell? ⟨go12,(x5_1).toNat,none⟩ = some (.int .i64 (rd x0_1 x5_1))∧w'.cell? (ad105.add (x5_1).toNat)=some (.int .i64 (rd y101 x5_1))∧w'.cell? ⟨go12,((ji9)).toNat,none⟩ = some (.int .i64 (rd x0_1 (ji9)))) (ds:=[23]) #[U,U,U,U,U,U,U,U,U,U,U,U,U,U,U,U,U,U,U,U,U,U,U,U] (by kernel_rfl) rfl rfl ⟨hx104_0,hx105_0,hx106_0⟩ (fun hHeld=>?_);refine with_tabW qwx.tab4 qwx.bits4 (fun HT_ HW_=>?_)
         generalize wr.drew=w13 at HO_0 HO_4 HK HB GG12 HQ16 hf12_0 hx104_0 hx105_0 hx106_0 hx12_0 hHeld ⊢;refine pure_ (i:=0) (N:=some 11) (v:=?_) (a':=?_) #[Z,U,U,U,U,U,U,U,U,U,U,U,U,U,U,U,U,U,U,U,U,U,U,U] rfl rfl (any_of HT_.out (by kernel_rfl)) (fun _ _ _ h=>h) (Or.inl ⟨by rfl,?_⟩) ?_ ?_;rotate_left
         ·intro w'
          go_simp
          with_reducible rfl
         rotate_left
         ·simp only[Act.put,jq5,jq6,jq7,i64_w,i32_w]
          rfl
         refine pure_ (i:=1) (N:=some 12) (v:=?_) (a':=?_) #[Z,Z,U,U,U,U,U,U,U,U,U,U,U,U,U,U,U,U,U,U,U,U,U,U] rfl rfl (any_of HT_.out (by kernel_rfl)) (fun _ _ _ h=>h) (Or.inl ⟨by rfl,?_⟩) ?_ ?_;rotate_left
         ·intro w'
          go_simp
          with_reducible rfl
         rotate_left
         ·simp only[Act.put,jq5,jq6,jq7,i64_w,i32_w]
          rfl
         refine pure_ (i:=2) (N:=some 13) (v:=?_) (a':=?_) #[Z,Z,Z,U,U,U,U,U,U,U,U,U,U,U,U,U,U,U,U,U,U,U,U,U] rfl rfl (any_of HT_.out (by kernel_rfl)) (fun _ _ _ h=>h) (Or.inl ⟨by rfl,?_⟩) ?_ ?_;rotate_left
         ·intro w'
          go_simp
          with_reducible rfl
         rotate_left
         ·simp only[Act.put,jq5,jq6,jq7,i64_w,i32_w]
          rfl
         refine pure_ (i:=3) (N:=some 14) (v:=?_) (a':=?_) #[Z,Z,Z,Z,U,U,U,U,U,U,U,U,U,U,U,U,U,U,U,U,U,U,U,U] rfl rfl (any_of HT_.out (by kernel_rfl)) (fun _ _ _ h=>h) (Or.inl ⟨by rfl,?_⟩) ?_ ?_;rotate_left
         ·intro w'
          go_simp
          with_reducible rfl
         rotate_left
         ·simp only[Act.put,jq5,jq6,jq7,i64_w,i32_w]
          rfl
         refine pure_ (i:=4) (N:=some 15) (v:=?_) (a':=?_) #[Z,Z,Z,Z,Z,U,U,U,U,U,U,U,U,U,U,U,U,U,U,U,U,U,U,U] rfl rfl (any_of HT_.out (by kernel_rfl)) (fun _ _ _ h=>h) (Or.inl ⟨by rfl,?_⟩) ?_ ?_;rotate_left
         ·intro w'
          go_simp
          with_reducible rfl
         rotate_left
         ·simp only[Act.put,jq5,jq6,jq7,i64_w,i32_w]
          rfl
         refine pure_ (i:=6) (N:=some 17) (v:=?_) (a':=?_) #[Z,Z,Z,Z,Z,U,Z,U,U,U,U,U,U,U,U,U,U,U,U,U,U,U,U,U] rfl rfl (any_of HT_.out (by kernel_rfl)) (fun _ _ _ h=>h) (Or.inl ⟨by rfl,?_⟩) ?_ ?_;rotate_left
         ·intro w'
          go_simp
          with_reducible rfl
         rotate_left
         ·simp only[Act.put,jq5,jq6,jq7,i64_w,i32_w]
          rfl
         refine pure_ (i:=7) (N:=some 18) (v:=?_) (a':=?_) #[Z,Z,Z,Z,Z,U,Z,Z,U,U,U,U,U,U,U,U,U,U,U,U,U,U,U,U] rfl rfl (any_of HT_.out (by kernel_rfl)) (fun _ _ _ h=>h) (Or.inl ⟨by rfl,?_⟩) ?_ ?_;rotate_left
         ·intro w'
          go_simp
          with_reducible rfl
         rotate_left
         ·simp only[Act.put,jq5,jq6,jq7,i64_w,i32_w]
          rfl
         refine pure_ (i:=8) (N:=some 19) (v:=?_) (a':=?_) #[Z,Z,Z,Z,Z,U,Z,Z,Z,U,U,U,U,U,U,U,U,U,U,U,U,U,U,U] rfl rfl (any_of HT_.out (by kernel_rfl)) (fun _ _ _ h=>h) (Or.inl ⟨by rfl,?_⟩) ?_ ?_;rotate_left
         ·intro w'
          go_simp
          with_reducible rfl
         rotate_left
         ·simp only[Act.put,jq5,jq6,jq7,i64_w,i32_w]
          rfl
         refine pure_ (i:=11) (N:=some 22) (v:=?_) (a':=?_) #[Z,Z,Z,Z,Z,U,Z,Z,Z,U,U,Z,U,U,U,U,U,U,U,U,U,U,U,U] rfl rfl (any_of HT_.out (by kernel_rfl)) (fun _ _ _ h=>h) (Or.inl ⟨by rfl,?_⟩) ?_ ?_;rotate_left
         ·intro w'
          go_simp
          with_reducible rfl
         rotate_left
         ·simp only[Act.put,jq5,jq6,jq7,i64_w,i32_w]
          rfl
         refine pure_ (i:=14) (N:=some 25) (v:=?_) (a':=?_) #[Z,Z,Z,Z,Z,U,Z,Z,Z,U,U,Z,U,U,Z,U,U,U,U,U,U,U,U,U] rfl rfl (any_of HT_.out (by kernel_rfl)) (fun _ _ _ h=>h) (Or.inl ⟨by rfl,?_⟩) ?_ ?_;rotate_left
         ·intro w'
          go_simp
          with_reducible rfl
         rotate_left
         ·simp only[Act.put,jq5,jq6,jq7,i64_w,i32_w]
          rfl
         refine pure_ (i:=15) (N:=some 26) (v:=?_) (a':=?_) #[Z,Z,Z,Z,Z,U,Z,Z,Z,U,U,Z,U,U,Z,Z,U,U,U,U,U,U,U,U] rfl rfl (any_of HT_.out (by kernel_rfl)) (fun _ _ _ h=>h) (Or.inl ⟨by rfl,?_⟩) ?_ ?_;rotate_left
         ·intro w'
          go_simp
          with_reducible rfl
         rotate_left
         ·simp only[Act.put,jq5,jq6,jq7,i64_w,i32_w]
          rfl
         refine pure_ (i:=16) (N:=some 27) (v:=?_) (a':=?_) #[Z,Z,Z,Z,Z,U,Z,Z,Z,U,U,Z,U,U,Z,Z,Z,U,U,U,U,U,U,U] rfl rfl (any_of HT_.out (by kernel_rfl)) (fun _ _ _ h=>h) (Or.inl ⟨by rfl,?_⟩) ?_ ?_;rotate_left
         ·intro w'
          go_simp
          with_reducible rfl
         rotate_left
         ·simp only[Act.put,jq5,jq6,jq7,i64_w,i32_w]
          rfl
         refine pure_ (i:=17) (N:=some 28) (v:=?_) (a':=?_) #[Z,Z,Z,Z,Z,U,Z,Z,Z,U,U,Z,U,U,Z,Z,Z,Z,U,U,U,U,U,U] rfl rfl (any_of HT_.out (by kernel_rfl)) (fun _ _ _ h=>h) (Or.inl ⟨by rfl,?_⟩) ?_ ?_;rotate_left
         ·intro w'
          go_simp
          with_reducible rfl
         rotate_left
         ·simp only[Act.put,jq5,jq6,jq7,i64_w,i32_w]
          rfl
         refine pure_ (i:=18) (N:=some 29) (v:=?_) (a':=?_) #[Z,Z,Z,Z,Z,U,Z,Z,Z,U,U,Z,U,U,Z,Z,Z,Z,Z,U,U,U,U,U] rfl rfl (any_of HT_.out (by kernel_rfl)) (fun _ _ _ h=>h) (Or.inl ⟨by rfl,?_⟩) ?_ ?_;rotate_left
         ·intro w'
          go_simp
          with_reducible rfl
         rotate_left
         ·simp only[Act.put,jq5,jq6,jq7,i64_w,i32_w]
          rfl
         refine take_ (i:=5) (N:=some 16) (v:=?_) (a':=?_) #[Z,Z,Z,Z,Z,Z,Z,Z,Z,U,U,Z,U,U,Z,Z,Z,Z,Z,U,U,U,U,U] rfl rfl (take_ofW HT_.out HW_.out (by kernel_rfl)) (fun _ _ _ h=>h) (Or.inl ⟨by rfl,?_⟩) hHeld ?_ ?_;rotate_left
         ·rintro w' ⟨s0,s1,s2⟩
          go_simp
          with_reducible rfl
         rotate_left
         ·simp only[Act.put,jq5,jq6,jq7,i64_w,i32_w]
          rfl
         refine take_ (i:=9) (N:=some 20) (v:=?_) (a':=?_) #[Z,Z,Z,Z,Z,Z,Z,Z,Z,Z,U,Z,U,U,Z,Z,Z,Z,Z,U,U,U,U,U] rfl rfl (take_ofW HT_.out HW_.out (by kernel_rfl)) (fun _ _ _ h=>h) (Or.inl ⟨by rfl,?_⟩) hHeld ?_ ?_;rotate_left
         ·rintro w' ⟨s0,s1,s2⟩
          go_simp
          with_reducible rfl
         rotate_left
         ·simp only[Act.put,jq5,jq6,jq7,i64_w,i32_w]
          rfl
         refine pure_ (i:=10) (N:=some 21) (v:=?_) (a':=?_) #[Z,Z,Z,Z,Z,Z,Z,Z,Z,Z,Z,Z,U,U,Z,Z,Z,Z,Z,U,U,U,U,U] rfl rfl (any_of HT_.out (by kernel_rfl)) (fun _ _ _ h=>h) (Or.inl ⟨by rfl,?_⟩) ?_ ?_;rotate_left
         ·intro w'
          go_simp
          with_reducible rfl
         rotate_left
         ·simp only[Act.put,jq5,jq6,jq7,i64_w,i32_w]
          rfl
         refine pure_ (i:=12) (N:=some 23) (v:=?_) (a':=?_) #[Z,Z,Z,Z,Z,Z,Z,Z,Z,Z,Z,Z,Z,U,Z,Z,Z,Z,Z,U,U,U,U,U] rfl rfl (any_of HT_.out (by kernel_rfl)) (fun _ _ _ h=>h) (Or.inl ⟨by rfl,?_⟩) ?_ ?_;rotate_left
         ·intro w'
          go_simp
          with_reducible rfl
         rotate_left
         ·simp only[Act.put,jq5,jq6,jq7,i64_w,i32_w]
          rfl
         refine pure_ (i:=13) (N:=some 24) (v:=?_) (a':=?_) #[Z,Z,Z,Z,Z,Z,Z,Z,Z,Z,Z,Z,Z,Z,Z,Z,Z,Z,Z,U,U,U,U,U] rfl rfl (any_of HT_.out (by kernel_rfl)) (fun _ _ _ h=>h) (Or.inl ⟨by rfl,?_⟩) ?_ ?_;rotate_left
         ·intro w'
          go_simp
          with_reducible rfl
         rotate_left
         ·simp only[Act.put,jq5,jq6,jq7,i64_w,i32_w]
          rfl
         refine take_ (i:=19) (N:=some 30) (v:=?_) (a':=?_) #[Z,Z,Z,Z,Z,Z,Z,Z,Z,Z,Z,Z,Z,Z,Z,Z,Z,Z,Z,Z,U,U,U,U] rfl rfl (take_ofW HT_.out HW_.out (by kernel_rfl)) (fun _ _ _ h=>h) (Or.inl ⟨by rfl,?_⟩) hHeld ?_ ?_;rotate_left
         ·rintro w' ⟨s0,s1,s2⟩
          go_simp
          with_reducible rfl
         rotate_left
         ·simp only[Act.put,jq5,jq6,jq7,i64_w,i32_w]
          rfl
         refine pure_ (i:=20) (N:=some 31) (v:=?_) (a':=?_) #[Z,Z,Z,Z,Z,Z,Z,Z,Z,Z,Z,Z,Z,Z,Z,Z,Z,Z,Z,Z,Z,U,U,U] rfl rfl (any_of HT_.out (by kernel_rfl)) (fun _ _ _ h=>h) (Or.inl ⟨by rfl,?_⟩) ?_ ?_;rotate_left
         ·intro w'
          go_simp
          with_reducible rfl
         rotate_left
         ·simp only[Act.put,jq5,jq6,jq7,i64_w,i32_w]
          rfl
         refine pure_ (i:=21) (N:=some 32) (v:=?_) (a':=?_) #[Z,Z,Z,Z,Z,Z,Z,Z,Z,Z,Z,Z,Z,Z,Z,Z,Z,Z,Z,Z,Z,Z,U,U] rfl rfl (any_of HT_.out (by kernel_rfl)) (fun _ _ _ h=>h) (Or.inl ⟨by rfl,?_⟩) ?_ ?_;rotate_left
         ·intro w'
          go_simp
          with_reducible rfl
         rotate_left
         ·simp only[Act.put,jq5,jq6,jq7,i64_w,i32_w]
          rfl
         refine pure_ (i:=22) (N:=some 33) (v:=?_) (a':=?_) #[Z,Z,Z,Z,Z,Z,Z,Z,Z,Z,Z,Z,Z,Z,Z,Z,Z,Z,Z,Z,Z,Z,Z,U] rfl rfl (any_of HT_.out (by kernel_rfl)) (fun _ _ _ h=>h) (Or.inl ⟨by rfl,?_⟩) ?_ ?_;rotate_left
         ·intro w'
          go_simp
          with_reducible rfl
         rotate_left
         ·simp only[Act.put,jq5,jq6,jq7,i64_w,i32_w]
          rfl
         refine last_ (i:=23) (N:=none) #[Z,Z,Z,Z,Z,Z,Z,Z,Z,Z,Z,Z,Z,Z,Z,Z,Z,Z,Z,Z,Z,Z,Z,Z] rfl rfl (one_of HT_.out (by kernel_rfl)) (by decide) (fun K hK=>?_);refine skip_ (w1:=?_) (by rfl) rfl ?_ ?_;rotate_left
         ·go_simp
          rfl
         refine hK.out _ _ ?_;clear hK K;refine done_ (done_of HT_.out (by kernel_rfl)) ?_;try go_wp2
         go_roundg k1
         case measure=>have:=HK1.out;omega
         case rel=>exact⟨(y107),(wrap64 (x5_1 + 1)),(by first|rfl|(simp;done)|(simp[*];done)),H',⟨by have:=HK1.out;omega⟩,⟨by(with_reducible repeat(first|apply Kd.zk|apply Kd.zj|apply Kd.zv));exact HQ16.out⟩,⟨by(with_reducible repeat(first|apply Kd.zk|apply Kd.zj|apply Kd.zv));exact Kd.R_mono (Kd.R_far (p:=⟨go12,(x5_1:Int).toNat,none⟩) (Kd.R_mono HO_4.out (fun k_ hk=>(⟨hk,fun e_=>hk.2 (by rw[e_];rfl)⟩ : _∧k_≠go12))) (fun _ hk=>hk.2) (.int .i64 (Int.tmod (wrap64 ((wrap64 ((wrap64 ((wrap64 ((rd x0_1 x5_1) * (rd y101 x5_1))) + a1)) + 1)) + (rd x0_1 (ji9)))) 2147483579))) (fun _ hk=>⟨hk.1.1,hk.1.2⟩)⟩,⟨by solve_by_elim (maxDepth:=20) only[HK.out,jk.alloc,jk.drewN,jk.drew,jk.setCell,HMgo12.out]⟩,⟨by solve_by_elim (maxDepth:=20) only[HB.out,J,L,I,qj,GB12.out]⟩⟩
        ·rw[if_neg c11] at H;exact absurd H (by simp)
       ·rw[if_neg c10] at H;exact absurd H (by simp)
      ·rw[if_neg c8] at H;exact absurd H (by simp)
     ·rw[if_neg c7] at H;exact absurd H (by simp)
    ·rw[if_neg c6] at H;exact absurd H (by simp)
   ·rw[if_neg c5] at H;have c5b0:decide (x5_1 < 4)=false:=decide_eq_false c5;clear c5;obtain rfl:=Option.some.inj H;go_wp2
    first|go_end0|((try simp only[Exit.inBlock,Exit.then]);refine bodyPost_ret (results_none rfl _ _ _) rfl ?_)
    exact⟨by first|rfl|(simp[*,zx,zw] <;> rfl),by(with_reducible repeat(first|apply Kd.zk|apply Kd.zj|apply Kd.zv));exact Kd.R_mono HO_0.out (fun _ hk=>hk.1),by solve_by_elim only[HB.out,J,L,I],by solve_by_elim only[HK.out,jk.alloc,jk.drewN,jk.drew]⟩
def qwk.l0:Nat→Int→List Int→Int→Int→Option (List Int)
 | 0,_,_,_,_=>none
 | k + 1,x0,x3,x7,x8=>if x8 < x7 then(if 0≤x8 then(if x8 < (x3.length:Int) then(qwk.l0 k (wrap64 (Int.tdiv x0 256)) (x3.set (x8:Int).toNat ((Int.tmod x0 256) % 256)) x7 (wrap64 (x8 + 1))) else(none)) else(none)) else(some x3)
def qwk.f (k:Nat) (a0:Int):Option (List Int):=if 4≤281474976710656 then((some (List.replicate 4 0:List Int)).bind fun y101=>(qwk.l0 k a0 y101 (y101.length:Int) 0)) else(none)
theorem qwk.calls (k:Nat) (a0:Int) (r:List Int) (w:World) (h:qwk.f k a0=some r) :
  Calls Tryz.prog 86 #[.int .i64 a0] w fun e w'=>∃ v0_:Value,e=.returned (v0_)∧Kd.R (Kd.int .u8) 5 w' w.heap.size (fun _=>True) v0_ r∧Below w.heap.size w w':=by
 have HB:=O.mk (Below.refl w.heap.size w);unfold qwk.f at h;have H:=h;clear h
 by_cases c2 : 4≤281474976710656
 ·rw[if_pos c2] at H;have c2b0:=eq_true c2;have c2b1:decide (4≤281474976710656)=true:=decide_eq_true c2;clear c2;obtain⟨y101,hy101⟩ : ∃ y_:List Int,y_=(List.replicate 4 0):=⟨_,rfl⟩;replace H:(qwk.l0 k a0 y101 (y101.length:Int) 0)=some r:=by first|(rw[hy101];with_reducible exact H)|(have H2_:=(Option.bind_some _ _).symm.trans H;rw[hy101];with_reducible exact H2_)|(have H2_:=(Option.bind_some _ _).symm.trans H;with_reducible exact H2_)|with_reducible exact H|(rw[hy101];exact H)|exact H
  have Ny101:=O.mk hy101;clear hy101;have H':=O.mk H;clear H;go_enter Tryz.func86,Tryz.ntmps86;go_wp2_with (first|((with_reducible refine gate_dst (N:=5) rfl ?_);refine Kd.R_make (Kd.int .u8) _ 5 rfl (N:=5) rfl 34 _ _ rfl 4 rfl rfl Tryz.underlying34 (.int .u8 0) 1 info5 rfl (by decide) (by omega) 0 (ok:=fun _=>True) (okp:=fun _=>True) rfl (fun _ hk=>hk) trivial (by omega) (by omega) (Below.refl _ _) (Nat.le_refl _) ?_;intro v102 w3 ho4 hb hg_ hnew_;clear hg_ hnew_;(first|rw[← Ny101.out] at ho4|(simp only[Int.reduceToNat] at ho4;rw[← Ny101.out] at ho4));have HO103:=O.mk (Kd.R_lower ho4 (zz (by solve_by_elim only[HB.out,J,L,I])));replace HB:=O.mk (zq (by solve_by_elim only[HB.out,J,L,I]) hb);clear hb ho4;obtain⟨Ao5,co5,eo5⟩:=Kd.R_slice HO103.out;subst eo5))
  go_loopg [0,8] k (fun kq v0 v8 w'=>∃ (x0_1:Int) (x3_1:List Int) (x8_1:Int),v0=.int .i64 x0_1∧v8=.int .i64 x8_1∧O (qwk.l0 kq x0_1 x3_1 (y101.length:Int) x8_1=some r)∧O (kq≤k)∧O (Kd.R (Kd.int .u8) 5 w' w.heap.size (fun _=>True) (.slice Ao5 y101.length co5) x3_1)∧O (Below w.heap.size w w'))
  case atStart=>exact⟨(a0),(y101),(0),(by first|rfl|(simp;done)|(simp[*];done)),(by first|rfl|(simp;done)|(simp[*];done)),H',⟨Nat.le_refl _⟩,⟨by(with_reducible repeat(first|apply Kd.zk|apply Kd.zj|apply Kd.zv));exact HO103.out⟩,⟨by solve_by_elim only[HB.out,J,L,I]⟩⟩
  case round =>
   clear H';try clear c2
   try clear c2b0
   try clear c2b1
   try clear p2
   obtain⟨x0_1,x3_1,x8_1,rfl,rfl,HA,HK1,HO_3,HB⟩:=hrel;have hl3_1:=(Kd.R_reads' HO_3.out).1;rw[hl3_1] at HO_3
   (try simp only[hl3_1])
   cases gk with
   | zero=>exact absurd HA.out (by simp[qwk.l0])
   | succ k1 =>
    have H:=HA.out;clear HA;simp only[qwk.l0] at H
    by_cases c6:x8_1 < (y101.length:Int)
    ·rw[if_pos c6] at H;have c6b0:decide (x8_1 < (y101.length:Int))=true:=decide_eq_true c6;clear c6
     by_cases c7 : 0≤x8_1
     ·rw[if_pos c7] at H;have c7b0:decide (0≤x8_1)=true:=decide_eq_true c7;clear c7
      by_cases c8:x8_1 < (x3_1.length:Int)
      ·rw[if_pos c8] at H;have c8b0:decide (x8_1 < (x3_1.length:Int))=true:=decide_eq_true c8;clear c8;obtain⟨y104,hy104⟩ : ∃ y_:List Int,y_=(x3_1.set (x8_1:Int).toNat ((Int.tmod x0_1 256) % 256)):=⟨_,rfl⟩;replace H:(qwk.l0 k1 (wrap64 (Int.tdiv x0_1 256)) y104 (y101.length:Int) (wrap64 (x8_1 + 1)))=some r:=by first|(rw[hy104];with_reducible exact H)|(have H2_:=(Option.bind_some _ _).symm.trans H;rw[hy104];with_reducible exact H2_)|(have H2_:=(Option.bind_some _ _).symm.trans H;with_reducible exact H2_)|with_reducible exact H|(rw[hy104];exact H)|exact H
       have Ny104:=O.mk hy104;clear hy104;have H':=O.mk H;clear H;have p9 : 0≤(x8_1:Int):=of_decide_eq_true (by assumption);have q9:(x8_1:Int) < ((x3_1.length:Int):Int):=of_decide_eq_true (by assumption);obtain⟨go9,co9,eo9,gb9,gl9,cl9,HG9⟩:=Kd.R_form HO_3.out (by omega)
       (first|cases eo9|(injection eo9 with ea_ en_ ec_;(first|subst ea_|(injection ea_ with ea_;subst ea_));subst ec_;clear en_))
       have GB9:=O.mk gb9;have GG9:=O.mk HG9;clear gb9 gl9 HG9;obtain⟨hx9_0,hf9_0⟩:=Kd.R_celln 0 HO_3.out (x8_1:Int) p9 q9;replace p9:=eq_true p9;replace q9:=eq_true q9;have HP10:=Kd.R_putg HO_3.out (x8_1:Int) ((Int.tmod x0_1 256) % 256);go_wp2_with (first|((with_reducible refine jz (t:=5) (p:=16) rfl ?_);refine jj (t:=5) (p:=16) (v:=?vo_w11) (w1:=(wr.setCell ⟨go9,(x8_1:Int).toNat,none⟩ (.int .u8 ((Int.tmod x0_1 256) % 256)))) ?hg ?ho ?hn ?hr ?_;(case ho=>rfl);(case hg=>rfl);(case hn=>rfl);(case hr=>first|(go_simp;done)|(go_simp;rfl));intro w11 hw;have hg:wr.grownBy w11 (some go9):=(by rw[hw];exact HP10.2);have hp_:Kd.R (Kd.int .u8) 5 w11 w.heap.size (fun _=>True) (.slice (some ⟨go9,0,none⟩) x3_1.length co5) y104:=(by rw[hw,Ny104.out];exact HP10.1);clear HP10;replace HO_3:=O.mk (hp_);replace HB:=O.mk ((by rw[hw];exact qj (HB.out) GB9.out:Below w.heap.size w w11));clear hg hw hp_))
       (try simp only[← hl3_1])
       go_roundg k1
       case measure=>have:=HK1.out;omega
       case rel=>exact⟨(wrap64 (Int.tdiv x0_1 256)),(y104),(wrap64 (x8_1 + 1)),(by first|rfl|(simp;done)|(simp[*];done)),(by first|rfl|(simp;done)|(simp[*];done)),H',⟨by have:=HK1.out;omega⟩,⟨by(try simp only[hl3_1]);(with_reducible repeat(first|apply Kd.zk|apply Kd.zj|apply Kd.zv));exact HO_3.out⟩,⟨by solve_by_elim only[HB.out,J,L,I]⟩⟩
      ·rw[if_neg c8] at H;exact absurd H (by simp)
     ·rw[if_neg c7] at H;exact absurd H (by simp)
    ·rw[if_neg c6] at H;have c6b0:decide (x8_1 < (y101.length:Int))=false:=decide_eq_false c6;rw[hl3_1] at c6b0;clear c6;obtain rfl:=Option.some.inj H;go_wp2;go_ret
     exact⟨_,by first|rfl|(simp[*,zx,zw] <;> rfl),by(with_reducible repeat(first|apply Kd.zk|apply Kd.zj|apply Kd.zv));exact HO_3.out,by solve_by_elim only[HB.out,J,L,I]⟩
 ·rw[if_neg c2] at H;exact absurd H (by simp)
mutual
def qwv.l0:Nat→List Int→List Int→List Int→Int→Int→Option (List Int)
 | 0,_,_,_,_,_=>none
 | k + 1,x0,x3,x13,x14,x15=>if x15 < x14 then(if 0≤x15 then(if x15 < (x13.length:Int) then((qwx.f k x3 (wrap64 (rd x13 x15))).bind fun t105=>(qwv.l0 k x0 t105 x13 x14 (wrap64 (x15 + 1)))) else(none)) else(none)) else((qwk.f k (x0.length:Int)).bind fun t106=>(qwv.l1 k x3 t106 (t106.length:Int) 0))
def qwv.l1:Nat→List Int→List Int→Int→Int→Option (List Int)
 | 0,_,_,_,_=>none
 | k + 1,x3,x26,x27,x28=>if x28 < x27 then(if 0≤x28 then(if x28 < (x26.length:Int) then((qwx.f k x3 (wrap64 (rd x26 x28))).bind fun t110=>(qwv.l1 k t110 x26 x27 (wrap64 (x28 + 1)))) else(none)) else(none)) else(qwv.l2 k x3 0)
def qwv.l2:Nat→List Int→Int→Option (List Int)
 | 0,_,_=>none
 | k + 1,x3,x8=>if x8 < 8 then((qwx.f k x3 0).bind fun t111=>(qwv.l2 k t111 (wrap64 (x8 + 1)))) else(qwv.l3 k ([]:List Int) x3 (x3.length:Int) 0)
def qwv.l3:Nat→List Int→List Int→Int→Int→Option (List Int)
 | 0,_,_,_,_=>none
 | k + 1,x9,x43,x44,x45=>if x45 < x44 then(if 0≤x45 then(if x45 < (x43.length:Int) then((qwk.f k (rd x43 x45)).bind fun t113=>(if x9.length + t113.length < 140737488355328 then(qwv.l3 k (x9 ++ t113) x43 x44 (wrap64 (x45 + 1))) else(none))) else(none)) else(none)) else(some x9)
end
def qwv.f (k:Nat) (l0:List Int):Option (List Int):=qwv.l0 k l0 (([11,22,33,44]:List Int)) l0 (l0.length:Int) 0
theorem qwv.calls (k:Nat) (A0:Option Addr) (c0:Nat) (l0:List Int) (r:List Int) (w:World) (hr0:Kd.C (Kd.int .u8) w A0 l0.length l0) (hc0:l0.length≤c0) (h:qwv.f k l0=some r) :
  Calls Tryz.prog 67 #[.slice A0 l0.length c0] w fun e w'=>∃ v0_:Value,e=.returned (v0_)∧Kd.R (Kd.int .u8) 5 w' w.heap.size (fun _=>True) v0_ r∧Below w.heap.size w w':=by
 have HR0:=O.mk hr0;have HC0:=O.mk hc0;clear hr0 hc0;have HB:=O.mk (Below.refl w.heap.size w);have H:(qwv.l0 k l0 (([11,22,33,44]:List Int)) l0 (l0.length:Int) 0)=some r:=h;clear h;obtain⟨y101,hy101⟩ : ∃ y_:List Int,y_=(([11,22,33,44]:List Int)):=⟨_,rfl⟩;replace H:(qwv.l0 k l0 y101 l0 (l0.length:Int) 0)=some r:=by first|(rw[hy101];with_reducible exact H)|(have H2_:=(Option.bind_some _ _).symm.trans H;rw[hy101];with_reducible exact H2_)|(have H2_:=(Option.bind_some _ _).symm.trans H;with_reducible exact H2_)|with_reducible exact H|(rw[hy101];exact H)|exact H
 have Ny101:=O.mk hy101;clear hy101;have H':=O.mk H;clear H;go_enter Tryz.func67,Tryz.ntmps67;go_wp2_with (first|((with_reducible refine gate_dst (N:=12) rfl ?_);refine Kd.R_lit (Kd.int .i64) _ 3 ?hg (N:=12) ?hd (xs:=([11,22,33,44]:List Int)) (inner:=[.int .i64 11,.int .i64 22,.int .i64 33,.int .i64 44]) (ok:=fun _=>True) (okp:=fun _=>True) ?hr ?hp (fun _ hk=>hk) trivial (Below.refl _ _) (Nat.le_refl _) (by simp) ?_;(case hd=>rfl);(case hg=>rfl);(case hr=>first|(go_simp;done)|(go_simp;rfl));(case hp=>exact(Reps.one (show Kd.M (Kd.int .i64) _ _ _ 11 [.int .i64 11] from rfl) (Reps.one (show Kd.M (Kd.int .i64) _ _ _ 22 [.int .i64 22] from rfl) (Reps.one (show Kd.M (Kd.int .i64) _ _ _ 33 [.int .i64 33] from rfl) (Reps.one (show Kd.M (Kd.int .i64) _ _ _ 44 [.int .i64 44] from rfl) (Reps.none _ _))))));intro v102 w2 ho3 hb hg_ hnew_;clear hg_ hnew_;(first|rw[← Ny101.out] at ho3|(simp only[Int.reduceToNat] at ho3;rw[← Ny101.out] at ho3));have HO103:=O.mk (Kd.R_lower ho3 (zz (by solve_by_elim only[HB.out,J,L,I])));replace HB:=O.mk (zq (by solve_by_elim only[HB.out,J,L,I]) hb);clear hb ho3))
 go_loopg [15] k (fun kq v15 w'=>∃ (x3_1:List Int) (x15_1:Int),v15=.int .i64 x15_1∧O (qwv.l0 kq l0 x3_1 l0 (l0.length:Int) x15_1=some r)∧O (kq≤k)∧O (Kd.R (Kd.int .i64) 3 w' w.heap.size (fun _=>True) v102 x3_1)∧O (Below w.heap.size w w'))
 case atStart=>exact⟨(y101),(0),(by first|rfl|(simp;done)|(simp[*];done)),H',⟨Nat.le_refl _⟩,⟨by(with_reducible repeat(first|apply Kd.zk|apply Kd.zj|apply Kd.zv));exact HO103.out⟩,⟨by solve_by_elim only[HB.out,J,L,I]⟩⟩
 case round =>
  clear H';try clear p2
  obtain⟨x3_1,x15_1,rfl,HA,HK1,HO_3,HB⟩:=hrel
  cases gk with
  | zero=>exact absurd HA.out (by simp[qwv.l0])
  | succ k1 =>
   have H:=HA.out;clear HA;simp only[qwv.l0] at H
   by_cases c4:x15_1 < (l0.length:Int)
   ·rw[if_pos c4] at H;have c4b0:decide (x15_1 < (l0.length:Int))=true:=decide_eq_true c4;clear c4
    by_cases c5 : 0≤x15_1
    ·rw[if_pos c5] at H;have c5b0:decide (0≤x15_1)=true:=decide_eq_true c5;clear c5
     by_cases c6:x15_1 < (l0.length:Int)
     ·rw[if_pos c6] at H;have c6b0:decide (x15_1 < (l0.length:Int))=true:=decide_eq_true c6;clear c6;replace H:=jq8.mp H;obtain⟨t105,A70,H⟩:=H;try dsimp only at H
      have A7:=O.mk A70;clear A70;have H':=O.mk H;clear H;have p104 : 0≤(x15_1:Int):=of_decide_eq_true (by assumption);have q104:x15_1 < (l0.length:Int):=of_decide_eq_true (by assumption);obtain⟨ad104,e104,hx104_0⟩:=Kd.at_int HR0.out x15_1 p104 q104
      cases e104
      replace hx104_0:=(HB.out.cell (World.block_lt_of_cell? w _ hx104_0)).trans hx104_0;replace p104:=eq_true p104;replace q104:=eq_true q104;obtain⟨Ao8,co8,eo8⟩:=Kd.R_slice HO_3.out;subst eo8;go_wp2_with (first|((with_reducible refine jq (f:=85) rfl ?_);refine goesL_ (some 22) rfl rfl Tryz.func85 (by kernel_rfl) rfl #[.slice Ao8 x3_1.length co8,.int .i64 (wrap64 (rd l0 x15_1))] rfl (by(try simp only[jq0,jq1,jq2]);first|done|rfl|(simp only[jq3,jq4];rfl)) ?_;(with_reducible refine(qwx.calls k1 (fun k_=>some k_=(.slice Ao8 x3_1.length co8:Value).ownBlock) (.slice Ao8 x3_1.length co8) x3_1 (wrap64 (rd l0 x15_1)) t105 w _ ?side1 ?side2 A7.out).mono ?_);(case side1=>repeat(first|(with_reducible first|exact HB.out|apply J|apply L|apply I)|exact HB.out));(case side2=>exact Kd.R_tight rfl HO_3.out);rintro e w9 ⟨rfl,hy0,hb,hkp⟩;refine⟨_,rfl,?_⟩;replace HO_3:=O.mk (Kd.R_reok rfl hy0 (fun k_ e_=>HO_3.out.1 k_ e_));replace HB:=O.mk (hb);(try clear hb hkp hy0)))
      go_roundg k1
      case measure=>have:=HK1.out;omega
      case rel=>exact⟨(t105),(wrap64 (x15_1 + 1)),(by first|rfl|(simp;done)|(simp[*];done)),H',⟨by have:=HK1.out;omega⟩,⟨by(with_reducible repeat(first|apply Kd.zk|apply Kd.zj|apply Kd.zv));exact HO_3.out⟩,⟨by solve_by_elim only[HB.out,J,L,I]⟩⟩
     ·rw[if_neg c6] at H;exact absurd H (by simp)
    ·rw[if_neg c5] at H;exact absurd H (by simp)
   ·rw[if_neg c4] at H;have c4b0:decide (x15_1 < (l0.length:Int))=false:=decide_eq_false c4;clear c4;replace H:=jq8.mp H;obtain⟨t106,A100,H⟩:=H;try dsimp only at H
    have A10:=O.mk A100;clear A100;have H':=O.mk H;clear H;go_wp2_with (first|((with_reducible refine jq (f:=86) rfl ?_);refine goesL_ (some 26) rfl rfl Tryz.func86 (by kernel_rfl) rfl #[.int .i64 (l0.length:Int)] rfl (by(try simp only[jq0,jq1,jq2]);first|done|rfl|(simp only[jq3,jq4];rfl)) ?_;(with_reducible refine(qwk.calls k1 (l0.length:Int) t106 _ A10.out).mono ?_);rintro e w11 ⟨v107,rfl,ho0,hb⟩;refine⟨_,rfl,?_⟩;replace HO_3:=O.mk (Kd.R_below (by solve_by_elim only[HO_3.out,Kd.zk,Kd.zj,Kd.zv]) hb);have HO108:=O.mk (Kd.R_lower ho0 (zz (by solve_by_elim only[HB.out,J,L,I])));replace HB:=O.mk (zq (by solve_by_elim only[HB.out,J,L,I]) hb);(try clear hb ho0);obtain⟨Ao12,co12,eo12⟩:=Kd.R_slice HO108.out;subst eo12))
    go_loopg [28] k1 (fun kq v28 w'=>∃ (x3_2:List Int) (x28_2:Int),v28=.int .i64 x28_2∧O (qwv.l1 kq x3_2 t106 (t106.length:Int) x28_2=some r)∧O (kq≤k1)∧O (Kd.R (Kd.int .i64) 3 w' w.heap.size (fun _=>True) v102 x3_2)∧O (Kd.R (Kd.int .u8) 5 w' w.heap.size (fun _=>True) (.slice Ao12 t106.length co12) t106)∧O (Below w.heap.size w w'))
    case atStart=>exact⟨(x3_1),(0),(by first|rfl|(simp;done)|(simp[*];done)),H',⟨Nat.le_refl _⟩,⟨by(with_reducible repeat(first|apply Kd.zk|apply Kd.zj|apply Kd.zv));exact HO_3.out⟩,⟨by(with_reducible repeat(first|apply Kd.zk|apply Kd.zj|apply Kd.zv));exact HO108.out⟩,⟨by solve_by_elim only[HB.out,J,L,I]⟩⟩
    case round =>
     clear H';try clear p1
     try clear q1
     try clear hx1
     try clear p2 p2
     try clear c4
     try clear c4b0
     try clear c5
     try clear c5b0
     try clear c6
     try clear c6b0
     try clear p6
     try clear c8
     try clear p10
     try clear q10
     try clear hx10
     try clear hx104_0
     try clear p104
     try clear q104
     obtain⟨x3_2,x28_2,rfl,HA,HK2,HO_3,HO_26,HB⟩:=hrel
     cases gk with
     | zero=>exact absurd HA.out (by simp[qwv.l1])
     | succ k2 =>
      have H:=HA.out;clear HA;simp only[qwv.l1] at H
      by_cases c13:x28_2 < (t106.length:Int)
      ·rw[if_pos c13] at H;have c13b0:decide (x28_2 < (t106.length:Int))=true:=decide_eq_true c13;clear c13
       by_cases c14 : 0≤x28_2
       ·rw[if_pos c14] at H;have c14b0:decide (0≤x28_2)=true:=decide_eq_true c14;clear c14
        by_cases c15:x28_2 < (t106.length:Int)
        ·rw[if_pos c15] at H;have c15b0:decide (x28_2 < (t106.length:Int))=true:=decide_eq_true c15;clear c15;replace H:=jq8.mp H;obtain⟨t110,A160,H⟩:=H;try dsimp only at H
         have A16:=O.mk A160;clear A160;have H':=O.mk H;clear H;have p109 : 0≤(x28_2:Int):=of_decide_eq_true (by assumption);have q109:x28_2 < (t106.length:Int):=of_decide_eq_true (by assumption);obtain⟨ad109,e109,hx109_0⟩:=Kd.at_int (Kd.R_reads' HO_26.out).2.2 x28_2 p109 q109
         cases e109
         replace p109:=eq_true p109;replace q109:=eq_true q109;obtain⟨Ao17,co17,eo17⟩:=Kd.R_slice HO_3.out;subst eo17;go_wp2_with (first|((with_reducible refine jq (f:=85) rfl ?_);refine goesL_ (some 35) rfl rfl Tryz.func85 (by kernel_rfl) rfl #[.slice Ao17 x3_2.length co17,.int .i64 (wrap64 (rd t106 x28_2))] rfl (by(try simp only[jq0,jq1,jq2]);first|done|rfl|(simp only[jq3,jq4];rfl)) ?_;(with_reducible refine(qwx.calls k2 (fun k_=>some k_=(.slice Ao17 x3_2.length co17:Value).ownBlock) (.slice Ao17 x3_2.length co17) x3_2 (wrap64 (rd t106 x28_2)) t110 w _ ?side1 ?side2 A16.out).mono ?_);(case side1=>repeat(first|(with_reducible first|exact HB.out|apply J|apply L|apply I)|exact HB.out));(case side2=>exact Kd.R_tight rfl HO_3.out);rintro e w18 ⟨rfl,hy0,hb,hkp⟩;refine⟨_,rfl,?_⟩;replace HO_26:=O.mk (Kd.R_mono (ok':=fun k_=>True) (Kd.R_keptB ((Kd.R_apart' HO_26.out (Kd.R_typed HO_3.out) (by decide))) hkp (fun k_ hk_ hs_=>absurd hs_ (by first|exact hk_.2|((try simp only[and_assoc] at hk_);go_split_ands;assumption)))) (fun k_ hk_=>trivial));replace HO_3:=O.mk (Kd.R_reok rfl hy0 (fun k_ e_=>HO_3.out.1 k_ e_));replace HB:=O.mk (hb);(try clear hb hkp hy0)))
         go_roundg k2
         case measure=>have:=HK1.out;have:=HK2.out;omega
         case rel=>exact⟨(t110),(wrap64 (x28_2 + 1)),(by first|rfl|(simp;done)|(simp[*];done)),H',⟨by have:=HK1.out;have:=HK2.out;omega⟩,⟨by(with_reducible repeat(first|apply Kd.zk|apply Kd.zj|apply Kd.zv));exact HO_3.out⟩,⟨by(with_reducible repeat(first|apply Kd.zk|apply Kd.zj|apply Kd.zv));exact HO_26.out⟩,⟨by solve_by_elim only[HB.out,J,L,I]⟩⟩
        ·rw[if_neg c15] at H;exact absurd H (by simp)
       ·rw[if_neg c14] at H;exact absurd H (by simp)
      ·rw[if_neg c13] at H;have c13b0:decide (x28_2 < (t106.length:Int))=false:=decide_eq_false c13;clear c13;have H':=O.mk H;clear H;go_wp2
       go_loopg [8] k2 (fun kq v8 w'=>∃ (x3_3:List Int) (x8_3:Int),v8=.int .i64 x8_3∧O (qwv.l2 kq x3_3 x8_3=some r)∧O (kq≤k2)∧O (Kd.R (Kd.int .i64) 3 w' w.heap.size (fun _=>True) v102 x3_3)∧O (Below w.heap.size w w'))
       case atStart=>exact⟨(x3_2),(0),(by first|rfl|(simp;done)|(simp[*];done)),H',⟨Nat.le_refl _⟩,⟨by(with_reducible repeat(first|apply Kd.zk|apply Kd.zj|apply Kd.zv));exact HO_3.out⟩,⟨by solve_by_elim only[HB.out,J,L,I]⟩⟩
       case round =>
        clear H';try clear c1
        try clear p1 p1
        try clear q1 q1
        try clear hx1
        try clear p2 p2
        try clear c4
        try clear c4b0
        try clear c5
        try clear c5b0
        try clear c6
        try clear c6b0
        try clear p6 p6
        try clear c8
        try clear p10 p10
        try clear q10 q10
        try clear hx10
        try clear c13
        try clear c13b0
        try clear c14
        try clear c14b0
        try clear c15
        try clear c15b0
        try clear hx104_0
        try clear hx109_0
        try clear p104
        try clear p109
        try clear q104
        try clear q109
        obtain⟨x3_3,x8_3,rfl,HA,HK3,HO_3,HB⟩:=hrel
        cases gk with
        | zero=>exact absurd HA.out (by simp[qwv.l2])
        | succ k3 =>
         have H:=HA.out;clear HA;simp only[qwv.l2] at H
         by_cases c19:x8_3 < 8
         ·rw[if_pos c19] at H;have c19b0:decide (x8_3 < 8)=true:=decide_eq_true c19;clear c19;replace H:=jq8.mp H;obtain⟨t111,A200,H⟩:=H;try dsimp only at H
          have A20:=O.mk A200;clear A200;have H':=O.mk H;clear H;obtain⟨Ao21,co21,eo21⟩:=Kd.R_slice HO_3.out;subst eo21;go_wp2_with (first|((with_reducible refine jq (f:=85) rfl ?_);refine goesL_ (some 42) rfl rfl Tryz.func85 (by kernel_rfl) rfl #[.slice Ao21 x3_3.length co21,.int .i64 0] rfl (by(try simp only[jq0,jq1,jq2]);first|done|rfl|(simp only[jq3,jq4];rfl)) ?_;(with_reducible refine(qwx.calls k3 (fun k_=>some k_=(.slice Ao21 x3_3.length co21:Value).ownBlock) (.slice Ao21 x3_3.length co21) x3_3 0 t111 w _ ?side1 ?side2 A20.out).mono ?_);(case side1=>repeat(first|(with_reducible first|exact HB.out|apply J|apply L|apply I)|exact HB.out));(case side2=>exact Kd.R_tight rfl HO_3.out);rintro e w22 ⟨rfl,hy0,hb,hkp⟩;refine⟨_,rfl,?_⟩;replace HO_3:=O.mk (Kd.R_reok rfl hy0 (fun k_ e_=>HO_3.out.1 k_ e_));replace HB:=O.mk (hb);(try clear hb hkp hy0)))
          go_roundg k3
          case measure=>have:=HK1.out;have:=HK2.out;have:=HK3.out;omega
          case rel=>exact⟨(t111),(wrap64 (x8_3 + 1)),(by first|rfl|(simp;done)|(simp[*];done)),H',⟨by have:=HK1.out;have:=HK2.out;have:=HK3.out;omega⟩,⟨by(with_reducible repeat(first|apply Kd.zk|apply Kd.zj|apply Kd.zv));exact HO_3.out⟩,⟨by solve_by_elim only[HB.out,J,L,I]⟩⟩
         ·rw[if_neg c19] at H;have c19b0:decide (x8_3 < 8)=false:=decide_eq_false c19;clear c19;have H':=O.mk H;clear H;obtain⟨Ao23,co23,eo23⟩:=Kd.R_slice HO_3.out;subst eo23;go_wp2
          go_loopg [9,45] k3 (fun kq v9 v45 w'=>∃ (x9_4:List Int) (x45_4:Int),v45=.int .i64 x45_4∧O (qwv.l3 kq x9_4 x3_3 (x3_3.length:Int) x45_4=some r)∧O (kq≤k3)∧O (Kd.R (Kd.int .u8) 5 w' w.heap.size (fun _=>True) v9 x9_4)∧O (Kd.R (Kd.int .i64) 3 w' w.heap.size (fun _=>True) (.slice Ao23 x3_3.length co23) x3_3)∧O (Below w.heap.size w w'))
          case atStart=>exact⟨(([]:List Int)),(0),(by first|rfl|(simp;done)|(simp[*];done)),H',⟨Nat.le_refl _⟩,⟨by first|exact Kd.R_nil _ _ _ _ _|exact Kd.N_nil _ _ _ _ _|exact Kd.V_nil _ _ _ _ _|exact Kd.Q_nil _ _ _ _ _|exact Kd.S_nil _ _ _ _ _⟩,⟨by(with_reducible repeat(first|apply Kd.zk|apply Kd.zj|apply Kd.zv));exact HO_3.out⟩,⟨by solve_by_elim only[HB.out,J,L,I]⟩⟩
          case round =>
           clear H';try clear c1
           try clear p1 p1
           try clear q1 q1
           try clear hx1
           try clear p2 p2
           try clear c4
           try clear c4b0
           try clear c5
           try clear c5b0
           try clear c6
           try clear c6b0
           try clear p6 p6
           try clear c8
           try clear p10 p10
           try clear q10 q10
           try clear hx10
           try clear c13
           try clear c13b0
           try clear c14
           try clear c14b0
           try clear c15
           try clear c15b0
           try clear c19
           try clear c19b0
           try clear hx104_0
           try clear hx109_0
           try clear p104
           try clear p109
           try clear q104
           try clear q109
           obtain⟨x9_4,x45_4,rfl,HA,HK4,HO_9,HO_43,HB⟩:=hrel
           cases gk with
           | zero=>exact absurd HA.out (by simp[qwv.l3])
           | succ k4 =>
            have H:=HA.out;clear HA;simp only[qwv.l3] at H
            by_cases c24:x45_4 < (x3_3.length:Int)
            ·rw[if_pos c24] at H;have c24b0:decide (x45_4 < (x3_3.length:Int))=true:=decide_eq_true c24;clear c24
             by_cases c25 : 0≤x45_4
             ·rw[if_pos c25] at H;have c25b0:decide (0≤x45_4)=true:=decide_eq_true c25;clear c25
              by_cases c26:x45_4 < (x3_3.length:Int)
              ·rw[if_pos c26] at H;have c26b0:decide (x45_4 < (x3_3.length:Int))=true:=decide_eq_true c26;clear c26;replace H:=jq8.mp H;obtain⟨t113,A270,H⟩:=H;try dsimp only at H
               have A27:=O.mk A270;clear A270
               by_cases c28:x9_4.length + t113.length < 140737488355328
               ·rw[if_pos c28] at H;have LMc28:=O.mk c28;clear c28;obtain⟨y116,hy116⟩ : ∃ y_:List Int,y_=(x9_4 ++ t113):=⟨_,rfl⟩;replace H:(qwv.l3 k4 y116 x3_3 (x3_3.length:Int) (wrap64 (x45_4 + 1)))=some r:=by first|(rw[hy116];with_reducible exact H)|(have H2_:=(Option.bind_some _ _).symm.trans H;rw[hy116];with_reducible exact H2_)|(have H2_:=(Option.bind_some _ _).symm.trans H;with_reducible exact H2_)|with_reducible exact H|(rw[hy116];exact H)|exact H
                have Ny116:=O.mk hy116;clear hy116;have H':=O.mk H;clear H;have p112 : 0≤(x45_4:Int):=of_decide_eq_true (by assumption);have q112:x45_4 < (x3_3.length:Int):=of_decide_eq_true (by assumption);obtain⟨ad112,e112,hx112_0⟩:=Kd.at_int (Kd.R_reads' HO_43.out).2.2 x45_4 p112 q112
                cases e112
                replace p112:=eq_true p112;replace q112:=eq_true q112;go_wp2_with (first|((with_reducible refine jq (f:=86) rfl ?_);refine goesL_ (some 51) rfl rfl Tryz.func86 (by kernel_rfl) rfl #[.int .i64 (rd x3_3 x45_4)] rfl (by(try simp only[jq0,jq1,jq2]);first|done|rfl|(simp only[jq3,jq4];rfl)) ?_;(with_reducible refine(qwk.calls k4 (rd x3_3 x45_4) t113 _ A27.out).mono ?_);rintro e w29 ⟨v114,rfl,ho0,hb⟩;refine⟨_,rfl,?_⟩;replace HO_43:=O.mk (Kd.R_below (by solve_by_elim only[HO_43.out,Kd.zk,Kd.zj,Kd.zv]) hb);have HO115:=O.mk (Kd.R_lower (Kd.R_new' ho0 (Kd.R_lt (by solve_by_elim only[HO_9.out,Kd.zk,Kd.zj,Kd.zv]))) (zz (by solve_by_elim only[HB.out,J,L,I])));replace HO_9:=O.mk (Kd.R_elder' (by solve_by_elim only[HO_9.out,Kd.zk,Kd.zj,Kd.zv]) (Kd.R_base ho0) hb);replace HB:=O.mk (zq (by solve_by_elim only[HB.out,J,L,I]) hb);(try clear hb ho0);obtain⟨Ao31,co31,eo31⟩:=Kd.R_slice HO115.out;subst eo31)|((with_reducible refine gate_builtin (b:=.append) (xs:=#[.tmp 49,.tmp 51]) rfl ?_);at_builtin;refine Kd.R_append_rows (Kd.int .u8) (w0:=w) w.heap.size rfl (.tmp 49) (.tmp 51) 34 5 (.int .u8 0) 1 rfl Tryz.underlying34 info5 rfl (by decide) (by omega) u9 x9_4 t113 _ _ _ (fun k_=>some k_≠(.slice Ao31 t113.length co31:Value).ownBlock) (fun _=>False) rfl rfl ?aO ?aR (fun _ _ h=>h) (fun _ h=>h.elim) ?aF ?aB ?aS ?aL ?_;(case aR=>repeat(first|exact(Kd.R_reads' HO115.out).2.2|(with_reducible refine Kd.C_alloc ?_ _)|(with_reducible refine Kd.C_drewN ?_ _)|(with_reducible refine Kd.C_drew ?_)));(case aB=>exact(by solve_by_elim only[HB.out,J,L,I]));(case aF=>exact(fun k_ hk=>Kd.fresh' (Kd.R_lt (by solve_by_elim only[HO115.out,Kd.zk,Kd.zj,Kd.zv])) k_ hk));(case aO=>exact(by(with_reducible repeat(first|apply Kd.zk|apply Kd.zj|apply Kd.zv));exact Kd.R_mono HO_9.out (fun _ hk=>hk.2)));(case aS=>exact(zz (by solve_by_elim only[HB.out,J,L,I])));(case aL=>have:=LMc28.out;omega);intro v117 w30 ho hb hg hat;rw[← Ny116.out] at ho;replace HO_43:=O.mk (Kd.R_over' (by solve_by_elim only[HO_43.out,Kd.zk,Kd.zj,Kd.zv]) (Kd.R_typed (by solve_by_elim only[HO_9.out,Kd.zk,Kd.zj,Kd.zv])) (by decide) hg);replace HO115:=O.mk (Kd.R_after (ok:=(fun _=>True)) (by solve_by_elim only[HO115.out,Kd.zk,Kd.zj,Kd.zv]) hg hat);replace HB:=O.mk (hb);have HO118:=O.mk (ho);clear HO_9;clear ho hb hg hat))
                go_roundg k4
                case measure=>have:=HK1.out;have:=HK2.out;have:=HK3.out;have:=HK4.out;omega
                case rel=>exact⟨(y116),(wrap64 (x45_4 + 1)),(by first|rfl|(simp;done)|(simp[*];done)),H',⟨by have:=HK1.out;have:=HK2.out;have:=HK3.out;have:=HK4.out;omega⟩,⟨by(with_reducible repeat(first|apply Kd.zk|apply Kd.zj|apply Kd.zv));exact Kd.R_mono HO118.out (fun _ hk=>trivial)⟩,⟨by(with_reducible repeat(first|apply Kd.zk|apply Kd.zj|apply Kd.zv));exact HO_43.out⟩,⟨by solve_by_elim only[HB.out,J,L,I]⟩⟩
               ·rw[if_neg c28] at H;exact absurd H (by simp)
              ·rw[if_neg c26] at H;exact absurd H (by simp)
             ·rw[if_neg c25] at H;exact absurd H (by simp)
            ·rw[if_neg c24] at H;have c24b0:decide (x45_4 < (x3_3.length:Int))=false:=decide_eq_false c24;clear c24;obtain rfl:=Option.some.inj H;go_wp2;go_ret
             exact⟨_,by first|rfl|(simp[*,zx,zw] <;> rfl),by(with_reducible repeat(first|apply Kd.zk|apply Kd.zj|apply Kd.zv));exact HO_9.out,by solve_by_elim only[HB.out,J,L,I]⟩
def qxq.f (k:Nat) (l0:List Int) (l1:List Int):Option (List Int):=if ([]:List Int).length + l0.length < 140737488355328 then((some (([]:List Int) ++ l0:List Int)).bind fun y101=>(if y101.length + l1.length < 140737488355328 then((qwv.f k (y101 ++ l1)).bind fun t107=>(some t107)) else(none))) else(none)
theorem qxq.calls (k:Nat) (A0:Option Addr) (c0:Nat) (l0:List Int) (A1:Option Addr) (c1:Nat) (l1:List Int) (r:List Int) (w:World) (hr0:Kd.C (Kd.int .u8) w A0 l0.length l0) (hc0:l0.length≤c0) (hr1:Kd.C (Kd.int .u8) w A1 l1.length l1) (hc1:l1.length≤c1) (h:qxq.f k l0 l1=some r) :
  Calls Tryz.prog 66 #[.slice A0 l0.length c0,.slice A1 l1.length c1] w fun e w'=>∃ v0_:Value,e=.returned (v0_)∧Kd.R (Kd.int .u8) 5 w' w.heap.size (fun _=>True) v0_ r∧Below w.heap.size w w':=by
 have HR0:=O.mk hr0;have HC0:=O.mk hc0;clear hr0 hc0;have HR1:=O.mk hr1;have HC1:=O.mk hc1;clear hr1 hc1;have HB:=O.mk (Below.refl w.heap.size w);unfold qxq.f at h;have H:=h;clear h
 by_cases c3:([]:List Int).length + l0.length < 140737488355328
 ·rw[if_pos c3] at H;have LMc3:=O.mk c3;clear c3;obtain⟨y101,hy101⟩ : ∃ y_:List Int,y_=(([]:List Int) ++ l0):=⟨_,rfl⟩;replace H:(if y101.length + l1.length < 140737488355328 then((qwv.f k (y101 ++ l1)).bind fun t107=>(some t107)) else(none))=some r:=by first|(rw[hy101];with_reducible exact H)|(have H2_:=(Option.bind_some _ _).symm.trans H;rw[hy101];with_reducible exact H2_)|(have H2_:=(Option.bind_some _ _).symm.trans H;with_reducible exact H2_)|with_reducible exact H|(rw[hy101];exact H)|exact H
  have Ny101:=O.mk hy101;clear hy101
  by_cases c4:y101.length + l1.length < 140737488355328
  ·rw[if_pos c4] at H;have LMc4:=O.mk c4;clear c4;obtain⟨y104,hy104⟩ : ∃ y_:List Int,y_=(y101 ++ l1):=⟨_,rfl⟩;replace H:((qwv.f k y104).bind fun t107=>(some t107))=some r:=by first|(rw[hy104];with_reducible exact H)|(have H2_:=(Option.bind_some _ _).symm.trans H;rw[hy104];with_reducible exact H2_)|(have H2_:=(Option.bind_some _ _).symm.trans H;with_reducible exact H2_)|with_reducible exact H|(rw[hy104];exact H)|exact H
   have Ny104:=O.mk hy104;clear hy104;replace H:=jq8.mp H;obtain⟨t107,A50,H⟩:=H;replace H:(some t107)=some r:=H;have A5:=O.mk A50;clear A50;obtain rfl:=Option.some.inj H;go_enter Tryz.func66,Tryz.ntmps66;go_wp2_with (first|((with_reducible refine gate_builtin (b:=.append) (xs:=#[.tmp 6,.tmp 7]) rfl ?_);at_builtin;refine Kd.R_append_rows (Kd.int .u8) (w0:=w) w.heap.size rfl (.tmp 6) (.tmp 7) 34 5 (.int .u8 0) 1 rfl Tryz.underlying34 info5 rfl (by decide) (by omega) (.slice none 0 0) ([]:List Int) l0 _ _ _ (fun _=>True) (fun _=>False) rfl rfl ?aO ?aR (fun _ _ h=>h) (fun _ h=>h.elim) ?aF ?aB ?aS ?aL ?_;(case aR=>repeat(first|exact HR0.out|(with_reducible refine Kd.C_alloc ?_ _)|(with_reducible refine Kd.C_drewN ?_ _)|(with_reducible refine Kd.C_drew ?_)));(case aB=>exact(by solve_by_elim only[HB.out,J,L,I]));(case aF=>exact(fun _ _=>trivial));(case aO=>exact((Kd.R_nil _ _ _ _ (fun _=>True))));(case aS=>exact(zz (by solve_by_elim only[HB.out,J,L,I])));(case aL=>have:=LMc3.out;omega);intro v102 w6 ho hb hg hat;rw[← Ny101.out] at ho;replace HB:=O.mk (hb);have HO103:=O.mk (ho);clear ho hb hg hat)|((with_reducible refine gate_builtin (b:=.append) (xs:=#[.tmp 8,.tmp 9]) rfl ?_);at_builtin;refine Kd.R_append_rows (Kd.int .u8) (w0:=w) w.heap.size rfl (.tmp 8) (.tmp 9) 34 5 (.int .u8 0) 1 rfl Tryz.underlying34 info5 rfl (by decide) (by omega) v102 y101 l1 _ _ _ (fun _=>True) (fun _=>False) rfl rfl ?aO ?aR (fun _ _ h=>h) (fun _ h=>h.elim) ?aF ?aB ?aS ?aL ?_;(case aR=>repeat(first|exact(Kd.C_below HR1.out HB.out)|(with_reducible refine Kd.C_alloc ?_ _)|(with_reducible refine Kd.C_drewN ?_ _)|(with_reducible refine Kd.C_drew ?_)));(case aB=>exact(by solve_by_elim only[HB.out,J,L,I]));(case aF=>exact(fun _ _=>trivial));(case aO=>exact(by solve_by_elim only[HO103.out,Kd.zk,Kd.zj,Kd.zv]));(case aS=>exact(zz (by solve_by_elim only[HB.out,J,L,I])));(case aL=>have:=LMc4.out;omega);intro v105 w7 ho hb hg hat;rw[← Ny104.out] at ho;replace HB:=O.mk (hb);have HO106:=O.mk (ho);clear HO103;clear ho hb hg hat;obtain⟨Ao8,co8,eo8⟩:=Kd.R_slice HO106.out;subst eo8)|((with_reducible refine jq (f:=67) rfl ?_);refine goesL_ (some 11) rfl rfl Tryz.func67 (by kernel_rfl) rfl #[.slice Ao8 y104.length co8] rfl (by(try simp only[jq0,jq1,jq2]);first|done|rfl|(simp only[jq3,jq4];rfl)) ?_;(with_reducible refine(qwv.calls k _ _ y104 t107 _ ?side1 ?side2 A5.out).mono ?_);(case side1=>solve_by_elim only[(Kd.R_reads' HO106.out).2.2,Kd.C_alloc,Kd.C_drewN,Kd.C_drew]);(case side2=>exact(Kd.R_reads' HO106.out).2.1);rintro e w9 ⟨v108,rfl,ho0,hb⟩;refine⟨_,rfl,?_⟩;have HO109:=O.mk (Kd.R_lower (Kd.R_new' ho0 (Kd.R_lt (by solve_by_elim only[HO106.out,Kd.zk,Kd.zj,Kd.zv]))) (zz (by solve_by_elim only[HB.out,J,L,I])));replace HO106:=O.mk (Kd.R_elder' (by solve_by_elim only[HO106.out,Kd.zk,Kd.zj,Kd.zv]) (Kd.R_base ho0) hb);replace HB:=O.mk (zq (by solve_by_elim only[HB.out,J,L,I]) hb);(try clear hb ho0)))
   go_ret
   exact⟨_,by first|rfl|(simp[*,zx,zw] <;> rfl),by(with_reducible repeat(first|apply Kd.zk|apply Kd.zj|apply Kd.zv));exact Kd.R_mono HO109.out (fun _ hk=>trivial),by solve_by_elim only[HB.out,J,L,I]⟩
  ·rw[if_neg c4] at H;exact absurd H (by simp)
 ·rw[if_neg c3] at H;exact absurd H (by simp)
def qww.f (k:Nat) (l0:List Int) (l1:List Int):Option (List Int):=(qwv.f k l0).bind fun t101=>((qwv.f k l1).bind fun t104=>((qxq.f k t101 t104).bind fun t107=>(some t107)))
theorem qww.calls (k:Nat) (A0:Option Addr) (c0:Nat) (l0:List Int) (A1:Option Addr) (c1:Nat) (l1:List Int) (r:List Int) (w:World) (hr0:Kd.C (Kd.int .u8) w A0 l0.length l0) (hc0:l0.length≤c0) (hr1:Kd.C (Kd.int .u8) w A1 l1.length l1) (hc1:l1.length≤c1) (h:qww.f k l0 l1=some r) :
  Calls Tryz.prog 38 #[.slice A0 l0.length c0,.slice A1 l1.length c1] w fun e w'=>∃ v0_:Value,e=.returned (v0_)∧Kd.R (Kd.int .u8) 5 w' w.heap.size (fun _=>True) v0_ r∧Below w.heap.size w w':=by
 have HR0:=O.mk hr0;have HC0:=O.mk hc0;clear hr0 hc0;have HR1:=O.mk hr1;have HC1:=O.mk hc1;clear hr1 hc1;have HB:=O.mk (Below.refl w.heap.size w);unfold qww.f at h;have H:=h;clear h;replace H:=jq8.mp H;obtain⟨t101,A30,H⟩:=H;try dsimp only at H
 have A3:=O.mk A30;clear A30;replace H:=jq8.mp H;obtain⟨t104,A40,H⟩:=H;try dsimp only at H
 have A4:=O.mk A40;clear A40;replace H:=jq8.mp H;obtain⟨t107,A50,H⟩:=H;replace H:(some t107)=some r:=H;have A5:=O.mk A50;clear A50;obtain rfl:=Option.some.inj H;go_enter Tryz.func38,Tryz.ntmps38;go_wp2_with (first|((with_reducible refine jq (f:=67) rfl ?_);refine goesL_ (some 6) rfl rfl Tryz.func67 (by kernel_rfl) rfl #[.slice A0 l0.length c0] rfl (by(try simp only[jq0,jq1,jq2]);first|done|rfl|(simp only[jq3,jq4];rfl)) ?_;(with_reducible refine(qwv.calls k _ _ l0 t101 _ ?side1 ?side2 A3.out).mono ?_);(case side1=>solve_by_elim only[HR0.out,Kd.C_alloc,Kd.C_drewN,Kd.C_drew]);(case side2=>exact HC0.out);rintro e w6 ⟨v102,rfl,ho0,hb⟩;refine⟨_,rfl,?_⟩;have HO103:=O.mk (Kd.R_lower ho0 (zz (by solve_by_elim only[HB.out,J,L,I])));replace HB:=O.mk (zq (by solve_by_elim only[HB.out,J,L,I]) hb);(try clear hb ho0))|((with_reducible refine jq (f:=67) rfl ?_);refine goesL_ (some 8) rfl rfl Tryz.func67 (by kernel_rfl) rfl #[.slice A1 l1.length c1] rfl (by(try simp only[jq0,jq1,jq2]);first|done|rfl|(simp only[jq3,jq4];rfl)) ?_;(with_reducible refine(qwv.calls k _ _ l1 t104 _ ?side1 ?side2 A4.out).mono ?_);(case side1=>solve_by_elim only[(Kd.C_below HR1.out HB.out),Kd.C_alloc,Kd.C_drewN,Kd.C_drew]);(case side2=>exact HC1.out);rintro e w7 ⟨v105,rfl,ho0,hb⟩;refine⟨_,rfl,?_⟩;have HO106:=O.mk (Kd.R_lower (Kd.R_new' ho0 (Kd.R_lt (by solve_by_elim only[HO103.out,Kd.zk,Kd.zj,Kd.zv]))) (zz (by solve_by_elim only[HB.out,J,L,I])));replace HO103:=O.mk (Kd.R_elder' (by solve_by_elim only[HO103.out,Kd.zk,Kd.zj,Kd.zv]) (Kd.R_base ho0) hb);replace HB:=O.mk (zq (by solve_by_elim only[HB.out,J,L,I]) hb);(try clear hb ho0);obtain⟨Ao8,co8,eo8⟩:=Kd.R_slice HO103.out;subst eo8;obtain⟨Ao9,co9,eo9⟩:=Kd.R_slice HO106.out;subst eo9)|((with_reducible refine jq (f:=66) rfl ?_);refine goesL_ (some 9) rfl rfl Tryz.func66 (by kernel_rfl) rfl #[.slice Ao8 t101.length co8,.slice Ao9 t104.length co9] rfl (by(try simp only[jq0,jq1,jq2]);first|done|rfl|(simp only[jq3,jq4];rfl)) ?_;(with_reducible refine(qxq.calls k _ _ t101 _ _ t104 t107 _ ?side1 ?side2 ?side3 ?side4 A5.out).mono ?_);(case side1=>solve_by_elim only[(Kd.R_reads' HO103.out).2.2,Kd.C_alloc,Kd.C_drewN,Kd.C_drew]);(case side2=>exact(Kd.R_reads' HO103.out).2.1);(case side3=>solve_by_elim only[(Kd.R_reads' HO106.out).2.2,Kd.C_alloc,Kd.C_drewN,Kd.C_drew]);(case side4=>exact(Kd.R_reads' HO106.out).2.1);rintro e w10 ⟨v108,rfl,ho0,hb⟩;refine⟨_,rfl,?_⟩;have HO109:=O.mk (Kd.R_lower (Kd.R_new' (Kd.R_new' ho0 (Kd.R_lt (by solve_by_elim only[HO103.out,Kd.zk,Kd.zj,Kd.zv]))) (Kd.R_lt (by solve_by_elim only[HO106.out,Kd.zk,Kd.zj,Kd.zv]))) (zz (by solve_by_elim only[HB.out,J,L,I])));replace HO103:=O.mk (Kd.R_elder' (by solve_by_elim only[HO103.out,Kd.zk,Kd.zj,Kd.zv]) (Kd.R_base ho0) hb);replace HO106:=O.mk (Kd.R_elder' (by solve_by_elim only[HO106.out,Kd.zk,Kd.zj,Kd.zv]) (Kd.R_base ho0) hb);replace HB:=O.mk (zq (by solve_by_elim only[HB.out,J,L,I]) hb);(try clear hb ho0)))
 go_ret
 exact⟨_,by first|rfl|(simp[*,zx,zw] <;> rfl),by(with_reducible repeat(first|apply Kd.zk|apply Kd.zj|apply Kd.zv));exact Kd.R_mono HO109.out (fun _ hk=>trivial),by solve_by_elim only[HB.out,J,L,I]⟩
end Go.Proofs.YtnbbbjfjkhglhaaGreatDoor.Pr
namespace Go.Proofs.YtnbbbjfjkhglhaaGreatDoor.Pr
open Go.RowKit Go.Proofs.YtnbbbjfjkhglhaaGreatDoorW.PrintWords Go.Proofs.YtnbbbjfjkhglhaaGreatDoorW.PrintLast Go.Proofs.YtnbbbjfjkhglhaaGreatDoorW.PrintMore
attribute [local go_sem] max2_int min2_int max_two min_two max_three min_three max_four min_four
set_option linter.unusedVariables false
set_option linter.unusedSimpArgs false
def qkj.j0:Nat→Bool→ByteArray→List (S30)→List Int→ByteArray→Int→ByteArray→Int→Int→ByteArray→ByteArray→Option (ByteArray × (List (S30)) × List Int)
 | 0,_,_,_,_,_,_,_,_,_,_,_=>none
 | k + 1,x19,x102000,x102001,x102002,x103000,x103001,x103002,x103003,x103004,x103005,x103006=>if x19=true then(some ((⟨#[]⟩ : ByteArray),([]:List (S30)),([]:List Int))) else(if ([]:List (S30)).length + x102001.length < 1599289640401 then((some (([]:List (S30)) ++ x102001:List (S30))).bind fun y106=>((some (([(⟨x103000,x103001,x103002,(⟨x103003,x103004,x103005,x103006⟩ : S28)⟩ : S30)]:List (S30)):List (S30))).bind fun y109=>(if y106.length + y109.length < 1599289640401 then((qkw.f k x103000 x103001 x103002 x103003 x103004 x103005 x103006).bind fun t115=>((bytesOfS.f t115).bind fun t116=>((qww.f k x102002 t116).bind fun t119=>(some (x102000,(y106 ++ y109),t119))))) else(none)))) else(none))
def qkj.f (k:Nat) (a0_0:ByteArray) (l0_1:List (S30)) (l0_2:List Int) (a1_0:ByteArray) (a1_1:Int) (a1_2:ByteArray) (a1_3:Int) (a1_4:Int) (a1_5:ByteArray) (a1_6:ByteArray):Option (ByteArray × (List (S30)) × List Int):=(qkx.f k a0_0 l0_1 l0_2).bind fun t104=>(if t104=true then((qvq.f k a1_0 a1_1 a1_2 a1_3 a1_4 a1_5 a1_6).bind fun t105=>(if t105=true then(qkj.j0 k ((l0_1.length:Int) == 20) a0_0 l0_1 l0_2 a1_0 a1_1 a1_2 a1_3 a1_4 a1_5 a1_6) else(qkj.j0 k true a0_0 l0_1 l0_2 a1_0 a1_1 a1_2 a1_3 a1_4 a1_5 a1_6))) else(qkj.j0 k true a0_0 l0_1 l0_2 a1_0 a1_1 a1_2 a1_3 a1_4 a1_5 a1_6))
def qkj.T4:Bool × List (List Nat × List Nat):=(true,[([],[]),([0],[0]),([],[]),([],[]),([3],[3]),([2,4],[2,4]),([],[]),([6],[6]),([5,7,5],[5,7]),([],[]),([9],[9]),([],[]),([11,8],[11]),([12],[12]),([10,13,12],[10,13]),([1,8,14],[1,8,14]),([15,14,0,1,2,3,4,5,6,7,8,9,10,11,12,13,14,15],[15])])
def qkj.B4:List Nat:=[0,1,0,0,8,28,0,64,252,0,512,0,2556,6652,16380,32767,65535]
theorem qkj.tab4:rtab .any (opsOf Tryz.f15 4)=qkj.T4:=by kernel_rfl
theorem qkj.bits4:waitsOk qkj.T4.2 qkj.B4=true:=by kernel_rfl
theorem qkj.calls (k:Nat) (a0_0:ByteArray) (A0_1:Option Addr) (c0_1:Nat) (l0_1:List (S30)) (A0_2:Option Addr) (c0_2:Nat) (l0_2:List Int) (a1_0:ByteArray) (a1_1:Int) (a1_2:ByteArray) (a1_3:Int) (a1_4:Int) (a1_5:ByteArray) (a1_6:ByteArray) (r1:ByteArray) (r2:List (S30)) (r3:List Int) (w:World) (hr0_1:Kd.C k30 w A0_1 l0_1.length l0_1) (hc0_1:l0_1.length≤c0_1) (hr0_2:Kd.C (Kd.int .u8) w A0_2 l0_2.length l0_2) (hc0_2:l0_2.length≤c0_2) (h:qkj.f k a0_0 l0_1 l0_2 a1_0 a1_1 a1_2 a1_3 a1_4 a1_5 a1_6=some (r1,r2,r3)) :
  Calls Tryz.prog 15 #[.agg #[.string a0_0,.slice A0_1 l0_1.length c0_1,.slice A0_2 l0_2.length c0_2],.agg #[.string a1_0,.int .i64 a1_1,.string a1_2,.int .i64 a1_3,.int .i64 a1_4,.string a1_5,.string a1_6]] w fun e w'=>∃ v1_ v2_:Value,e=.returned (.agg #[.string r1,v1_,v2_])∧Kd.R k30 30 w' w.heap.size (fun _=>True) v1_ r2∧Kd.R (Kd.int .u8) 5 w' w.heap.size (fun _=>True) v2_ r3∧Below w.heap.size w w':=by
 have hu41:=Tryz.underlying41;have hu30:=Tryz.underlying30;have HR0_1:=O.mk hr0_1;have HC0_1:=O.mk hc0_1;clear hr0_1 hc0_1;have HR0_2:=O.mk hr0_2;have HC0_2:=O.mk hc0_2;clear hr0_2 hc0_2;have HB:=O.mk (Below.refl w.heap.size w);unfold qkj.f at h;have H:=h;clear h;have HC3:=O.mk H;clear H;go_enter Tryz.func15,Tryz.ntmps15;go_upto_region 1 with (first|((with_reducible refine gate_dst (N:=2) rfl ?_);(try (refine gate_guard (by rfl) ?_;dsimp only));refine box_event ?hg (N:=2) ?hd (cs:=#[.string a0_0,.slice A0_1 l0_1.length c0_1,.slice A0_2 l0_2.length c0_2]) (t:=41) ?hr ?_;(case hd=>rfl);(case hg=>rfl);(case hr=>first|(go_simp;done)|(go_simp;rfl));intro gb101 hg w4 hbox hb;have BK101:=O.mk (hbox);have GW101:=O.mk ((by rw[hg];exact(zz (by solve_by_elim only[HB.out,J,L,I])):w.heap.size≤gb101));have GE101:=GW101;replace HB:=O.mk (zq (by solve_by_elim only[HB.out,J,L,I]) hb);clear hb hbox hg)|((with_reducible refine gate_dst (N:=3) rfl ?_);(try (refine gate_guard (by rfl) ?_;dsimp only));refine box_event ?hg (N:=3) ?hd (cs:=#[.string a1_0,.int .i64 a1_1,.string a1_2,.int .i64 a1_3,.int .i64 a1_4,.string a1_5,.string a1_6]) (t:=30) ?hr ?_;(case hd=>rfl);(case hg=>rfl);(case hr=>first|(go_simp;done)|(go_simp;rfl));intro gb102 hg w5 hbox hb;have BK102:=O.mk (hbox);have GW102:=O.mk ((by rw[hg];exact(zz (by solve_by_elim (maxDepth:=20) only[HB.out,J,L,I,qj,GE101.out])):w.heap.size≤gb102));have GE102:=GW102;replace HB:=O.mk (zq (by solve_by_elim (maxDepth:=20) only[HB.out,J,L,I,qj,GE101.out]) hb);have NB101_102:=O.mk ((by rw[hg];exact Nat.ne_of_lt (blk_lt (by solve_by_elim only[BK101.out,qv,qw,qk])):gb101≠gb102));have NB102_101:=O.mk ((by rw[hg];exact Nat.ne_of_gt (blk_lt (by solve_by_elim only[BK101.out,qv,qw,qk])):gb102≠gb101));replace BK101:=O.mk (kz (by solve_by_elim only[BK101.out,qv,qw,qk]) hb);clear hb hbox hg)|((with_reducible refine gate_dst (N:=4) rfl ?_);(try (refine gate_guard (by rfl) ?_;dsimp only));refine box_event ?hg (N:=4) ?hd (cs:=#[.string (⟨#[]⟩ : ByteArray),.slice none 0 0,.slice none 0 0]) (t:=41) ?hr ?_;(case hd=>rfl);(case hg=>rfl);(case hr=>first|(go_simp;done)|(go_simp;rfl));intro gb103 hg w6 hbox hb;have BK103:=O.mk (hbox);have GW103:=O.mk ((by rw[hg];exact(zz (by repeat(first|(with_reducible first|exact HB.out|apply J|apply L|apply I|refine qj ?_ GE101.out|refine qj ?_ GE102.out)|exact HB.out))):w.heap.size≤gb103));have GE103:=GW103;replace HB:=O.mk (zq (by repeat(first|(with_reducible first|exact HB.out|apply J|apply L|apply I|refine qj ?_ GE101.out|refine qj ?_ GE102.out)|exact HB.out)) hb);have NB101_103:=O.mk ((by rw[hg];exact Nat.ne_of_lt (blk_lt (by solve_by_elim only[BK101.out,qv,qw,qk])):gb101≠gb103));have NB103_101:=O.mk ((by rw[hg];exact Nat.ne_of_gt (blk_lt (by solve_by_elim only[BK101.out,qv,qw,qk])):gb103≠gb101));replace BK101:=O.mk (kz (by solve_by_elim only[BK101.out,qv,qw,qk]) hb);have NB102_103:=O.mk ((by rw[hg];exact Nat.ne_of_lt (blk_lt (by solve_by_elim only[BK102.out,qv,qw,qk])):gb102≠gb103));have NB103_102:=O.mk ((by rw[hg];exact Nat.ne_of_gt (blk_lt (by solve_by_elim only[BK102.out,qv,qw,qk])):gb103≠gb102));replace BK102:=O.mk (kz (by solve_by_elim only[BK102.out,qv,qw,qk]) hb);clear hb hbox hg))
 (try simp only[Act.put,jq5,jq6,jq7])
 go_cut [19] (fun v19 wc=>∃ (kq:Nat) (x19_2:Bool),v19=.bool x19_2∧O (qkj.j0 kq x19_2 a0_0 l0_1 l0_2 a1_0 a1_1 a1_2 a1_3 a1_4 a1_5 a1_6=some (r1,r2,r3))∧O (kq≤k)∧O (wc.heap[gb101]? = some (.cells #[.string a0_0,(.slice A0_1 l0_1.length c0_1),(.slice A0_2 l0_2.length c0_2)] 41 (0,0)))∧O (wc.heap[gb102]? = some (.cells #[.string a1_0,.int .i64 a1_1,.string a1_2,.int .i64 a1_3,.int .i64 a1_4,.string a1_5,.string a1_6] 30 (0,0)))∧O (wc.heap[gb103]? = some (.cells #[.string (⟨#[]⟩ : ByteArray),(.slice none 0 0),(.slice none 0 0)] 41 (0,0)))∧O (Below w.heap.size w wc))
 case first =>
  have H:=HC3.out;clear HC3;replace H:=jq8.mp H;obtain⟨t104,A70,H⟩:=H;try dsimp only at H
  have A7:=O.mk A70;clear A70
  by_cases c8:t104=true
  ·subst c8;have H1:((qvq.f k a1_0 a1_1 a1_2 a1_3 a1_4 a1_5 a1_6).bind fun t105=>(if t105=true then(qkj.j0 k ((l0_1.length:Int) == 20) a0_0 l0_1 l0_2 a1_0 a1_1 a1_2 a1_3 a1_4 a1_5 a1_6) else(qkj.j0 k true a0_0 l0_1 l0_2 a1_0 a1_1 a1_2 a1_3 a1_4 a1_5 a1_6)))=some (r1,r2,r3):=by rw[if_pos rfl] at H;exact H
   clear H;have H:=H1;clear H1;replace H:=jq8.mp H;obtain⟨t105,A90,H⟩:=H;try dsimp only at H
   have A9:=O.mk A90;clear A90
   by_cases c10:t105=true
   ·subst c10;have H1:(qkj.j0 k ((l0_1.length:Int) == 20) a0_0 l0_1 l0_2 a1_0 a1_1 a1_2 a1_3 a1_4 a1_5 a1_6)=some (r1,r2,r3):=by rw[if_pos rfl] at H;exact H
    clear H;have H:=H1;clear H1;have H':=O.mk H;clear H;have hnb11:=NB101_102.out;have hnc11:=NB102_101.out;have hnb12:=NB101_103.out;have hnc12:=NB103_101.out;obtain⟨y13_0,y13_1,y13_2,z13_0,z13_1,z13_2⟩:=bx3f BK101.out;go_wp2_with (first|((with_reducible refine jq (f:=28) rfl ?_);refine goesL_ (some 7) rfl rfl Tryz.func28 (by kernel_rfl) rfl #[.agg #[.string a0_0,.slice A0_1 l0_1.length c0_1,.slice A0_2 l0_2.length c0_2]] rfl (by(try simp only[jq0,jq1,jq2]);first|done|rfl|(simp only[jq3,jq4];rfl)) ?_;(with_reducible refine(qkx.calls k a0_0 _ _ l0_1 _ _ l0_2 true _ ?side1 ?side2 ?side3 ?side4 A7.out).mono ?_);(case side1=>solve_by_elim only[(Kd.C_below HR0_1.out HB.out),Kd.C_alloc,Kd.C_drewN,Kd.C_drew]);(case side2=>exact HC0_1.out);(case side3=>solve_by_elim only[(Kd.C_below HR0_2.out HB.out),Kd.C_alloc,Kd.C_drewN,Kd.C_drew]);(case side4=>exact HC0_2.out);rintro e w14 ⟨rfl,hb⟩;refine⟨_,rfl,?_⟩;replace BK101:=O.mk (kz (by solve_by_elim only[BK101.out,qv,qw,qk]) hb);replace BK102:=O.mk (kz (by solve_by_elim only[BK102.out,qv,qw,qk]) hb);replace BK103:=O.mk (kz (by solve_by_elim only[BK103.out,qv,qw,qk]) hb);replace HB:=O.mk (zq (by repeat(first|(with_reducible first|exact HB.out|apply J|apply L|apply I|refine qj ?_ GE101.out|refine qj ?_ GE102.out|refine qj ?_ GE103.out)|exact HB.out)) hb);(try clear hb);have hnb15:=NB102_103.out;have hnc15:=NB103_102.out;obtain⟨y16_0,y16_1,y16_2,y16_3,y16_4,y16_5,y16_6,z16_0,z16_1,z16_2,z16_3,z16_4,z16_5,z16_6⟩:=bx7f BK102.out)|(go_at_call 20;(with_reducible refine(qvq.calls k a1_0 a1_1 a1_2 a1_3 a1_4 a1_5 a1_6 true _ A9.out).mono ?_);rintro e w17 ⟨rfl,hb⟩;replace BK101:=O.mk (kz (by solve_by_elim only[BK101.out,qv,qw,qk]) hb);replace BK102:=O.mk (kz (by solve_by_elim only[BK102.out,qv,qw,qk]) hb);replace BK103:=O.mk (kz (by solve_by_elim only[BK103.out,qv,qw,qk]) hb);replace HB:=O.mk (zq (by repeat(first|(with_reducible first|exact HB.out|apply J|apply L|apply I|refine qj ?_ GE101.out|refine qj ?_ GE102.out|refine qj ?_ GE103.out)|exact HB.out)) hb);(try clear hb);obtain⟨y18_0,y18_1,y18_2,z18_0,z18_1,z18_2⟩:=bx3f BK101.out))
    go_meet
    case rel=>exact⟨_,(((l0_1.length:Int) == 20)),(by first|rfl|(simp;done)|(simp[*];done)),H',⟨by first|omega|exact Nat.le_refl _⟩,⟨by(with_reducible repeat(first|refine qv ?_ _|refine qw ?_|refine qk ?_ _));exact BK101.out⟩,⟨by(with_reducible repeat(first|refine qv ?_ _|refine qw ?_|refine qk ?_ _));exact BK102.out⟩,⟨by(with_reducible repeat(first|refine qv ?_ _|refine qw ?_|refine qk ?_ _));exact BK103.out⟩,⟨by repeat(first|(with_reducible first|exact HB.out|apply J|apply L|apply I|refine qj ?_ GE101.out|refine qj ?_ GE102.out|refine qj ?_ GE103.out)|exact HB.out)⟩⟩
   ·replace c10:=jq9.mpr c10;subst c10;have H1:(qkj.j0 k true a0_0 l0_1 l0_2 a1_0 a1_1 a1_2 a1_3 a1_4 a1_5 a1_6)=some (r1,r2,r3):=by rw[if_neg (show ¬ (false=true) by decide)] at H;exact H
    clear H;have H:=H1;clear H1;have H':=O.mk H;clear H;have hnb19:=NB101_102.out;have hnc19:=NB102_101.out;have hnb20:=NB101_103.out;have hnc20:=NB103_101.out;obtain⟨y21_0,y21_1,y21_2,z21_0,z21_1,z21_2⟩:=bx3f BK101.out;go_wp2_with (first|((with_reducible refine jq (f:=28) rfl ?_);refine goesL_ (some 7) rfl rfl Tryz.func28 (by kernel_rfl) rfl #[.agg #[.string a0_0,.slice A0_1 l0_1.length c0_1,.slice A0_2 l0_2.length c0_2]] rfl (by(try simp only[jq0,jq1,jq2]);first|done|rfl|(simp only[jq3,jq4];rfl)) ?_;(with_reducible refine(qkx.calls k a0_0 _ _ l0_1 _ _ l0_2 true _ ?side1 ?side2 ?side3 ?side4 A7.out).mono ?_);(case side1=>solve_by_elim only[(Kd.C_below HR0_1.out HB.out),Kd.C_alloc,Kd.C_drewN,Kd.C_drew]);(case side2=>exact HC0_1.out);(case side3=>solve_by_elim only[(Kd.C_below HR0_2.out HB.out),Kd.C_alloc,Kd.C_drewN,Kd.C_drew]);(case side4=>exact HC0_2.out);rintro e w22 ⟨rfl,hb⟩;refine⟨_,rfl,?_⟩;replace BK101:=O.mk (kz (by solve_by_elim only[BK101.out,qv,qw,qk]) hb);replace BK102:=O.mk (kz (by solve_by_elim only[BK102.out,qv,qw,qk]) hb);replace BK103:=O.mk (kz (by solve_by_elim only[BK103.out,qv,qw,qk]) hb);replace HB:=O.mk (zq (by repeat(first|(with_reducible first|exact HB.out|apply J|apply L|apply I|refine qj ?_ GE101.out|refine qj ?_ GE102.out|refine qj ?_ GE103.out)|exact HB.out)) hb);(try clear hb);have hnb23:=NB102_103.out;have hnc23:=NB103_102.out;obtain⟨y24_0,y24_1,y24_2,y24_3,y24_4,y24_5,y24_6,z24_0,z24_1,z24_2,z24_3,z24_4,z24_5,z24_6⟩:=bx7f BK102.out)|(go_at_call 20;(with_reducible refine(qvq.calls k a1_0 a1_1 a1_2 a1_3 a1_4 a1_5 a1_6 false _ A9.out).mono ?_);rintro e w25 ⟨rfl,hb⟩;replace BK101:=O.mk (kz (by solve_by_elim only[BK101.out,qv,qw,qk]) hb);replace BK102:=O.mk (kz (by solve_by_elim only[BK102.out,qv,qw,qk]) hb);replace BK103:=O.mk (kz (by solve_by_elim only[BK103.out,qv,qw,qk]) hb);replace HB:=O.mk (zq (by repeat(first|(with_reducible first|exact HB.out|apply J|apply L|apply I|refine qj ?_ GE101.out|refine qj ?_ GE102.out|refine qj ?_ GE103.out)|exact HB.out)) hb);(try clear hb)))
    go_meet
    case rel=>exact⟨_,(true),(by first|rfl|(simp;done)|(simp[*];done)),H',⟨by first|omega|exact Nat.le_refl _⟩,⟨by(with_reducible repeat(first|refine qv ?_ _|refine qw ?_|refine qk ?_ _));exact BK101.out⟩,⟨by(with_reducible repeat(first|refine qv ?_ _|refine qw ?_|refine qk ?_ _));exact BK102.out⟩,⟨by(with_reducible repeat(first|refine qv ?_ _|refine qw ?_|refine qk ?_ _));exact BK103.out⟩,⟨by repeat(first|(with_reducible first|exact HB.out|apply J|apply L|apply I|refine qj ?_ GE101.out|refine qj ?_ GE102.out|refine qj ?_ GE103.out)|exact HB.out)⟩⟩
  ·replace c8:=jq9.mpr c8;subst c8;have H1:(qkj.j0 k true a0_0 l0_1 l0_2 a1_0 a1_1 a1_2 a1_3 a1_4 a1_5 a1_6)=some (r1,r2,r3):=by rw[if_neg (show ¬ (false=true) by decide)] at H;exact H
   clear H;have H:=H1;clear H1;have H':=O.mk H;clear H;have hnb26:=NB101_102.out;have hnc26:=NB102_101.out;have hnb27:=NB101_103.out;have hnc27:=NB103_101.out;obtain⟨y28_0,y28_1,y28_2,z28_0,z28_1,z28_2⟩:=bx3f BK101.out;go_wp2_with (first|((with_reducible refine jq (f:=28) rfl ?_);refine goesL_ (some 7) rfl rfl Tryz.func28 (by kernel_rfl) rfl #[.agg #[.string a0_0,.slice A0_1 l0_1.length c0_1,.slice A0_2 l0_2.length c0_2]] rfl (by(try simp only[jq0,jq1,jq2]);first|done|rfl|(simp only[jq3,jq4];rfl)) ?_;(with_reducible refine(qkx.calls k a0_0 _ _ l0_1 _ _ l0_2 false _ ?side1 ?side2 ?side3 ?side4 A7.out).mono ?_);(case side1=>solve_by_elim only[(Kd.C_below HR0_1.out HB.out),Kd.C_alloc,Kd.C_drewN,Kd.C_drew]);(case side2=>exact HC0_1.out);(case side3=>solve_by_elim only[(Kd.C_below HR0_2.out HB.out),Kd.C_alloc,Kd.C_drewN,Kd.C_drew]);(case side4=>exact HC0_2.out);rintro e w29 ⟨rfl,hb⟩;refine⟨_,rfl,?_⟩;replace BK101:=O.mk (kz (by solve_by_elim only[BK101.out,qv,qw,qk]) hb);replace BK102:=O.mk (kz (by solve_by_elim only[BK102.out,qv,qw,qk]) hb);replace BK103:=O.mk (kz (by solve_by_elim only[BK103.out,qv,qw,qk]) hb);replace HB:=O.mk (zq (by repeat(first|(with_reducible first|exact HB.out|apply J|apply L|apply I|refine qj ?_ GE101.out|refine qj ?_ GE102.out|refine qj ?_ GE103.out)|exact HB.out)) hb);(try clear hb)))
   go_meet
   case rel=>exact⟨_,(true),(by first|rfl|(simp;done)|(simp[*];done)),H',⟨by first|omega|exact Nat.le_refl _⟩,⟨by(with_reducible repeat(first|refine qv ?_ _|refine qw ?_|refine qk ?_ _));exact BK101.out⟩,⟨by(with_reducible repeat(first|refine qv ?_ _|refine qw ?_|refine qk ?_ _));exact BK102.out⟩,⟨by(with_reducible repeat(first|refine qv ?_ _|refine qw ?_|refine qk ?_ _));exact BK103.out⟩,⟨by repeat(first|(with_reducible first|exact HB.out|apply J|apply L|apply I|refine qj ?_ GE101.out|refine qj ?_ GE102.out|refine qj ?_ GE103.out)|exact HB.out)⟩⟩
 case rest =>
  clear HC3;try clear c1
  try clear c2
  try clear p2
  try clear c8
  try clear c10
  try clear c11
  try clear c12
  try clear c15
  try clear c19
  try clear c20
  try clear c23
  try clear c26
  try clear c27
  try clear c28
  try clear y13_0 y13_1 y13_2 z13_0 z13_1 z13_2
  try clear y16_0 y16_1 y16_2 y16_3 y16_4 y16_5 y16_6 z16_0 z16_1 z16_2 z16_3 z16_4 z16_5 z16_6
  try clear y18_0 y18_1 y18_2 z18_0 z18_1 z18_2
  try clear y21_0 y21_1 y21_2 z21_0 z21_1 z21_2
  try clear y24_0 y24_1 y24_2 y24_3 y24_4 y24_5 y24_6 z24_0 z24_1 z24_2 z24_3 z24_4 z24_5 z24_6
  try clear y28_0 y28_1 y28_2 z28_0 z28_1 z28_2
  obtain⟨kq,x19_2,rfl,HA,HJ2,BK101,BK102,BK103,HB⟩:=hcut
  cases kq with
  | zero=>exact absurd HA.out (by simp[qkj.j0])
  | succ kj2 =>
   have H:=HA.out;clear HA;simp only[qkj.j0] at H
   by_cases c30:x19_2=true
   ·subst c30;have H1:(some ((⟨#[]⟩ : ByteArray),([]:List (S30)),([]:List Int)))=some (r1,r2,r3):=by rw[if_pos rfl] at H;exact H
    clear H;have H:=H1;clear H1;simp only[Option.some.injEq,Prod.mk.injEq] at H;obtain⟨rfl,rfl,rfl⟩:=H;have hnb31:=NB103_101.out;have hnc31:=NB101_103.out;have hnb32:=NB103_102.out;have hnc32:=NB102_103.out;obtain⟨y33_0,y33_1,y33_2,z33_0,z33_1,z33_2⟩:=bx3f BK103.out;go_wp2;refine bodyPost_ret (results_cell_row rfl _ _ gb103 41 #[.string (⟨#[]⟩ : ByteArray),.slice none 0 0,.slice none 0 0] (0,0) _ rfl (by(with_reducible repeat(first|refine qv ?_ _|refine qw ?_|refine qk ?_ _));refine blk_put (cs:=#[.string (⟨#[]⟩ : ByteArray),.slice none 0 0,.slice none 0 0]) ?_ 2 _ rfl;(with_reducible repeat(first|refine qv ?_ _|refine qw ?_|refine qk ?_ _));refine blk_put (cs:=#[.string (⟨#[]⟩ : ByteArray),.slice none 0 0,.slice none 0 0]) ?_ 1 _ rfl;(with_reducible repeat(first|refine qv ?_ _|refine qw ?_|refine qk ?_ _));refine blk_put (cs:=#[.string (⟨#[]⟩ : ByteArray),.slice none 0 0,.slice none 0 0]) ?_ 0 _ rfl;(with_reducible repeat(first|refine qv ?_ _|refine qw ?_|refine qk ?_ _));exact BK103.out) Tryz.underlying41 rfl (by kernel_rfl)) rfl ?_;exact⟨_,_,by first|rfl|(simp[*,zx,zw] <;> rfl),by first|exact Kd.R_nil _ _ _ _ _|exact Kd.N_nil _ _ _ _ _|exact Kd.V_nil _ _ _ _ _|exact Kd.Q_nil _ _ _ _ _|exact Kd.S_nil _ _ _ _ _,by first|exact Kd.R_nil _ _ _ _ _|exact Kd.N_nil _ _ _ _ _|exact Kd.V_nil _ _ _ _ _|exact Kd.Q_nil _ _ _ _ _|exact Kd.S_nil _ _ _ _ _,by repeat(first|(with_reducible first|exact HB.out|apply J|apply L|apply I|refine qj ?_ GE101.out|refine qj ?_ GE102.out|refine qj ?_ GE103.out)|exact HB.out)⟩
   ·replace c30:=jq9.mpr c30;subst c30;have H1:(if ([]:List (S30)).length + l0_1.length < 1599289640401 then((some (([]:List (S30)) ++ l0_1:List (S30))).bind fun y106=>((some (([(⟨a1_0,a1_1,a1_2,(⟨a1_3,a1_4,a1_5,a1_6⟩ : S28)⟩ : S30)]:List (S30)):List (S30))).bind fun y109=>(if y106.length + y109.length < 1599289640401 then((qkw.f kj2 a1_0 a1_1 a1_2 a1_3 a1_4 a1_5 a1_6).bind fun t115=>((bytesOfS.f t115).bind fun t116=>((qww.f kj2 l0_2 t116).bind fun t119=>(some (a0_0,(y106 ++ y109),t119))))) else(none)))) else(none))=some (r1,r2,r3):=by rw[if_neg (show ¬ (false=true) by decide)] at H;exact H
    clear H;have H:=H1;clear H1
    by_cases c34:([]:List (S30)).length + l0_1.length < 1599289640401
    ·rw[if_pos c34] at H;have LMc34:=O.mk c34;clear c34;obtain⟨y106,hy106⟩ : ∃ y_:List (S30),y_=(([]:List (S30)) ++ l0_1):=⟨_,rfl⟩;replace H:((some (([(⟨a1_0,a1_1,a1_2,(⟨a1_3,a1_4,a1_5,a1_6⟩ : S28)⟩ : S30)]:List (S30)):List (S30))).bind fun y109=>(if y106.length + y109.length < 1599289640401 then((qkw.f kj2 a1_0 a1_1 a1_2 a1_3 a1_4 a1_5 a1_6).bind fun t115=>((bytesOfS.f t115).bind fun t116=>((qww.f kj2 l0_2 t116).bind fun t119=>(some (a0_0,(y106 ++ y109),t119))))) else(none)))=some (r1,r2,r3):=by first|(rw[hy106];with_reducible exact H)|(have H2_:=(Option.bind_some _ _).symm.trans H;rw[hy106];with_reducible exact H2_)|(have H2_:=(Option.bind_some _ _).symm.trans H;with_reducible exact H2_)|with_reducible exact H|(rw[hy106];exact H)|exact H
     have Ny106:=O.mk hy106;clear hy106;obtain⟨y109,hy109⟩ : ∃ y_:List (S30),y_=(([(⟨a1_0,a1_1,a1_2,(⟨a1_3,a1_4,a1_5,a1_6⟩ : S28)⟩ : S30)]:List (S30))):=⟨_,rfl⟩;replace H:(if y106.length + y109.length < 1599289640401 then((qkw.f kj2 a1_0 a1_1 a1_2 a1_3 a1_4 a1_5 a1_6).bind fun t115=>((bytesOfS.f t115).bind fun t116=>((qww.f kj2 l0_2 t116).bind fun t119=>(some (a0_0,(y106 ++ y109),t119))))) else(none))=some (r1,r2,r3):=by first|(rw[hy109];with_reducible exact H)|(have H2_:=(Option.bind_some _ _).symm.trans H;rw[hy109];with_reducible exact H2_)|(have H2_:=(Option.bind_some _ _).symm.trans H;with_reducible exact H2_)|with_reducible exact H|(rw[hy109];exact H)|exact H
     have Ny109:=O.mk hy109;clear hy109
     by_cases c35:y106.length + y109.length < 1599289640401
     ·rw[if_pos c35] at H;have LMc35:=O.mk c35;clear c35;obtain⟨y112,hy112⟩ : ∃ y_:List (S30),y_=(y106 ++ y109):=⟨_,rfl⟩;replace H:((qkw.f kj2 a1_0 a1_1 a1_2 a1_3 a1_4 a1_5 a1_6).bind fun t115=>((bytesOfS.f t115).bind fun t116=>((qww.f kj2 l0_2 t116).bind fun t119=>(some (a0_0,y112,t119)))))=some (r1,r2,r3):=by first|(rw[hy112];with_reducible exact H)|(have H2_:=(Option.bind_some _ _).symm.trans H;rw[hy112];with_reducible exact H2_)|(have H2_:=(Option.bind_some _ _).symm.trans H;with_reducible exact H2_)|with_reducible exact H|(rw[hy112];exact H)|exact H
      have Ny112:=O.mk hy112;clear hy112;replace H:=jq8.mp H;obtain⟨t115,A360,H⟩:=H;try dsimp only at H
      have A36:=O.mk A360;clear A360;replace H:=jq8.mp H;obtain⟨t116,A370,H⟩:=H;try dsimp only at H
      have A37:=O.mk A370;clear A370;replace H:=jq8.mp H;obtain⟨t119,A380,H⟩:=H;try dsimp only at H
      have A38:=O.mk A380;clear A380;simp only[Option.some.injEq,Prod.mk.injEq] at H;obtain⟨rfl,rfl,rfl⟩:=H;try go_wp2
      replace BK101:=O.mk (qw BK101.out);replace BK102:=O.mk (qw BK102.out);replace BK103:=O.mk (qw BK103.out);replace HB:=O.mk (I HB.out);refine start_ (n:=17) (S:=fun w'=>w'.cell? ⟨gb101,0,none⟩ = some (.string a0_0)∧w'.cell? ⟨gb101,1,none⟩ = some (.slice A0_1 l0_1.length c0_1)∧w'.cell? ⟨gb101,2,none⟩ = some (.slice A0_2 l0_2.length c0_2)∧w'.cell? ⟨gb102,0,none⟩ = some (.string a1_0)∧w'.cell? ⟨gb102,1,none⟩ = some (.int .i64 a1_1)∧w'.cell? ⟨gb102,2,none⟩ = some (.string a1_2)∧w'.cell? ⟨gb102,3,none⟩ = some (.int .i64 a1_3)∧w'.cell? ⟨gb102,4,none⟩ = some (.int .i64 a1_4)∧w'.cell? ⟨gb102,5,none⟩ = some (.string a1_5)∧w'.cell? ⟨gb102,6,none⟩ = some (.string a1_6)) (ds:=[]) #[U,U,U,U,U,U,U,U,U,U,U,U,U,U,U,U,U] (by kernel_rfl) rfl rfl ⟨(qz BK101.out 0).trans rfl,(qz BK101.out 1).trans rfl,(qz BK101.out 2).trans rfl,(qz BK102.out 0).trans rfl,(qz BK102.out 1).trans rfl,(qz BK102.out 2).trans rfl,(qz BK102.out 3).trans rfl,(qz BK102.out 4).trans rfl,(qz BK102.out 5).trans rfl,(qz BK102.out 6).trans rfl⟩ (fun hHeld=>?_);refine with_tabW qkj.tab4 qkj.bits4 (fun HT_ HW_=>?_)
      generalize wc.drew=w39 at BK101 BK102 BK103 HB hHeld ⊢;refine pure_ (i:=0) (N:=some 21) (v:=?_) (a':=?_) #[Z,U,U,U,U,U,U,U,U,U,U,U,U,U,U,U,U] rfl rfl (any_of HT_.out (by kernel_rfl)) (fun _ _ _ h=>h) (Or.inl ⟨by rfl,?_⟩) ?_ ?_;rotate_left
      ·intro w'
       go_simp
       with_reducible rfl
      rotate_left
      ·simp only[Act.put,jq5,jq6,jq7,i64_w,i32_w]
       rfl
      refine pure_ (i:=2) (N:=some 23) (v:=?_) (a':=?_) #[Z,U,Z,U,U,U,U,U,U,U,U,U,U,U,U,U,U] rfl rfl (any_of HT_.out (by kernel_rfl)) (fun _ _ _ h=>h) (Or.inl ⟨by rfl,?_⟩) ?_ ?_;rotate_left
      ·intro w'
       go_simp
       with_reducible rfl
      rotate_left
      ·simp only[Act.put,jq5,jq6,jq7,i64_w,i32_w]
       rfl
      refine pure_ (i:=3) (N:=some 24) (v:=?_) (a':=?_) #[Z,U,Z,Z,U,U,U,U,U,U,U,U,U,U,U,U,U] rfl rfl (any_of HT_.out (by kernel_rfl)) (fun _ _ _ h=>h) (Or.inl ⟨by rfl,?_⟩) ?_ ?_;rotate_left
      ·intro w'
       go_simp
       with_reducible rfl
      rotate_left
      ·simp only[Act.put,jq5,jq6,jq7,i64_w,i32_w]
       rfl
      refine pure_ (i:=9) (N:=some 30) (v:=?_) (a':=?_) #[Z,U,Z,Z,U,U,U,U,U,Z,U,U,U,U,U,U,U] rfl rfl (any_of HT_.out (by kernel_rfl)) (fun _ _ _ h=>h) (Or.inl ⟨by rfl,?_⟩) ?_ ?_;rotate_left
      ·intro w'
       go_simp
       with_reducible rfl
      rotate_left
      ·simp only[Act.put,jq5,jq6,jq7,i64_w,i32_w]
       rfl
      refine take_ (i:=1) (N:=some 22) (v:=?_) (a':=?_) #[Z,Z,Z,Z,U,U,U,U,U,Z,U,U,U,U,U,U,U] rfl rfl (take_ofW HT_.out HW_.out (by kernel_rfl)) (fun _ _ _ h=>h) (Or.inl ⟨by rfl,?_⟩) hHeld ?_ ?_;rotate_left
      ·rintro w' ⟨s0,s1,s2,s3,s4,s5,s6,s7,s8,s9⟩
       go_simp
       with_reducible rfl
      rotate_left
      ·simp only[Act.put,jq5,jq6,jq7,i64_w,i32_w]
       rfl
      refine take_ (i:=4) (N:=some 25) (v:=?_) (a':=?_) #[Z,Z,Z,Z,Z,U,U,U,U,Z,U,U,U,U,U,U,U] rfl rfl (take_ofW HT_.out HW_.out (by kernel_rfl)) (fun _ _ _ h=>h) (Or.inl ⟨by rfl,?_⟩) hHeld ?_ ?_;rotate_left
      ·rintro w' ⟨s0,s1,s2,s3,s4,s5,s6,s7,s8,s9⟩
       go_simp
       with_reducible rfl
      rotate_left
      ·simp only[Act.put,jq5,jq6,jq7,i64_w,i32_w]
       rfl
      refine take_ (i:=6) (N:=some 27) (v:=?_) (a':=?_) #[Z,Z,Z,Z,Z,U,Z,U,U,Z,U,U,U,U,U,U,U] rfl rfl (take_ofW HT_.out HW_.out (by kernel_rfl)) (fun _ _ _ h=>h) (Or.inl ⟨by rfl,?_⟩) hHeld ?_ ?_;rotate_left
      ·rintro w' ⟨s0,s1,s2,s3,s4,s5,s6,s7,s8,s9⟩
       go_simp
       with_reducible rfl
      rotate_left
      ·simp only[Act.put,jq5,jq6,jq7,i64_w,i32_w]
       rfl
      refine take_ (i:=10) (N:=some 31) (v:=?_) (a':=?_) #[Z,Z,Z,Z,Z,U,Z,U,U,Z,Z,U,U,U,U,U,U] rfl rfl (take_ofW HT_.out HW_.out (by kernel_rfl)) (fun _ _ _ h=>h) (Or.inl ⟨by rfl,?_⟩) hHeld ?_ ?_;rotate_left
      ·rintro w' ⟨s0,s1,s2,s3,s4,s5,s6,s7,s8,s9⟩
       go_simp
       with_reducible rfl
      rotate_left
      ·simp only[Act.put,jq5,jq6,jq7,i64_w,i32_w]
       rfl
      refine take_ (i:=11) (N:=some 32) (v:=?_) (a':=?_) #[Z,Z,Z,Z,Z,U,Z,U,U,Z,Z,Z,U,U,U,U,U] rfl rfl (take_ofW HT_.out HW_.out (by kernel_rfl)) (fun _ _ _ h=>h) (Or.inl ⟨by rfl,?_⟩) hHeld ?_ ?_;rotate_left
      ·rintro w' ⟨s0,s1,s2,s3,s4,s5,s6,s7,s8,s9⟩
       go_simp
       with_reducible rfl
      rotate_left
      ·simp only[Act.put,jq5,jq6,jq7,i64_w,i32_w]
       rfl
      refine join_ (σ:=Value × Value) 6 #[Z,Z,Z,Z,Z,Z,Z,Z,U,Z,Z,Z,U,U,U,U,U] (fun s_=>[(26,s_.1),(28,s_.2)]) (fun s_ w'=>(w'.cell? ⟨gb101,0,none⟩ = some (.string a0_0)∧w'.cell? ⟨gb101,1,none⟩ = some (.slice A0_1 l0_1.length c0_1)∧w'.cell? ⟨gb101,2,none⟩ = some (.slice A0_2 l0_2.length c0_2)∧w'.cell? ⟨gb102,0,none⟩ = some (.string a1_0)∧w'.cell? ⟨gb102,1,none⟩ = some (.int .i64 a1_1)∧w'.cell? ⟨gb102,2,none⟩ = some (.string a1_2)∧w'.cell? ⟨gb102,3,none⟩ = some (.int .i64 a1_3)∧w'.cell? ⟨gb102,4,none⟩ = some (.int .i64 a1_4)∧w'.cell? ⟨gb102,5,none⟩ = some (.string a1_5)∧w'.cell? ⟨gb102,6,none⟩ = some (.string a1_6))∧(Kd.R k30 30 w' w.heap.size (fun k_=>some k_≠(s_.2:Value).ownBlock∧k_≠gb102) s_.1 y106)∧(Kd.R k30 30 w' w.heap.size (fun k_=>some k_≠(s_.1:Value).ownBlock∧k_≠gb102) s_.2 y109)∧(w'.heap[gb101]? = some (.cells #[.string a0_0,.slice A0_1 l0_1.length c0_1,.slice A0_2 l0_2.length c0_2] 41 (0,0)))∧(w'.heap[gb102]? = some (.cells #[.string a1_0,.int .i64 a1_1,.string a1_2,.int .i64 a1_3,.int .i64 a1_4,.string a1_5,.string a1_6] 30 (0,0)))∧(w'.heap[gb103]? = some (.cells #[.string (⟨#[]⟩ : ByteArray),.slice none 0 0,.slice none 0 0] 41 (0,0)))∧(Below w.heap.size w w')) ?_ ?_;rotate_left
      ·intro hCont
       refine two_ (i:=5) (j:=7) (Ni:=some 26) (Nj:=some 28) #[Z,Z,Z,Z,Z,Z,Z,U,U,Z,Z,Z,U,U,U,U,U] #[Z,Z,Z,Z,Z,U,Z,Z,U,Z,Z,Z,U,U,U,U,U] rfl rfl rfl rfl (two_of HT_.out (by kernel_rfl)) (by decide) (by decide) (fun K hK=>?_) (fun K hK=>?_)
       ·skip
        refine Kd.R_append_rows_step k30 (w0:=w) w.heap.size (by rfl) (.tmp 23) (.tmp 25) 39 30 (.agg #[(.string ⟨#[]⟩),(.int .i64 0),(.string ⟨#[]⟩),(.int .i64 0),(.int .i64 0),(.string ⟨#[]⟩),(.string ⟨#[]⟩)]) 88 rfl Tryz.underlying39 info30 rfl (by decide) (by omega) (.slice none 0 0) ([]:List (S30)) l0_1 _ _ _ (fun k_=>k_≠gb102) (fun _=>False) rfl rfl ?aO ?aR (fun _ _ h=>h) (fun _ h=>h.elim) ?aF ?aB ?aS ?aL ?_
        (case aR=>repeat(first|exact(Kd.C_below HR0_1.out HB.out)|(with_reducible refine Kd.C_alloc ?_ _)|(with_reducible refine Kd.C_drewN ?_ _)|(with_reducible refine Kd.C_drew ?_)))
        (case aB=>exact(by repeat(first|(with_reducible first|exact HB.out|apply J|apply L|apply I|refine qj ?_ GE101.out|refine qj ?_ GE102.out|refine qj ?_ GE103.out)|exact HB.out)))
        (case aF=>exact(fun k_ hk=>Kd.freshB (g:=gb102) (o:=.cells #[.string a1_0,.int .i64 a1_1,.string a1_2,.int .i64 a1_3,.int .i64 a1_4,.string a1_5,.string a1_6] 30 (0,0)) (by solve_by_elim only[BK102.out,qv,qw,qk]) k_ hk))
        (case aO=>exact((Kd.R_nil _ _ _ _ (fun k_=>k_≠gb102))))
        (case aS=>exact(zz (by repeat(first|(with_reducible first|exact HB.out|apply J|apply L|apply I|refine qj ?_ GE101.out|refine qj ?_ GE102.out|refine qj ?_ GE103.out)|exact HB.out))))
        (case aL=>have:=LMc34.out;omega)
        intro v107 w40 ho hb hg hat
        rw[← Ny106.out] at ho;replace BK101:=O.mk (blk_grown (by solve_by_elim only[BK101.out,qv,qw,qk]) hg (by simp[Value.ownBlock]));replace BK102:=O.mk (blk_grown (by solve_by_elim only[BK102.out,qv,qw,qk]) hg (by simp[Value.ownBlock]));replace BK103:=O.mk (blk_grown (by solve_by_elim only[BK103.out,qv,qw,qk]) hg (by simp[Value.ownBlock]));replace HB:=O.mk (hb);have HO108:=O.mk (ho);clear ho hb hg hat;refine hK.out _ _ (by(repeat' apply And.intro) <;> first|exact(qz BK101.out _).trans rfl|exact(qz BK102.out _).trans rfl) (fun hHeld=>?_);clear hK K;refine norm_ (a':=?_) ?_ ?_;rotate_left
        ·show Act.put _ (some 26) _=_
         simp only[Act.put,jq5,jq6,jq7,i64_w,i32_w]
         rfl
        refine one_ (i:=7) (N:=some 28) #[Z,Z,Z,Z,Z,Z,Z,Z,U,Z,Z,Z,U,U,U,U,U] rfl rfl (one_of HT_.out (by kernel_rfl)) (by decide) (fun K hK=>?_);refine Kd.R_lit_step k30 _ 30 ?hg (N:=28) ?hd (xs:=([(⟨a1_0,a1_1,a1_2,(⟨a1_3,a1_4,a1_5,a1_6⟩ : S28)⟩ : S30)]:List (S30))) (inner:=[.string a1_0,.int .i64 a1_1,.string a1_2,.int .i64 a1_3,.int .i64 a1_4,.string a1_5,.string a1_6]) (ok:=fun _=>True) (okp:=fun _=>True) ?hr ?hp (fun _ hk=>hk) trivial (Below.refl _ _) (Nat.le_refl _) (by simp) ?_;(case hd=>rfl);(case hg=>rfl);(case hr=>first|(go_simp;done)|(go_simp;rfl));(case hp=>exact(Reps.c7 (show Kd.M k30 _ _ _ (⟨a1_0,a1_1,a1_2,(⟨a1_3,a1_4,a1_5,a1_6⟩ : S28)⟩ : S30) [.string a1_0,.int .i64 a1_1,.string a1_2,.int .i64 a1_3,.int .i64 a1_4,.string a1_5,.string a1_6] from(k30_mkM _ _ _ (⟨a1_0,a1_1,a1_2,(⟨a1_3,a1_4,a1_5,a1_6⟩ : S28)⟩ : S30) )) (Reps.none _ _)))
        intro v110 w41 ho42 hb hg_ hnew_
        clear hg_ hnew_
        (first|rw[← Ny109.out] at ho42|(simp only[Int.reduceToNat] at ho42;rw[← Ny109.out] at ho42))
        have HO111:=O.mk (Kd.R_lower (Kd.R_newB (Kd.R_new' ho42 (Kd.R_lt (by solve_by_elim only[HO108.out,Kd.zk,Kd.zj,Kd.zv]))) (g:=gb102) (o:=.cells #[.string a1_0,.int .i64 a1_1,.string a1_2,.int .i64 a1_3,.int .i64 a1_4,.string a1_5,.string a1_6] 30 (0,0)) (by solve_by_elim only[BK102.out,qv,qw,qk])) (zz (by repeat(first|(with_reducible first|exact HB.out|apply J|apply L|apply I|refine qj ?_ GE101.out|refine qj ?_ GE102.out|refine qj ?_ GE103.out)|exact HB.out))));replace HO108:=O.mk (Kd.R_elder' (by solve_by_elim only[HO108.out,Kd.zk,Kd.zj,Kd.zv]) (Kd.R_base ho42) hb);replace BK101:=O.mk (kz (by solve_by_elim only[BK101.out,qv,qw,qk]) hb);replace BK102:=O.mk (kz (by solve_by_elim only[BK102.out,qv,qw,qk]) hb);replace BK103:=O.mk (kz (by solve_by_elim only[BK103.out,qv,qw,qk]) hb);replace HB:=O.mk (zq (by repeat(first|(with_reducible first|exact HB.out|apply J|apply L|apply I|refine qj ?_ GE101.out|refine qj ?_ GE102.out|refine qj ?_ GE103.out)|exact HB.out)) hb);clear hb ho42;refine hK.out _ _ (by(repeat' apply And.intro) <;> first|exact(qz BK101.out _).trans rfl|exact(qz BK102.out _).trans rfl) (fun hHeld=>?_);clear hK K;refine norm_ (a':=?_) ?_ ?_;rotate_left
        ·show Act.put _ (some 28) _=_
         simp only[Act.put,jq5,jq6,jq7,i64_w,i32_w]
         rfl
        exact norm_ (by simp only[putAll,Act.put,jq5,jq6,jq7]) (hCont (v107,v110) _ ⟨hHeld,(by(with_reducible repeat(first|apply Kd.zk|apply Kd.zj|apply Kd.zv));exact Kd.R_mono HO108.out (fun _ hk=>⟨hk.2,hk.1⟩)),(by(with_reducible repeat(first|apply Kd.zk|apply Kd.zj|apply Kd.zv));exact Kd.R_mono HO111.out (fun _ hk=>⟨hk.1.2,hk.2⟩)),(by solve_by_elim only[BK101.out,qv,qw,qk]),(by solve_by_elim only[BK102.out,qv,qw,qk]),(by solve_by_elim only[BK103.out,qv,qw,qk]),(by repeat(first|(with_reducible first|exact HB.out|apply J|apply L|apply I|refine qj ?_ GE101.out|refine qj ?_ GE102.out|refine qj ?_ GE103.out)|exact HB.out))⟩)
       ·skip
        refine Kd.R_lit_step k30 _ 30 ?hg (N:=28) ?hd (xs:=([(⟨a1_0,a1_1,a1_2,(⟨a1_3,a1_4,a1_5,a1_6⟩ : S28)⟩ : S30)]:List (S30))) (inner:=[.string a1_0,.int .i64 a1_1,.string a1_2,.int .i64 a1_3,.int .i64 a1_4,.string a1_5,.string a1_6]) (ok:=fun _=>True) (okp:=fun _=>True) ?hr ?hp (fun _ hk=>hk) trivial (Below.refl _ _) (Nat.le_refl _) (by simp) ?_;(case hd=>rfl);(case hg=>rfl);(case hr=>first|(go_simp;done)|(go_simp;rfl));(case hp=>exact(Reps.c7 (show Kd.M k30 _ _ _ (⟨a1_0,a1_1,a1_2,(⟨a1_3,a1_4,a1_5,a1_6⟩ : S28)⟩ : S30) [.string a1_0,.int .i64 a1_1,.string a1_2,.int .i64 a1_3,.int .i64 a1_4,.string a1_5,.string a1_6] from(k30_mkM _ _ _ (⟨a1_0,a1_1,a1_2,(⟨a1_3,a1_4,a1_5,a1_6⟩ : S28)⟩ : S30) )) (Reps.none _ _)))
        intro v110 w40 ho41 hb hg_ hnew_
        clear hg_ hnew_
        (first|rw[← Ny109.out] at ho41|(simp only[Int.reduceToNat] at ho41;rw[← Ny109.out] at ho41))
        have HO111:=O.mk (Kd.R_lower (Kd.R_newB ho41 (g:=gb102) (o:=.cells #[.string a1_0,.int .i64 a1_1,.string a1_2,.int .i64 a1_3,.int .i64 a1_4,.string a1_5,.string a1_6] 30 (0,0)) (by solve_by_elim only[BK102.out,qv,qw,qk])) (zz (by repeat(first|(with_reducible first|exact HB.out|apply J|apply L|apply I|refine qj ?_ GE101.out|refine qj ?_ GE102.out|refine qj ?_ GE103.out)|exact HB.out))));replace BK101:=O.mk (kz (by solve_by_elim only[BK101.out,qv,qw,qk]) hb);replace BK102:=O.mk (kz (by solve_by_elim only[BK102.out,qv,qw,qk]) hb);replace BK103:=O.mk (kz (by solve_by_elim only[BK103.out,qv,qw,qk]) hb);replace HB:=O.mk (zq (by repeat(first|(with_reducible first|exact HB.out|apply J|apply L|apply I|refine qj ?_ GE101.out|refine qj ?_ GE102.out|refine qj ?_ GE103.out)|exact HB.out)) hb);clear hb ho41;refine hK.out _ _ (by(repeat' apply And.intro) <;> first|exact(qz BK101.out _).trans rfl|exact(qz BK102.out _).trans rfl) (fun hHeld=>?_);clear hK K;refine norm_ (a':=?_) ?_ ?_;rotate_left
        ·show Act.put _ (some 28) _=_
         simp only[Act.put,jq5,jq6,jq7,i64_w,i32_w]
         rfl
        refine one_ (i:=5) (N:=some 26) #[Z,Z,Z,Z,Z,Z,Z,Z,U,Z,Z,Z,U,U,U,U,U] rfl rfl (one_of HT_.out (by kernel_rfl)) (by decide) (fun K hK=>?_);refine Kd.R_append_rows_step k30 (w0:=w) w.heap.size (by rfl) (.tmp 23) (.tmp 25) 39 30 (.agg #[(.string ⟨#[]⟩),(.int .i64 0),(.string ⟨#[]⟩),(.int .i64 0),(.int .i64 0),(.string ⟨#[]⟩),(.string ⟨#[]⟩)]) 88 rfl Tryz.underlying39 info30 rfl (by decide) (by omega) (.slice none 0 0) ([]:List (S30)) l0_1 _ _ _ (fun k_=>some k_≠(v110:Value).ownBlock∧k_≠gb102) (fun _=>False) rfl rfl ?aO ?aR (fun _ _ h=>h) (fun _ h=>h.elim) ?aF ?aB ?aS ?aL ?_
        (case aR=>repeat(first|exact(Kd.C_below HR0_1.out HB.out)|(with_reducible refine Kd.C_alloc ?_ _)|(with_reducible refine Kd.C_drewN ?_ _)|(with_reducible refine Kd.C_drew ?_)))
        (case aB=>exact(by repeat(first|(with_reducible first|exact HB.out|apply J|apply L|apply I|refine qj ?_ GE101.out|refine qj ?_ GE102.out|refine qj ?_ GE103.out)|exact HB.out)))
        (case aF=>exact(fun k_ hk=>⟨Kd.fresh' (Kd.R_lt (by solve_by_elim only[HO111.out,Kd.zk,Kd.zj,Kd.zv])) k_ hk,Kd.freshB (g:=gb102) (o:=.cells #[.string a1_0,.int .i64 a1_1,.string a1_2,.int .i64 a1_3,.int .i64 a1_4,.string a1_5,.string a1_6] 30 (0,0)) (by solve_by_elim only[BK102.out,qv,qw,qk]) k_ hk⟩))
        (case aO=>exact((Kd.R_nil _ _ _ _ (fun k_=>some k_≠(v110:Value).ownBlock∧k_≠gb102))))
        (case aS=>exact(zz (by repeat(first|(with_reducible first|exact HB.out|apply J|apply L|apply I|refine qj ?_ GE101.out|refine qj ?_ GE102.out|refine qj ?_ GE103.out)|exact HB.out))))
        (case aL=>have:=LMc34.out;omega)
        intro v107 w42 ho hb hg hat
        rw[← Ny106.out] at ho;replace BK101:=O.mk (blk_grown (by solve_by_elim only[BK101.out,qv,qw,qk]) hg (by simp[Value.ownBlock]));replace BK102:=O.mk (blk_grown (by solve_by_elim only[BK102.out,qv,qw,qk]) hg (by simp[Value.ownBlock]));replace BK103:=O.mk (blk_grown (by solve_by_elim only[BK103.out,qv,qw,qk]) hg (by simp[Value.ownBlock]));replace HO111:=O.mk (Kd.R_after (Kd.R_apart_nil (by solve_by_elim only[HO111.out,Kd.zk,Kd.zj,Kd.zv])) hg hat);replace HB:=O.mk (hb);have HO108:=O.mk (ho);clear ho hb hg hat;refine hK.out _ _ (by(repeat' apply And.intro) <;> first|exact(qz BK101.out _).trans rfl|exact(qz BK102.out _).trans rfl) (fun hHeld=>?_);clear hK K;refine norm_ (a':=?_) ?_ ?_;rotate_left
        ·show Act.put _ (some 26) _=_
         simp only[Act.put,jq5,jq6,jq7,i64_w,i32_w]
         rfl
        exact norm_ (by simp only[putAll,Act.put,jq5,jq6,jq7]) (hCont (v107,v110) _ ⟨hHeld,(by solve_by_elim only[HO108.out,Kd.zk,Kd.zj,Kd.zv]),(by(with_reducible repeat(first|apply Kd.zk|apply Kd.zj|apply Kd.zv));exact Kd.R_mono HO111.out (fun _ hk=>⟨hk.2,hk.1.2⟩)),(by solve_by_elim only[BK101.out,qv,qw,qk]),(by solve_by_elim only[BK102.out,qv,qw,qk]),(by solve_by_elim only[BK103.out,qv,qw,qk]),(by repeat(first|(with_reducible first|exact HB.out|apply J|apply L|apply I|refine qj ?_ GE101.out|refine qj ?_ GE102.out|refine qj ?_ GE103.out)|exact HB.out))⟩)
      rintro ⟨v107,v110⟩ w43 ⟨hS_,h0_,h1_,h2_,h3_,h4_,h5_⟩
      have n0_:O (Kd.R k30 30 w43 w.heap.size (fun k_=>some k_≠(v110:Value).ownBlock∧k_≠gb102) v107 y106):=⟨h0_⟩;have n1_:O (Kd.R k30 30 w43 w.heap.size (fun k_=>some k_≠(v107:Value).ownBlock∧k_≠gb102) v110 y109):=⟨h1_⟩;have n2_:O (w43.heap[gb101]? = some (.cells #[.string a0_0,.slice A0_1 l0_1.length c0_1,.slice A0_2 l0_2.length c0_2] 41 (0,0))):=⟨h2_⟩;have n3_:O (w43.heap[gb102]? = some (.cells #[.string a1_0,.int .i64 a1_1,.string a1_2,.int .i64 a1_3,.int .i64 a1_4,.string a1_5,.string a1_6] 30 (0,0))):=⟨h3_⟩;have n4_:O (w43.heap[gb103]? = some (.cells #[.string (⟨#[]⟩ : ByteArray),.slice none 0 0,.slice none 0 0] 41 (0,0))):=⟨h4_⟩;have n5_:O (Below w.heap.size w w43):=⟨h5_⟩;clear BK101;clear BK102;clear BK103;clear HB;clear h0_ h1_ h2_ h3_ h4_ h5_;have HO108:=n0_;have HO111:=n1_;have BK101:=n2_;have BK102:=n3_;have BK103:=n4_;have HB:=n5_;clear n0_ n1_ n2_ n3_ n4_ n5_;have hHeld:w43.cell? ⟨gb101,0,none⟩ = some (.string a0_0)∧w43.cell? ⟨gb101,1,none⟩ = some (.slice A0_1 l0_1.length c0_1)∧w43.cell? ⟨gb101,2,none⟩ = some (.slice A0_2 l0_2.length c0_2)∧w43.cell? ⟨gb102,0,none⟩ = some (.string a1_0)∧w43.cell? ⟨gb102,1,none⟩ = some (.int .i64 a1_1)∧w43.cell? ⟨gb102,2,none⟩ = some (.string a1_2)∧w43.cell? ⟨gb102,3,none⟩ = some (.int .i64 a1_3)∧w43.cell? ⟨gb102,4,none⟩ = some (.int .i64 a1_4)∧w43.cell? ⟨gb102,5,none⟩ = some (.string a1_5)∧w43.cell? ⟨gb102,6,none⟩ = some (.string a1_6):=hS_;obtain⟨Ao45,co45,eo45⟩:=Kd.R_slice HO111.out
      (first|subst eo45|(injection eo45 with f1_ f2_ f3_;have f4_:=f1_.symm;have f5_:=f3_.symm;clear f1_ f2_ f3_;subst f4_;subst f5_))
      refine norm_ (a':=?_) ?_ ?_;rotate_left
      ·simp only[putAll,Act.put,jq5,jq6,jq7]
       rfl
      refine one_ (i:=8) (N:=some 29) #[Z,Z,Z,Z,Z,Z,Z,Z,Z,Z,Z,Z,U,U,U,U,U] rfl rfl (one_of HT_.out (by kernel_rfl)) (by decide) (fun K hK=>?_);refine Kd.R_append_rows_step k30 (w0:=w) w.heap.size (by rfl) (.tmp 26) (.tmp 28) 39 30 (.agg #[(.string ⟨#[]⟩),(.int .i64 0),(.string ⟨#[]⟩),(.int .i64 0),(.int .i64 0),(.string ⟨#[]⟩),(.string ⟨#[]⟩)]) 88 rfl Tryz.underlying39 info30 rfl (by decide) (by omega) v107 y106 y109 _ _ _ (fun k_=>some k_≠(.slice Ao45 y109.length co45:Value).ownBlock∧k_≠gb102) (fun _=>False) rfl rfl ?aO ?aR (fun _ _ h=>h) (fun _ h=>h.elim) ?aF ?aB ?aS ?aL ?_
      (case aR=>repeat(first|exact(Kd.R_reads' HO111.out).2.2|(with_reducible refine Kd.C_alloc ?_ _)|(with_reducible refine Kd.C_drewN ?_ _)|(with_reducible refine Kd.C_drew ?_)))
      (case aB=>exact(by repeat(first|(with_reducible first|exact HB.out|apply J|apply L|apply I|refine qj ?_ GE101.out|refine qj ?_ GE102.out|refine qj ?_ GE103.out)|exact HB.out)))
      (case aF=>exact(fun k_ hk=>⟨Kd.fresh' (Kd.R_lt (by solve_by_elim only[HO111.out,Kd.zk,Kd.zj,Kd.zv])) k_ hk,Kd.freshB (g:=gb102) (o:=.cells #[.string a1_0,.int .i64 a1_1,.string a1_2,.int .i64 a1_3,.int .i64 a1_4,.string a1_5,.string a1_6] 30 (0,0)) (by solve_by_elim only[BK102.out,qv,qw,qk]) k_ hk⟩))
      (case aO=>exact(by solve_by_elim only[HO108.out,Kd.zk,Kd.zj,Kd.zv]))
      (case aS=>exact(zz (by repeat(first|(with_reducible first|exact HB.out|apply J|apply L|apply I|refine qj ?_ GE101.out|refine qj ?_ GE102.out|refine qj ?_ GE103.out)|exact HB.out))))
      (case aL=>have:=LMc35.out;omega)
      intro v113 w44 ho hb hg hat
      rw[← Ny112.out] at ho;replace BK101:=O.mk (blk_grown (by solve_by_elim only[BK101.out,qv,qw,qk]) hg (Kd.R_ne HO108.out BK101.out (by decide)));replace BK102:=O.mk (blk_grown (by solve_by_elim only[BK102.out,qv,qw,qk]) hg (Kd.R_away HO108.out (fun _ hk=>hk.2)));replace BK103:=O.mk (blk_grown (by solve_by_elim only[BK103.out,qv,qw,qk]) hg (Kd.R_ne HO108.out BK103.out (by decide)));replace HO111:=O.mk (Kd.R_after (ok:=(fun k_=>k_≠gb102)) (by(with_reducible repeat(first|apply Kd.zk|apply Kd.zj|apply Kd.zv));exact Kd.R_mono HO111.out (fun _ hk=>⟨hk.2,hk.1⟩)) hg hat);replace HB:=O.mk (hb);have HO114:=O.mk (ho);clear HO108;clear ho hb hg hat;refine hK.out _ _ (by(repeat' apply And.intro) <;> first|exact(qz BK101.out _).trans rfl|exact(qz BK102.out _).trans rfl) (fun hHeld=>?_);clear hK K;refine norm_ (a':=?_) ?_ ?_;rotate_left
      ·show Act.put _ (some 29) _=_
       simp only[Act.put,jq5,jq6,jq7,i64_w,i32_w]
       rfl
      refine one_ (i:=12) (N:=some 33) #[Z,Z,Z,Z,Z,Z,Z,Z,Z,Z,Z,Z,Z,U,U,U,U] rfl rfl (one_of HT_.out (by kernel_rfl)) (by decide) (fun K hK=>?_);refine goes_ Tryz.func7 (by kernel_rfl) rfl #[.agg #[.string a1_0,.int .i64 a1_1,.string a1_2,.int .i64 a1_3,.int .i64 a1_4,.string a1_5,.string a1_6]] (by rfl) rfl rfl (by(try simp only[jq0,jq1,jq2]);first|done|rfl|(simp only[jq3,jq4];rfl)) ?_
      with_reducible refine(qkw.calls kj2 a1_0 a1_1 a1_2 a1_3 a1_4 a1_5 a1_6 t115 _ A36.out).mono ?_
      rintro e w46 ⟨rfl,hb⟩
      refine⟨_,rfl,?_⟩;replace HO111:=O.mk (Kd.R_below (by solve_by_elim only[HO111.out,Kd.zk,Kd.zj,Kd.zv]) hb);replace HO114:=O.mk (Kd.R_below (by solve_by_elim only[HO114.out,Kd.zk,Kd.zj,Kd.zv]) hb);replace BK101:=O.mk (kz (by solve_by_elim only[BK101.out,qv,qw,qk]) hb);replace BK102:=O.mk (kz (by solve_by_elim only[BK102.out,qv,qw,qk]) hb);replace BK103:=O.mk (kz (by solve_by_elim only[BK103.out,qv,qw,qk]) hb);replace HB:=O.mk (zq (by repeat(first|(with_reducible first|exact HB.out|apply J|apply L|apply I|refine qj ?_ GE101.out|refine qj ?_ GE102.out|refine qj ?_ GE103.out)|exact HB.out)) hb)
      (try clear hb)
      (try clear hb2)
      (try clear hk)
      (try clear hi)
      refine hK.out _ _ (by(repeat' apply And.intro) <;> first|exact(qz BK101.out _).trans rfl|exact(qz BK102.out _).trans rfl) (fun hHeld=>?_);clear hK K;refine norm_ (a':=?_) ?_ ?_;rotate_left
      ·show Act.put _ (some 33) _=_
       simp only[Act.put,jq5,jq6,jq7,i64_w,i32_w]
       rfl
      refine one_ (i:=13) (N:=some 34) #[Z,Z,Z,Z,Z,Z,Z,Z,Z,Z,Z,Z,Z,Z,U,U,U] rfl rfl (one_of HT_.out (by kernel_rfl)) (by decide) (fun K hK=>?_);refine bytesGoes_ (s:=t115) (by rfl) rfl rfl rfl ?_
      with_reducible refine(bytesOfS.calls t115 t116 _ A37.out).mono ?_
      rintro e w47 ⟨v117,rfl,ho0,hb⟩
      refine⟨_,rfl,?_⟩;have HO118:=O.mk (Kd.V_lower (Kd.V_mono (ok':=fun k_=>some k_≠(.slice Ao45 y109.length co45:Value).ownBlock∧some k_≠(v113:Value).ownBlock∧k_≠gb101∧k_≠gb102∧k_≠gb103) ho0 (fun k_ hk_=>⟨(Kd.fresh' (Kd.R_lt (by solve_by_elim only[HO111.out,Kd.zk,Kd.zj,Kd.zv])) k_ hk_),(Kd.fresh' (Kd.R_lt (by solve_by_elim only[HO114.out,Kd.zk,Kd.zj,Kd.zv])) k_ hk_),(Kd.freshB (g:=gb101) (o:=.cells #[.string a0_0,.slice A0_1 l0_1.length c0_1,.slice A0_2 l0_2.length c0_2] 41 (0,0)) (by solve_by_elim only[BK101.out,qv,qw,qk]) k_ hk_),(Kd.freshB (g:=gb102) (o:=.cells #[.string a1_0,.int .i64 a1_1,.string a1_2,.int .i64 a1_3,.int .i64 a1_4,.string a1_5,.string a1_6] 30 (0,0)) (by solve_by_elim only[BK102.out,qv,qw,qk]) k_ hk_),(Kd.freshB (g:=gb103) (o:=.cells #[.string (⟨#[]⟩ : ByteArray),.slice none 0 0,.slice none 0 0] 41 (0,0)) (by solve_by_elim only[BK103.out,qv,qw,qk]) k_ hk_)⟩)) (zz (by repeat(first|(with_reducible first|exact HB.out|apply J|apply L|apply I|refine qj ?_ GE101.out|refine qj ?_ GE102.out|refine qj ?_ GE103.out)|exact HB.out))));replace HO111:=O.mk (Kd.R_below (by solve_by_elim only[HO111.out,Kd.zk,Kd.zj,Kd.zv]) hb);replace HO114:=O.mk (Kd.R_below (by solve_by_elim only[HO114.out,Kd.zk,Kd.zj,Kd.zv]) hb);replace BK101:=O.mk (kz (by solve_by_elim only[BK101.out,qv,qw,qk]) hb);replace BK102:=O.mk (kz (by solve_by_elim only[BK102.out,qv,qw,qk]) hb);replace BK103:=O.mk (kz (by solve_by_elim only[BK103.out,qv,qw,qk]) hb);replace HB:=O.mk (zq (by repeat(first|(with_reducible first|exact HB.out|apply J|apply L|apply I|refine qj ?_ GE101.out|refine qj ?_ GE102.out|refine qj ?_ GE103.out)|exact HB.out)) hb)
      (try clear hb)
      (try clear hb2)
      (try clear hk)
      (try clear hi)
      (try clear ho0)
      obtain⟨Ao48,co48,eo48⟩:=Kd.V_slice HO118.out
      (first|subst eo48|(injection eo48 with f1_ f2_ f3_;have f4_:=f1_.symm;have f5_:=f3_.symm;clear f1_ f2_ f3_;subst f4_;subst f5_))
      refine hK.out _ _ (by(repeat' apply And.intro) <;> first|exact(qz BK101.out _).trans rfl|exact(qz BK102.out _).trans rfl) (fun hHeld=>?_);clear hK K;refine norm_ (a':=?_) ?_ ?_;rotate_left
      ·show Act.put _ (some 34) _=_
       simp only[Act.put,jq5,jq6,jq7,i64_w,i32_w]
       rfl
      refine one_ (i:=14) (N:=some 35) #[Z,Z,Z,Z,Z,Z,Z,Z,Z,Z,Z,Z,Z,Z,Z,U,U] rfl rfl (one_of HT_.out (by kernel_rfl)) (by decide) (fun K hK=>?_);refine goes_ Tryz.func38 (by kernel_rfl) rfl #[.slice A0_2 l0_2.length c0_2,.slice Ao48 t116.length co48] (by rfl) rfl rfl (by(try simp only[jq0,jq1,jq2]);first|done|rfl|(simp only[jq3,jq4];rfl)) ?_
      with_reducible refine(qww.calls kj2 _ _ l0_2 _ _ t116 t119 _ ?side1 ?side2 ?side3 ?side4 A38.out).mono ?_
      (case side1=>solve_by_elim only[(Kd.C_below HR0_2.out HB.out),Kd.C_alloc,Kd.C_drewN,Kd.C_drew])
      (case side2=>exact HC0_2.out)
      (case side3=>solve_by_elim only[(Kd.V_reads' HO118.out).2.2,Kd.C_alloc,Kd.C_drewN,Kd.C_drew])
      (case side4=>exact(Kd.V_reads' HO118.out).2.1)
      rintro e w49 ⟨v120,rfl,ho0,hb⟩
      refine⟨_,rfl,?_⟩;replace HO111:=O.mk (Kd.R_below (by solve_by_elim only[HO111.out,Kd.zk,Kd.zj,Kd.zv]) hb);replace HO114:=O.mk (Kd.R_below (by solve_by_elim only[HO114.out,Kd.zk,Kd.zj,Kd.zv]) hb);replace HO118:=O.mk (Kd.V_elder' (by(with_reducible repeat(first|apply Kd.jw|apply Kd.jv|apply Kd.jx));exact HO118.out) (Kd.R_base ho0) hb);have HO121:=O.mk (Kd.R_lower ho0 (zz (by repeat(first|(with_reducible first|exact HB.out|apply J|apply L|apply I|refine qj ?_ GE101.out|refine qj ?_ GE102.out|refine qj ?_ GE103.out)|exact HB.out))));replace BK101:=O.mk (kz (by solve_by_elim only[BK101.out,qv,qw,qk]) hb);replace BK102:=O.mk (kz (by solve_by_elim only[BK102.out,qv,qw,qk]) hb);replace BK103:=O.mk (kz (by solve_by_elim only[BK103.out,qv,qw,qk]) hb);replace HB:=O.mk (zq (by repeat(first|(with_reducible first|exact HB.out|apply J|apply L|apply I|refine qj ?_ GE101.out|refine qj ?_ GE102.out|refine qj ?_ GE103.out)|exact HB.out)) hb)
      (try clear hb)
      (try clear hb2)
      (try clear hk)
      (try clear hi)
      (try clear ho0)
      obtain⟨Ao50,co50,eo50⟩:=Kd.R_slice HO121.out
      (first|subst eo50|(injection eo50 with f1_ f2_ f3_;have f4_:=f1_.symm;have f5_:=f3_.symm;clear f1_ f2_ f3_;subst f4_;subst f5_))
      obtain⟨Ao51,co51,eo51⟩:=Kd.R_slice HO114.out
      (first|subst eo51|(injection eo51 with f1_ f2_ f3_;have f4_:=f1_.symm;have f5_:=f3_.symm;clear f1_ f2_ f3_;subst f4_;subst f5_))
      refine hK.out _ _ (by(repeat' apply And.intro) <;> first|exact(qz BK101.out _).trans rfl|exact(qz BK102.out _).trans rfl) (fun hHeld=>?_);clear hK K;refine norm_ (a':=?_) ?_ ?_;rotate_left
      ·show Act.put _ (some 35) _=_
       simp only[Act.put,jq5,jq6,jq7,i64_w,i32_w]
       rfl
      refine pure_ (i:=15) (N:=some 36) (v:=?_) (a':=?_) #[Z,Z,Z,Z,Z,Z,Z,Z,Z,Z,Z,Z,Z,Z,Z,Z,U] rfl rfl (any_of HT_.out (by kernel_rfl)) (fun _ _ _ h=>h) (Or.inl ⟨by rfl,?_⟩) ?_ ?_;rotate_left
      ·intro w'
       go_simp
       with_reducible rfl
      rotate_left
      ·simp only[Act.put,jq5,jq6,jq7,i64_w,i32_w]
       rfl
      refine one_ (i:=16) (N:=none) #[Z,Z,Z,Z,Z,Z,Z,Z,Z,Z,Z,Z,Z,Z,Z,Z,Z] rfl rfl (one_of HT_.out (by kernel_rfl)) (by decide) (fun K hK=>?_);have hs52:w49.cell? ⟨gb103,0,none⟩ = some (.string (⟨#[]⟩ : ByteArray)):=(qz BK103.out 0).trans rfl;have hfs52:=qq BK103.out 0;have hns52_0:=NB101_103.out;have hns52_1:=NB102_103.out;have hms52_0:=NB103_101.out;have hms52_1:=NB103_102.out;have hs53:w49.cell? ⟨gb103,1,none⟩ = some (.slice none 0 0):=(qz BK103.out 1).trans rfl;have hfs53:=qq BK103.out 1;have hns53_0:=NB101_103.out;have hns53_1:=NB102_103.out;have hms53_0:=NB103_101.out;have hms53_1:=NB103_102.out;have hs54:w49.cell? ⟨gb103,2,none⟩ = some (.slice none 0 0):=(qz BK103.out 2).trans rfl;have hfs54:=qq BK103.out 2;have hns54_0:=NB101_103.out;have hns54_1:=NB102_103.out;have hms54_0:=NB103_101.out;have hms54_1:=NB103_102.out;refine skip_ (w1:=?_) (by rfl) rfl ?_ ?_;rotate_left
      ·go_simp
       rfl
      refine hK.out _ _ ⟨((cell_far (p:=⟨gb103,_,none⟩) NB101_103.out _).trans (((cell_far (p:=⟨gb103,_,none⟩) NB101_103.out _).trans (((cell_far (p:=⟨gb103,_,none⟩) NB101_103.out _).trans (hHeld.1)))))),((cell_far (p:=⟨gb103,_,none⟩) NB101_103.out _).trans (((cell_far (p:=⟨gb103,_,none⟩) NB101_103.out _).trans (((cell_far (p:=⟨gb103,_,none⟩) NB101_103.out _).trans (hHeld.2.1)))))),((cell_far (p:=⟨gb103,_,none⟩) NB101_103.out _).trans (((cell_far (p:=⟨gb103,_,none⟩) NB101_103.out _).trans (((cell_far (p:=⟨gb103,_,none⟩) NB101_103.out _).trans (hHeld.2.2.1)))))),((cell_far (p:=⟨gb103,_,none⟩) NB102_103.out _).trans (((cell_far (p:=⟨gb103,_,none⟩) NB102_103.out _).trans (((cell_far (p:=⟨gb103,_,none⟩) NB102_103.out _).trans (hHeld.2.2.2.1)))))),((cell_far (p:=⟨gb103,_,none⟩) NB102_103.out _).trans (((cell_far (p:=⟨gb103,_,none⟩) NB102_103.out _).trans (((cell_far (p:=⟨gb103,_,none⟩) NB102_103.out _).trans (hHeld.2.2.2.2.1)))))),((cell_far (p:=⟨gb103,_,none⟩) NB102_103.out _).trans (((cell_far (p:=⟨gb103,_,none⟩) NB102_103.out _).trans (((cell_far (p:=⟨gb103,_,none⟩) NB102_103.out _).trans (hHeld.2.2.2.2.2.1)))))),((cell_far (p:=⟨gb103,_,none⟩) NB102_103.out _).trans (((cell_far (p:=⟨gb103,_,none⟩) NB102_103.out _).trans (((cell_far (p:=⟨gb103,_,none⟩) NB102_103.out _).trans (hHeld.2.2.2.2.2.2.1)))))),((cell_far (p:=⟨gb103,_,none⟩) NB102_103.out _).trans (((cell_far (p:=⟨gb103,_,none⟩) NB102_103.out _).trans (((cell_far (p:=⟨gb103,_,none⟩) NB102_103.out _).trans (hHeld.2.2.2.2.2.2.2.1)))))),((cell_far (p:=⟨gb103,_,none⟩) NB102_103.out _).trans (((cell_far (p:=⟨gb103,_,none⟩) NB102_103.out _).trans (((cell_far (p:=⟨gb103,_,none⟩) NB102_103.out _).trans (hHeld.2.2.2.2.2.2.2.2.1)))))),((cell_far (p:=⟨gb103,_,none⟩) NB102_103.out _).trans (((cell_far (p:=⟨gb103,_,none⟩) NB102_103.out _).trans (((cell_far (p:=⟨gb103,_,none⟩) NB102_103.out _).trans (hHeld.2.2.2.2.2.2.2.2.2))))))⟩ (fun hHeld=>?_);clear hK K;refine done_ (done_of HT_.out (by kernel_rfl)) ?_;try go_wp2
      refine bodyPost_ret (results_cell_row rfl _ _ gb103 41 #[.string a0_0,.slice Ao51 y112.length co51,.slice Ao50 t119.length co50] (0,0) _ rfl (by(with_reducible repeat(first|refine qv ?_ _|refine qw ?_|refine qk ?_ _));refine blk_put (cs:=#[.string a0_0,.slice Ao51 y112.length co51,.slice none 0 0]) ?_ 2 _ rfl;(with_reducible repeat(first|refine qv ?_ _|refine qw ?_|refine qk ?_ _));refine blk_put (cs:=#[.string a0_0,.slice none 0 0,.slice none 0 0]) ?_ 1 _ rfl;(with_reducible repeat(first|refine qv ?_ _|refine qw ?_|refine qk ?_ _));refine blk_put (cs:=#[.string (⟨#[]⟩ : ByteArray),.slice none 0 0,.slice none 0 0]) ?_ 0 _ rfl;(with_reducible repeat(first|refine qv ?_ _|refine qw ?_|refine qk ?_ _));exact BK103.out) Tryz.underlying41 rfl (by kernel_rfl)) rfl ?_;exact⟨_,_,by first|rfl|(simp[*,zx,zw] <;> rfl),by(with_reducible repeat(first|apply Kd.zk|apply Kd.zj|apply Kd.zv));exact Kd.R_mono (Kd.R_far (p:=⟨gb103,2,none⟩) (Kd.R_far (p:=⟨gb103,1,none⟩) (Kd.R_far (p:=⟨gb103,0,none⟩) (Kd.R_types HO114.out BK103.out (by decide)) (fun _ hk=>hk.2) (.string a0_0)) (fun _ hk=>hk.2) (.slice Ao51 y112.length co51)) (fun _ hk=>hk.2) (.slice Ao50 t119.length co50)) (fun _ hk=>trivial),by(with_reducible repeat(first|apply Kd.zk|apply Kd.zj|apply Kd.zv));exact Kd.R_mono (Kd.R_far (p:=⟨gb103,2,none⟩) (Kd.R_far (p:=⟨gb103,1,none⟩) (Kd.R_far (p:=⟨gb103,0,none⟩) (Kd.R_types HO121.out BK103.out (by decide)) (fun _ hk=>hk.2) (.string a0_0)) (fun _ hk=>hk.2) (.slice Ao51 y112.length co51)) (fun _ hk=>hk.2) (.slice Ao50 t119.length co50)) (fun _ hk=>trivial),by repeat(first|(with_reducible first|exact HB.out|apply J|apply L|apply I|refine qj ?_ GE101.out|refine qj ?_ GE102.out|refine qj ?_ GE103.out)|exact HB.out)⟩
     ·rw[if_neg c35] at H;exact absurd H (by simp)
    ·rw[if_neg c34] at H;exact absurd H (by simp)
end Go.Proofs.YtnbbbjfjkhglhaaGreatDoor.Pr
namespace Go.Proofs.YtnbbbjfjkhglhaaGreatDoor.Pr
open Go.RowKit Go.Proofs.YtnbbbjfjkhglhaaGreatDoorW.PrintWords Go.Proofs.YtnbbbjfjkhglhaaGreatDoorW.PrintLast Go.Proofs.YtnbbbjfjkhglhaaGreatDoorW.PrintMore
set_option linter.unusedVariables false
structure MkS (S:Nat→Prop) (w w':World):Prop where
 os:w'.os=w.os
 tape:w'.tape=w.tape
 output:w'.output=w.output
 size:w.heap.size≤w'.heap.size
 kept:∀ k,k < w.heap.size→¬ S k→w'.heap[k]? = w.heap[k]?
 shape:∀ (k:Nat) (cs:Array Value) (t:TypeId),w.heap[k]? = some (.cells cs t (0,0))→∃ cs',w'.heap[k]? = some (.cells cs' t (0,0))∧cs'.size=cs.size
theorem MkS.refl (S:Nat→Prop) (w:World):MkS S w w:=⟨rfl,rfl,rfl,Nat.le_refl _,fun _ _ _=>rfl,fun _ cs _ h=>⟨cs,h,rfl⟩⟩
theorem MkS.trans {S:Nat→Prop} {w w1 w2:World} (h:MkS S w w1) (h2:MkS S w1 w2):MkS S w w2 :=
 ⟨h2.os.trans h.os,h2.tape.trans h.tape,h2.output.trans h.output,Nat.le_trans h.size h2.size,fun k hk hn=>(h2.kept k (Nat.lt_of_lt_of_le hk h.size) hn).trans (h.kept k hk hn),fun k cs t hc=>by
  obtain⟨cs1,h3,h4⟩:=h.shape k cs t hc;obtain⟨cs2,h5,h6⟩:=h2.shape k cs1 t h3;exact⟨cs2,h5,h6.trans h4⟩⟩
theorem MkS.mono {S S':Nat→Prop} {w w':World} (h:MkS S w w') (hs:∀ k,S k→S' k):MkS S' w w' :=
 ⟨h.os,h.tape,h.output,h.size,fun k hk hn=>h.kept k hk (fun e=>hn (hs k e)),h.shape⟩
theorem MkS.below {w w':World} (S:Nat→Prop) (h:Below w.heap.size w w'):MkS S w w' :=
 ⟨h.os,h.tape,h.output,h.size,fun k hk _=>h.block k hk,fun k cs t hc=>⟨cs,(h.block k (blk_lt hc)).trans hc,rfl⟩⟩
theorem MkS.set {S:Nat→Prop} {w:World} {g t:Nat} {cs:Array Value} (hb:w.heap[g]? = some (.cells cs t (0,0))) (hS:S g) (j:Nat) (u:Value):MkS S w (w.setCell ⟨g,j,none⟩ u):=by
 have h0:Below 0 w (w.setCell ⟨g,j,none⟩ u):=(Below.refl 0 w).setCell (p:=⟨g,j,none⟩) (Nat.zero_le _) u;refine⟨h0.os,h0.tape,h0.output,h0.size,fun k hk hn=>Below.heap_setCell w ⟨g,j,none⟩ u k (fun e=>hn (e ▸ hS)),fun k cs' t' hc=>?_⟩
 by_cases hk:k=g
 ·subst hk;rw[hb] at hc;injection hc with hc
  injection hc with h1 h2
  subst h1;subst h2
  exact⟨_,blk_set hb j u,by simp⟩
 ·exact⟨cs',(Below.heap_setCell w ⟨g,j,none⟩ u k hk).trans hc,rfl⟩
theorem MkS.drew {S:Nat→Prop} {w w':World} (h:MkS S w w'):MkS S w w'.drew:=h.trans (MkS.below S (below_drew (Below.refl _ _)))
theorem MkS.bel {S:Nat→Prop} {w w':World} {B:Nat} (h:MkS S w w') (hB:B≤w.heap.size) (hS:∀ k,S k→B≤k):Below B w w':=⟨h.os,h.tape,h.output,h.size,fun k hk=>h.kept k (by omega) (fun e=>by have:=hS k e;omega)⟩
end Go.Proofs.YtnbbbjfjkhglhaaGreatDoor.Pr
namespace Go.Proofs.YtnbbbjfjkhglhaaGreatDoor.Pr
open Go.RowKit Go.Proofs.YtnbbbjfjkhglhaaGreatDoorW.PrintWords Go.Proofs.YtnbbbjfjkhglhaaGreatDoorW.PrintLast Go.Proofs.YtnbbbjfjkhglhaaGreatDoorW.PrintMore
attribute [local go_sem] max2_int min2_int max_two min_two max_three min_three max_four min_four
set_option linter.unusedVariables false
set_option linter.unusedSimpArgs false
def qzw.l0:Nat→Int→ByteArray→Option (ByteArray)
 | 0,_,_=>none
 | k + 1,x0,x3=>if x0 > 0 then((some (([(wrap64 (48 + (Int.tmod x0 10))) % 256]:List Int):List Int)).bind fun y101=>(if (strOfNums y101).size + x3.size≤9223372036854775807 then(qzw.l0 k (wrap64 (Int.tdiv x0 10)) ((strOfNums y101) ++ x3)) else(none))) else(if 1 + x3.size≤9223372036854775807 then(some ((⟨#[109]⟩ : ByteArray) ++ x3)) else(none))
def qzw.f (k:Nat) (a0:Int):Option (ByteArray):=if a0≤0 then(some (⟨#[109,48]⟩ : ByteArray)) else(qzw.l0 k a0 (⟨#[]⟩ : ByteArray))
theorem qzw.calls (k:Nat) (a0:Int) (r:ByteArray) (w:World) (h:qzw.f k a0=some r) :
  Calls Tryz.prog 69 #[.int .i64 a0] w fun e w'=>e=.returned (.string r)∧Below w.heap.size w w':=by
 have HB:=O.mk (Below.refl w.heap.size w);unfold qzw.f at h;have H:=h;clear h
 by_cases c2:a0≤0
 ·rw[if_pos c2] at H;have c2b0:decide (a0≤0)=true:=decide_eq_true c2;clear c2;obtain rfl:=Option.some.inj H;go_enter Tryz.func69,Tryz.ntmps69;go_wp2;go_ret
  exact⟨by first|rfl|(simp[*,zx,zw] <;> rfl),by solve_by_elim only[HB.out,J,L,I]⟩
 ·rw[if_neg c2] at H;have c2b0:decide (a0≤0)=false:=decide_eq_false c2;clear c2;have H':=O.mk H;clear H;go_enter Tryz.func69,Tryz.ntmps69;go_wp2
  go_loopg [0,3] k (fun kq v0 v3 w'=>∃ (x0_1:Int) (x3_1:ByteArray),v0=.int .i64 x0_1∧v3=.string x3_1∧O (qzw.l0 kq x0_1 x3_1=some r)∧O (kq≤k)∧O (Below w.heap.size w w'))
  case atStart=>exact⟨(a0),((⟨#[]⟩ : ByteArray)),(by first|rfl|(simp;done)|(simp[*];done)),(by first|rfl|(simp;done)|(simp[*];done)),H',⟨Nat.le_refl _⟩,⟨by solve_by_elim only[HB.out,J,L,I]⟩⟩
  case round =>
   clear H';try clear c2
   try clear c2b0
   try clear p2
   obtain⟨x0_1,x3_1,rfl,rfl,HA,HK1,HB⟩:=hrel
   cases gk with
   | zero=>exact absurd HA.out (by simp[qzw.l0])
   | succ k1 =>
    have H:=HA.out;clear HA;simp only[qzw.l0] at H
    by_cases c3:x0_1 > 0
    ·rw[if_pos c3] at H;have c3b0:decide (0 < x0_1)=true:=decide_eq_true c3;clear c3;obtain⟨y101,hy101⟩ : ∃ y_:List Int,y_=(([(wrap64 (48 + (Int.tmod x0_1 10))) % 256]:List Int)):=⟨_,rfl⟩;replace H:(if (strOfNums y101).size + x3_1.size≤9223372036854775807 then(qzw.l0 k1 (wrap64 (Int.tdiv x0_1 10)) ((strOfNums y101) ++ x3_1)) else(none))=some r:=by first|(rw[hy101];with_reducible exact H)|(have H2_:=(Option.bind_some _ _).symm.trans H;rw[hy101];with_reducible exact H2_)|(have H2_:=(Option.bind_some _ _).symm.trans H;with_reducible exact H2_)|with_reducible exact H|(rw[hy101];exact H)|exact H
     have Ny101:=O.mk hy101;clear hy101
     by_cases c4:(strOfNums y101).size + x3_1.size≤9223372036854775807
     ·rw[if_pos c4] at H;have c4b0:=eq_true c4;have c4b1:decide ((strOfNums y101).size + x3_1.size≤9223372036854775807)=true:=decide_eq_true c4;try have c4b2:(9223372036854775807 < (strOfNums y101).size + x3_1.size)=False:=eq_false (Nat.not_lt.2 c4)
      have H':=O.mk H;clear H;go_wp2_with (first|((with_reducible refine gate_dst (N:=12) rfl ?_);refine Kd.R_lit (Kd.int .u8) _ 5 ?hg (N:=12) ?hd (xs:=([(wrap64 (48 + (Int.tmod x0_1 10))) % 256]:List Int)) (inner:=[.int .u8 ((wrap64 (48 + (Int.tmod x0_1 10))) % 256)]) (ok:=fun _=>True) (okp:=fun _=>True) ?hr ?hp (fun _ hk=>hk) trivial (Below.refl _ _) (Nat.le_refl _) (by simp) ?_;(case hd=>rfl);(case hg=>rfl);(case hr=>first|(go_simp;done)|(go_simp;rfl));(case hp=>exact(Reps.one (show Kd.M (Kd.int .u8) _ _ _ ((wrap64 (48 + (Int.tmod x0_1 10))) % 256) [.int .u8 ((wrap64 (48 + (Int.tmod x0_1 10))) % 256)] from rfl) (Reps.none _ _)));intro v102 w5 ho6 hb hg_ hnew_;clear hg_ hnew_;(first|rw[← Ny101.out] at ho6|(simp only[Int.reduceToNat] at ho6;rw[← Ny101.out] at ho6));have HO103:=O.mk (Kd.R_lower ho6 (zz (by solve_by_elim only[HB.out,J,L,I])));replace HB:=O.mk (zq (by solve_by_elim only[HB.out,J,L,I]) hb);clear hb ho6;have hcv7:=own_string (P:=Tryz.prog) Tryz.underlying34 Tryz.underlying5 Tryz.underlying9 (Kd.own_of_R HO103.out)))
      go_roundg k1
      case measure=>have:=HK1.out;omega
      case rel=>exact⟨(wrap64 (Int.tdiv x0_1 10)),((strOfNums y101) ++ x3_1),(by first|rfl|(simp;done)|(simp[*];done)),(by first|rfl|(simp;done)|(simp[*];done)),H',⟨by have:=HK1.out;omega⟩,⟨by solve_by_elim only[HB.out,J,L,I]⟩⟩
     ·rw[if_neg c4] at H;exact absurd H (by simp)
    ·rw[if_neg c3] at H;have c3b0:decide (0 < x0_1)=false:=decide_eq_false c3;clear c3
     by_cases c8 : 1 + x3_1.size≤9223372036854775807
     ·rw[if_pos c8] at H;have c8b0:=eq_true c8;have c8b1:decide (1 + x3_1.size≤9223372036854775807)=true:=decide_eq_true c8;try have c8b2:(9223372036854775807 < 1 + x3_1.size)=False:=eq_false (Nat.not_lt.2 c8)
      obtain rfl:=Option.some.inj H;go_wp2;go_ret
      exact⟨by first|rfl|(simp[*,zx,zw] <;> rfl),by solve_by_elim only[HB.out,J,L,I]⟩
     ·rw[if_neg c8] at H;exact absurd H (by simp)
end Go.Proofs.YtnbbbjfjkhglhaaGreatDoor.Pr
namespace Go.Proofs.YtnbbbjfjkhglhaaGreatDoor.Pr
open Go.RowKit Go.Proofs.YtnbbbjfjkhglhaaGreatDoorW.PrintWords Go.Proofs.YtnbbbjfjkhglhaaGreatDoorW.PrintLast Go.Proofs.YtnbbbjfjkhglhaaGreatDoorW.PrintMore
set_option linter.unusedVariables false
set_option linter.unusedSimpArgs false
abbrev CvT:=S30
def markOne (k:Nat) (a:Int):Option CvT:=(qzw.f k a).bind fun t0=>(qzw.f k (a + 2)).bind fun t2=>(qzw.f k (a + 5)).bind fun t5=>(qzw.f k (a + 6)).bind fun t6=>some ⟨t0,a + 1,t2,⟨a + 3,a + 4,t5,t6⟩⟩
def marksL (k:Nat):Nat→Int→Option (List CvT)
 | 0,_=>some []
 | n + 1,a=>(markOne k a).bind fun x=>(marksL k n (a + 7)).bind fun xs=>some (x :: xs)
theorem marksL_get {k:Nat} : ∀ {n:Nat} {a:Int} {xs:List CvT},marksL k n a=some xs→xs.length=n∧∀ i,i < n→∃ y,xs[i]? = some y∧markOne k (a + 7 * (i:Int))=some y
 | 0,a,xs,h=>by
  obtain rfl:=Option.some.inj h;exact⟨rfl,fun i hi=>absurd hi (Nat.not_lt_zero i)⟩
 | n + 1,a,xs,h=>by
  rw[marksL] at h;obtain⟨x,hx,h⟩:=jq8.mp h;obtain⟨ys,hy,h⟩:=jq8.mp h;obtain rfl:=Option.some.inj h;obtain⟨hl,hg⟩:=marksL_get hy;refine⟨by rw[List.length_cons,hl],fun i hi=>?_⟩
  cases i with
  | zero=>exact⟨x,rfl,by rw[show a + 7 * ((0:Nat):Int)=a by omega];exact hx⟩
  | succ i =>
   obtain⟨y,h1,h2⟩:=hg i (by omega);exact⟨y,by rw[List.getElem?_cons_succ];exact h1,by rw[show a + 7 * ((i + 1:Nat):Int)=a + 7 + 7 * (i:Int) by omega];exact h2⟩
theorem markOne_open {k:Nat} {a:Int} {y:CvT} (h:markOne k a=some y):qzw.f k a=some y.f0∧y.f1=a + 1∧qzw.f k (a + 2)=some y.f2∧y.f3.f0=a + 3∧y.f3.f1=a + 4∧qzw.f k (a + 5)=some y.f3.f2∧qzw.f k (a + 6)=some y.f3.f3:=by
 obtain⟨t0,h0,h⟩:=jq8.mp h;obtain⟨t2,h2,h⟩:=jq8.mp h;obtain⟨t5,h5,h⟩:=jq8.mp h;obtain⟨t6,h6,h⟩:=jq8.mp h;obtain rfl:=Option.some.inj h;exact⟨h0,rfl,h2,rfl,rfl,h5,h6⟩
def CellsAt (cs:Array Value) (j:Nat) (y:CvT):Prop:=cs[j * 7]? = some (.string y.f0)∧cs[j * 7 + 1]? = some (.int .i64 y.f1)∧cs[j * 7 + 2]? = some (.string y.f2)∧cs[j * 7 + 3]? = some (.int .i64 y.f3.f0)∧cs[j * 7 + 4]? = some (.int .i64 y.f3.f1)∧cs[j * 7 + 5]? = some (.string y.f3.f2)∧cs[j * 7 + 6]? = some (.string y.f3.f3)
def put7 (cs:Array Value) (i:Nat) (y:CvT):Array Value:=((((((cs.setIfInBounds (i * 7) (.string y.f0)).setIfInBounds (i * 7 + 1) (.int .i64 y.f1)).setIfInBounds (i * 7 + 2) (.string y.f2)).setIfInBounds (i * 7 + 3) (.int .i64 y.f3.f0)).setIfInBounds (i * 7 + 4) (.int .i64 y.f3.f1)).setIfInBounds (i * 7 + 5) (.string y.f3.f2)).setIfInBounds (i * 7 + 6) (.string y.f3.f3)
theorem put7_size (cs:Array Value) (i:Nat) (y:CvT):(put7 cs i y).size=cs.size:=by simp[put7]
theorem put7_get (cs:Array Value) (i:Nat) (y:CvT) (q:Nat) (h:q < i * 7∨i * 7 + 7≤q):(put7 cs i y)[q]? = cs[q]?:=by
 unfold put7;rw[Array.getElem?_setIfInBounds_ne (by omega),Array.getElem?_setIfInBounds_ne (by omega),Array.getElem?_setIfInBounds_ne (by omega),Array.getElem?_setIfInBounds_ne (by omega),Array.getElem?_setIfInBounds_ne (by omega),Array.getElem?_setIfInBounds_ne (by omega),Array.getElem?_setIfInBounds_ne (by omega)]
theorem put7_old {cs:Array Value} {i j:Nat} {y z:CvT} (hj:j < i) (h:CellsAt cs j z):CellsAt (put7 cs i y) j z:=by
 obtain⟨h0,h1,h2,h3,h4,h5,h6⟩:=h;exact⟨(put7_get _ _ _ _ (.inl (by omega))).trans h0,(put7_get _ _ _ _ (.inl (by omega))).trans h1,(put7_get _ _ _ _ (.inl (by omega))).trans h2,(put7_get _ _ _ _ (.inl (by omega))).trans h3,(put7_get _ _ _ _ (.inl (by omega))).trans h4,(put7_get _ _ _ _ (.inl (by omega))).trans h5,(put7_get _ _ _ _ (.inl (by omega))).trans h6⟩
theorem put7_new {cs:Array Value} {i:Nat} {y:CvT} (h:i * 7 + 7≤cs.size):CellsAt (put7 cs i y) i y:=by
 unfold CellsAt put7;refine⟨?_,?_,?_,?_,?_,?_,?_⟩
 ·rw[Array.getElem?_setIfInBounds_ne (by omega),Array.getElem?_setIfInBounds_ne (by omega),Array.getElem?_setIfInBounds_ne (by omega),Array.getElem?_setIfInBounds_ne (by omega),Array.getElem?_setIfInBounds_ne (by omega),Array.getElem?_setIfInBounds_ne (by omega),Array.getElem?_setIfInBounds_self_of_lt (by omega)]
 ·rw[Array.getElem?_setIfInBounds_ne (by omega),Array.getElem?_setIfInBounds_ne (by omega),Array.getElem?_setIfInBounds_ne (by omega),Array.getElem?_setIfInBounds_ne (by omega),Array.getElem?_setIfInBounds_ne (by omega),Array.getElem?_setIfInBounds_self_of_lt (by simp only[Array.size_setIfInBounds];omega)]
 ·rw[Array.getElem?_setIfInBounds_ne (by omega),Array.getElem?_setIfInBounds_ne (by omega),Array.getElem?_setIfInBounds_ne (by omega),Array.getElem?_setIfInBounds_ne (by omega),Array.getElem?_setIfInBounds_self_of_lt (by simp only[Array.size_setIfInBounds];omega)]
 ·rw[Array.getElem?_setIfInBounds_ne (by omega),Array.getElem?_setIfInBounds_ne (by omega),Array.getElem?_setIfInBounds_ne (by omega),Array.getElem?_setIfInBounds_self_of_lt (by simp only[Array.size_setIfInBounds];omega)]
 ·rw[Array.getElem?_setIfInBounds_ne (by omega),Array.getElem?_setIfInBounds_ne (by omega),Array.getElem?_setIfInBounds_self_of_lt (by simp only[Array.size_setIfInBounds];omega)]
 ·rw[Array.getElem?_setIfInBounds_ne (by omega),Array.getElem?_setIfInBounds_self_of_lt (by simp only[Array.size_setIfInBounds];omega)]
 ·rw[Array.getElem?_setIfInBounds_self_of_lt (by simp only[Array.size_setIfInBounds];omega)]
theorem row7 {cs:Array Value} {n j:Nat} {y:CvT} (h:CellsAt cs j y) (hj:j < n) (hn:n * 7≤cs.size):((cs.toList.take (n * 7)).drop (j * 7)).take 7=[.string y.f0,.int .i64 y.f1,.string y.f2,.int .i64 y.f3.f0,.int .i64 y.f3.f1,.string y.f3.f2,.string y.f3.f3]:=by
 obtain⟨h0,h1,h2,h3,h4,h5,h6⟩:=h
 have key:∀ t,t < 7→(((cs.toList.take (n * 7)).drop (j * 7)).take 7)[t]? = cs[j * 7 + t]?:=fun t ht=>by
  rw[List.getElem?_take_of_lt ht,List.getElem?_drop,List.getElem?_take_of_lt (by omega),Array.getElem?_toList]
 apply List.ext_getElem?
 intro t
 by_cases ht:t < 7
 ·rw[key t ht]
  match t,ht with
  | 0,_=>exact h0
  | 1,_=>exact h1
  | 2,_=>exact h2
  | 3,_=>exact h3
  | 4,_=>exact h4
  | 5,_=>exact h5
  | 6,_=>exact h6
 ·rw[List.getElem?_eq_none (by rw[jq4];omega),List.getElem?_eq_none (by simp only[List.length_cons,List.length_nil];omega)]
theorem setg {w:World} {g t:Nat} {cs:Array Value} (hb:w.heap[g]? = some (.cells cs t (0,0))) (j:Nat) (u:Value):MkS (fun q=>q=g) w (w.setCell ⟨g,j,none⟩ u):=MkS.set (S:=fun q=>q=g) hb rfl j u
set_option maxHeartbeats 4000000 in
theorem markC_raw (kf g n c:Nat) (a1:Int) (w:World) (cur:Array Value) (xs:List CvT) (hb:w.heap[g]? = some (.cells cur 30 (0,0))) (hn:n * 7≤cur.size) (hx:marksL kf n a1=some xs) (h0 : 0≤a1) (h1:a1 + 7 * (n:Int)≤4611686018427387904) (hnn:n≤1000000000) :
  Calls Tryz.prog 41 #[.slice (some ⟨g,0,none⟩) n c,.int .i64 a1] w fun e w'=>e=.returned (.int .i64 (a1 + 7 * (n:Int)))∧MkS (fun q=>q=g) w w'∧∃ cs,w'.heap[g]? = some (.cells cs 30 (0,0))∧cs.size=cur.size∧∀ j y,j < n→xs[j]? = some y→CellsAt cs j y:=by
 have HB:=O.mk hb;have HN:=O.mk hn;have HX:=O.mk hx;have H1:=O.mk (And.intro h0 (And.intro h1 hnn));clear hb hn h0 h1 hx hnn;go_enter Tryz.func41,Tryz.ntmps41;go_wp2
 go_loopw [1,5] (fun v1 v5 W=>∃ (i:Nat) (x:Int),i≤n∧v1=.int .i64 x∧v5=.int .i64 i∧O (x=a1 + 7 * (i:Int)∧MkS (fun q=>q=g) w W∧∃ cs,W.heap[g]? = some (.cells cs 30 (0,0))∧cs.size=cur.size∧∀ j y,j < i→xs[j]? = some y→CellsAt cs j y)) (fun _ v5 _=>n - (intOf v5).toNat)
 case atStart=>exact⟨0,a1,by omega,rfl,rfl,⟨by simp,MkS.refl _ _,cur,HB.out,rfl,fun j _ hj=>absurd hj (Nat.not_lt_zero j)⟩⟩
 case round =>
  obtain⟨i,x,hi,rfl,rfl,HM⟩:=hrel
  by_cases hlt:i < n
  ·obtain⟨ex,hms,cs,hcs,hsz,hold⟩:=HM.out;obtain⟨y,hy,hone⟩:=(marksL_get HX.out).2 i hlt;rw[← ex] at hone;obtain⟨m0,e1,m2,e3,e4,m5,m6⟩:=markOne_open hone;have hcs7:i * 7 + 7≤cs.size:=by have:=HN.out;omega
   have q8:wrap64 ((i:Int) + 1)=((i + 1:Nat):Int):=by have:=H1.out;unfold wrap64;omega
   have HXB:O (0≤x∧x + 7≤4611686018427387904):=⟨by have:=H1.out;omega⟩;obtain⟨x1,ex1⟩ : ∃ x1,x1=x + 1:=⟨_,rfl⟩;obtain⟨x2,ex2⟩ : ∃ x2,x2=x1 + 1:=⟨_,rfl⟩;obtain⟨x3,ex3⟩ : ∃ x3,x3=x2 + 1:=⟨_,rfl⟩;obtain⟨x4,ex4⟩ : ∃ x4,x4=x3 + 1:=⟨_,rfl⟩;obtain⟨x5,ex5⟩ : ∃ x5,x5=x4 + 1:=⟨_,rfl⟩;obtain⟨x6,ex6⟩ : ∃ x6,x6=x5 + 1:=⟨_,rfl⟩;obtain⟨x7,ex7⟩ : ∃ x7,x7=x6 + 1:=⟨_,rfl⟩;have q1:wrap64 (x + 1)=x1:=by have:=HXB.out;rw[ex1];unfold wrap64;omega
   have q2:wrap64 (x1 + 1)=x2:=by have:=HXB.out;rw[ex2];unfold wrap64;omega
   have q3:wrap64 (x2 + 1)=x3:=by have:=HXB.out;rw[ex3];unfold wrap64;omega
   have q4:wrap64 (x3 + 1)=x4:=by have:=HXB.out;rw[ex4];unfold wrap64;omega
   have q5:wrap64 (x4 + 1)=x5:=by have:=HXB.out;rw[ex5];unfold wrap64;omega
   have q6:wrap64 (x5 + 1)=x6:=by have:=HXB.out;rw[ex6];unfold wrap64;omega
   have q7:wrap64 (x6 + 1)=x7:=by have:=HXB.out;rw[ex7];unfold wrap64;omega
   have r1:IntKind.i64.wrap (x + 1)=x1:=(i64_w _).trans q1;have r2:IntKind.i64.wrap (x1 + 1)=x2:=(i64_w _).trans q2;have r3:IntKind.i64.wrap (x2 + 1)=x3:=(i64_w _).trans q3;have r4:IntKind.i64.wrap (x3 + 1)=x4:=(i64_w _).trans q4;have r5:IntKind.i64.wrap (x4 + 1)=x5:=(i64_w _).trans q5;have r6:IntKind.i64.wrap (x5 + 1)=x6:=(i64_w _).trans q6;have r7:IntKind.i64.wrap (x6 + 1)=x7:=(i64_w _).trans q7;have M0:=O.mk m0;have M2:O (qzw.f kf x2=some y.f2):=⟨by rw[show x2=x + 2 by omega];exact m2⟩;have M5:O (qzw.f kf x5=some y.f3.f2):=⟨by rw[show x5=x + 5 by omega];exact m5⟩;have M6:O (qzw.f kf x6=some y.f3.f3):=⟨by rw[show x6=x + 6 by omega];exact m6⟩;have E1:O (x1=y.f1):=⟨by omega⟩;have E3:O (x3=y.f3.f0):=⟨by omega⟩;have E4:O (x4=y.f3.f1):=⟨by omega⟩;have E7:O (x7=a1 + 7 * ((i + 1:Nat):Int)):=⟨by omega⟩;have HCS:=O.mk hcs;have HMS:=O.mk hms;have HC7:=O.mk hcs7;have HSZ:=O.mk hsz;have HOLD:=O.mk hold;have HY:=O.mk hy;clear ex1 ex2 ex3 ex4 ex5 ex6 ex7 m0 m2 m5 m6 e1 e3 e4 hone hcs hms hsz hold hcs7 ex hy HM;have hix:∀ (W:World) (a:Array Value) (j:Nat),W.heap[g]? = some (.cells a 30 (0,0))→a.size=cs.size→j < 7→∃ u,W.cell? ⟨g,i * 7 + j,none⟩ = some u:=fun W a j hW ha hj=>⟨_,(qz hW (i * 7 + j)).trans (Array.getElem?_eq_getElem (by have:=HC7.out;omega))⟩
   have HIX:=O.mk hix;clear hix
   go_wp2_with (first
    | (go_at_call 69;(with_reducible refine(qzw.calls kf x6 y.f3.f3 _ M6.out).mono ?_);rintro e wd ⟨rfl,hbd⟩;have D0:=(hbd.block _ (blk_lt C1)).trans C1;have MD:=O.mk (MC.out.trans (MkS.below _ hbd));obtain⟨u6,c6⟩:=HIX.out _ _ 6 D0 (by simp) (by decide);have f6:=qq D0 (i * 7 + 6);have D1:=blk_set D0 (i * 7 + 6) (.string y.f3.f3);have ME:=O.mk (MD.out.trans (setg D0 (i * 7 + 6) (.string y.f3.f3)));clear hbd)
    | (go_at_call 69;(with_reducible refine(qzw.calls kf x5 y.f3.f2 _ M5.out).mono ?_);rintro e wc ⟨rfl,hbc⟩;have C0:=(hbc.block _ (blk_lt B3)).trans B3;have MC0:=O.mk (MB.out.trans (MkS.below _ hbc));obtain⟨u5,c5⟩:=HIX.out _ _ 5 C0 (by simp) (by decide);have f5:=qq C0 (i * 7 + 5);have C1:=blk_set C0 (i * 7 + 5) (.string y.f3.f2);have MC:=O.mk (MC0.out.trans (setg C0 (i * 7 + 5) (.string y.f3.f2)));clear hbc)
    | (go_at_call 69;(with_reducible refine(qzw.calls kf x2 y.f2 _ M2.out).mono ?_);rintro e wb ⟨rfl,hbb⟩;have B0:=(hbb.block _ (blk_lt A2)).trans A2;obtain⟨u2,c2⟩:=HIX.out _ _ 2 B0 (by simp) (by decide);have f2:=qq B0 (i * 7 + 2);have B1:=blk_set B0 (i * 7 + 2) (.string y.f2);obtain⟨u3,c3⟩:=HIX.out _ _ 3 B1 (by simp) (by decide);have f3:=qq B1 (i * 7 + 3);have B2:=blk_set B1 (i * 7 + 3) (.int .i64 x3);obtain⟨u4,c4⟩:=HIX.out _ _ 4 B2 (by simp) (by decide);have f4:=qq B2 (i * 7 + 4);have B3:=blk_set B2 (i * 7 + 4) (.int .i64 x4);have MB:=O.mk ((((MA.out.trans (MkS.below _ hbb)).trans (setg B0 (i * 7 + 2) (.string y.f2))).trans (setg B1 (i * 7 + 3) (.int .i64 x3))).trans (setg B2 (i * 7 + 4) (.int .i64 x4)));clear hbb)
    | (go_at_call 69;go_loud ((with_reducible refine(qzw.calls kf x y.f0 _ M0.out).mono ?_);rintro e wa ⟨rfl,hba⟩;have A0:=(hba.block _ (blk_lt HCS.out)).trans HCS.out;obtain⟨u0,g0⟩:=HIX.out _ _ 0 A0 rfl (by decide);have c0:wa.cell? ⟨g,i * 7,none⟩ = some u0:=g0;have f0:=qq A0 (i * 7);have A1:=blk_set A0 (i * 7) (.string y.f0);obtain⟨u1,c1⟩:=HIX.out _ _ 1 A1 (by simp) (by decide);have f1:=qq A1 (i * 7 + 1);have A2:=blk_set A1 (i * 7 + 1) (.int .i64 x1);have MA:=O.mk (((HMS.out.trans (MkS.below _ hba)).trans (setg A0 (i * 7) (.string y.f0))).trans (setg A1 (i * 7 + 1) (.int .i64 x1)));clear hba g0)))
   try simp only[q8]
   go_roundw
   case rel =>
    have hput:put7 cs i y=((((((cs.setIfInBounds (i * 7) (.string y.f0)).setIfInBounds (i * 7 + 1) (.int .i64 x1)).setIfInBounds (i * 7 + 2) (.string y.f2)).setIfInBounds (i * 7 + 3) (.int .i64 x3)).setIfInBounds (i * 7 + 4) (.int .i64 x4)).setIfInBounds (i * 7 + 5) (.string y.f3.f2)).setIfInBounds (i * 7 + 6) (.string y.f3.f3):=by unfold put7;rw[← E1.out,← E3.out,← E4.out]
    refine⟨i + 1,x7,by omega,rfl,rfl,⟨E7.out,ME.out,put7 cs i y,?_,(put7_size _ _ _).trans HSZ.out,?_⟩⟩
    ·rw[hput];exact D1
    ·intro j z hj hz
     by_cases hji:j=i
     ·subst hji;rw[HY.out] at hz;obtain rfl:=Option.some.inj hz;exact put7_new HC7.out
     ·exact put7_old (by omega) (HOLD.out j z (by omega) hz)
   case measure =>
    show n - (((i + 1:Nat):Int)).toNat < n - ((i:Int)).toNat
    rw[Int.toNat_natCast,Int.toNat_natCast]
    omega
  ·obtain rfl:i=n:=by omega
   obtain⟨rfl,hms,cs,hcs,hsz,hold⟩:=HM.out;have HE:O (MkS (fun q=>q=g) w wr∧∃ cs,wr.heap[g]? = some (.cells cs 30 (0,0))∧cs.size=cur.size∧∀ j y,j < i→xs[j]? = some y→CellsAt cs j y):=⟨hms,cs,hcs,hsz,hold⟩;clear hms hcs hsz hold HM;go_wp2;go_ret
   exact⟨rfl,HE.out⟩
set_option maxHeartbeats 2000000 in
theorem markC_nil (A:Option Addr) (c:Nat) (a1:Int) (w:World) :
  Calls Tryz.prog 41 #[.slice A 0 c,.int .i64 a1] w fun e w'=>e=.returned (.int .i64 a1)∧w'=w:=by
 go_enter Tryz.func41,Tryz.ntmps41;go_wp2
 go_loopw [1,5] (fun v1 v5 W=>v1=.int .i64 a1∧v5=.int .i64 0∧O (W=w)) (fun _ v5 _=>0)
 case atStart=>exact⟨rfl,rfl,⟨rfl⟩⟩
 case round =>
  obtain⟨rfl,rfl,HM⟩:=hrel;go_wp2;go_ret
  exact⟨rfl,HM.out⟩
def qzv.f (k:Nat) (l0:List CvT) (a1:Int):Option (Int × List CvT):=if 0≤a1∧a1 + 7 * (l0.length:Int)≤4611686018427387904∧l0.length≤1000000000 then(marksL k l0.length a1).bind fun xs=>some (a1 + 7 * (l0.length:Int),xs) else none
theorem qzv.calls (k:Nat) (P0_:Nat→Prop) (u9000_:Value) (l0:List S30) (a1:Int) (r1:Int) (r2:List S30) (w0 w:World) (hB:Below w0.heap.size w0 w) (ho0:Kd.R k30 30 w w0.heap.size P0_ u9000_ l0) (h:qzv.f k l0 a1=some (r1,r2)) :
  Calls Tryz.prog 41 #[u9000_,.int .i64 a1] w fun e w'=>e=.returned (.int .i64 r1)∧Kd.R k30 30 w' w0.heap.size (fun k_=>(P0_ k_∨w.heap.size≤k_)) u9000_ r2∧Below w0.heap.size w0 w'∧jk w w' (fun k_=>P0_ k_):=by
 unfold qzv.f at h
 by_cases hc : 0≤a1∧a1 + 7 * (l0.length:Int)≤4611686018427387904∧l0.length≤1000000000
 case neg=>rw[if_neg hc] at h;cases h
 rw[if_pos hc] at h;obtain⟨xs,hx,h⟩:=jq8.mp h;have h:=Option.some.inj h;injection h with e1 e2
 subst e1;subst e2
 have hl:=(marksL_get hx).1
 by_cases hz:l0.length=0
 ·obtain⟨A,c,rfl⟩:=Kd.R_slice ho0;obtain rfl:xs=[]:=List.eq_nil_of_length_eq_zero (by omega);obtain rfl:l0=[]:=List.eq_nil_of_length_eq_zero hz;refine(markC_nil A c a1 w).mono ?_
  rintro e w' ⟨rfl,rfl⟩
  exact⟨by simp,Kd.R_mono ho0 (fun _ hk=>.inl hk),hB,jk.refl _ _⟩
 obtain⟨hP,inner,ho,hr⟩:=ho0;have hsz:k30.sz=7:=rfl
 rcases ho.2 with ⟨rfl,hl0⟩|⟨g,cap,cur,rfl,hb,hh,q1,q2,q3,q4⟩
 ·exact absurd hl0 hz
 rw[hsz] at q3 q4;refine(markC_raw k g l0.length cap a1 w cur xs hh (by omega) hx hc.1 hc.2.1 hc.2.2).mono ?_
 rintro e w' ⟨rfl,hm,cs,hcs,hcz,hall⟩
 have htl:cs.toList.length=cs.size:=Array.length_toList;refine⟨rfl,⟨fun k_ hk=>.inl (hP k_ hk),cs.toList.take (l0.length * 7),?_,?_⟩,hB.trans (hm.bel hB.size (fun k_ hk=>hk ▸ hb)),?_⟩
 ·rw[hl,hsz];exact⟨by rw[jq4,htl];omega,.inr ⟨g,cap,cs,rfl,hb,hcs,q1,q2,hcz.trans q3,rfl⟩⟩
 ·refine⟨by rw[hsz,hl,jq4,htl];omega,fun j p hp=>?_⟩;have hj:j < l0.length:=by rw[← hl];exact(List.getElem?_eq_some_iff.1 hp).1
  rw[hsz,row7 (hall j p hj hp) hj (by omega)];exact k30_mkM _ _ _ _
 ·exact⟨hm.size,fun k_ hk hn=>hm.kept k_ hk (fun e=>hn (e ▸ hP g rfl))⟩
end Go.Proofs.YtnbbbjfjkhglhaaGreatDoor.Pr
namespace Go.Proofs.YtnbbbjfjkhglhaaGreatDoor.Pr
open Go.RowKit Go.Proofs.YtnbbbjfjkhglhaaGreatDoorW.PrintWords Go.Proofs.YtnbbbjfjkhglhaaGreatDoorW.PrintLast Go.Proofs.YtnbbbjfjkhglhaaGreatDoorW.PrintMore
set_option linter.unusedVariables false
set_option linter.unusedSimpArgs false
def heldOne (k:Nat) (y:CvT) (a:Int):Prop:=qzw.f k a=some y.f0∧y.f1=a + 1∧qzw.f k (a + 2)=some y.f2∧y.f3.f0=a + 3∧y.f3.f1=a + 4∧qzw.f k (a + 5)=some y.f3.f2∧qzw.f k (a + 6)=some y.f3.f3
instance (k:Nat) (y:CvT) (a:Int):Decidable (heldOne k y a):=by unfold heldOne;infer_instance
def allHeld (k:Nat):List CvT→Int→Bool
 | [],_=>true
 | y :: ys,a=>decide (heldOne k y a) && allHeld k ys (a + 7)
theorem allHeld_get {k:Nat} : ∀ {l:List CvT} {a:Int},allHeld k l a=true→∀ (i:Nat) (hi:i < l.length),heldOne k l[i] (a + 7 * (i:Int))
 | [],_,_,i,hi=>absurd hi (Nat.not_lt_zero i)
 | y :: ys,a,h,i,hi=>by
  rw[allHeld,Bool.and_eq_true,decide_eq_true_eq] at h
  cases i with
  | zero=>rw[show a + 7 * ((0:Nat):Int)=a by omega];exact h.1
  | succ i=>rw[show a + 7 * ((i + 1:Nat):Int)=a + 7 + 7 * (i:Int) by omega];exact allHeld_get h.2 i (Nat.lt_of_succ_lt_succ hi)
def qzz.f (k:Nat) (l0:List CvT) (a1:Int):Option Int:=if allHeld k l0 a1=true∧0≤a1∧a1 + 7 * (l0.length:Int)≤4611686018427387904∧l0.length≤1000000000 then some (a1 + 7 * (l0.length:Int)) else none
theorem qzz.calls (k:Nat) (A0:Option Addr) (c0:Nat) (l0:List S30) (a1:Int) (r:Int) (w:World) (hr0:Kd.C k30 w A0 l0.length l0) (hc0:l0.length≤c0) (h:qzz.f k l0 a1=some r) :
  Calls Tryz.prog 43 #[.slice A0 l0.length c0,.int .i64 a1] w fun e w'=>e=.returned (.int .i64 r)∧Below w.heap.size w w':=by
 unfold qzz.f at h
 by_cases hc:allHeld k l0 a1=true∧0≤a1∧a1 + 7 * (l0.length:Int)≤4611686018427387904∧l0.length≤1000000000
 case neg=>rw[if_neg hc] at h;cases h
 rw[if_pos hc] at h;obtain rfl:=Option.some.inj h;have HR0:=O.mk hr0;have HC:=O.mk hc;clear hr0 h hc;go_enter Tryz.func43,Tryz.ntmps43;go_wp2
 go_loopw [1,5] (fun v1 v5 W=>∃ (i:Nat) (x:Int),i≤l0.length∧v1=.int .i64 x∧v5=.int .i64 i∧O (x=a1 + 7 * (i:Int)∧Below w.heap.size w W)) (fun _ v5 _=>l0.length - (intOf v5).toNat)
 case atStart=>exact⟨0,a1,by omega,rfl,rfl,⟨by simp,Below.refl _ _⟩⟩
 case round =>
  obtain⟨i,x,hi,rfl,rfl,HM⟩:=hrel
  by_cases hlt:i < l0.length
  ·obtain⟨ex,hbw⟩:=HM.out;have hone:=allHeld_get HC.out.1 i hlt;rw[← ex] at hone;have hXB : 0≤x∧x + 7≤4611686018427387904:=by have:=HC.out.2;omega
   have p1:(0≤(i:Int))=True:=eq_true (by omega);have q1:((i:Int) < (l0.length:Int))=True:=eq_true (by omega);obtain⟨ad,ead,_⟩:=at_T30 HR0.out (i:Int) (by omega) (by omega)
   cases ead
   have ey:kw l0 (i:Int)=l0[i]:=by simp[kw,List.getD_eq_getElem?_getD,List.getElem?_eq_getElem hlt]
   have hS:∀ W',Below w.heap.size w W'→W'.cell? (ad.add (i * 7))=some (.string l0[i].f0)∧W'.cell? ⟨(ad.add (i * 7)).block,(ad.add (i * 7)).off + 1,none⟩ = some (.int .i64 l0[i].f1)∧W'.cell? ⟨(ad.add (i * 7)).block,(ad.add (i * 7)).off + 2,none⟩ = some (.string l0[i].f2)∧W'.cell? ⟨(ad.add (i * 7)).block,(ad.add (i * 7)).off + 3,none⟩ = some (.int .i64 l0[i].f3.f0)∧W'.cell? ⟨(ad.add (i * 7)).block,(ad.add (i * 7)).off + 3 + 1,none⟩ = some (.int .i64 l0[i].f3.f1)∧W'.cell? ⟨(ad.add (i * 7)).block,(ad.add (i * 7)).off + 3 + 2,none⟩ = some (.string l0[i].f3.f2)∧W'.cell? ⟨(ad.add (i * 7)).block,(ad.add (i * 7)).off + 3 + 3,none⟩ = some (.string l0[i].f3.f3):=fun W' hb=>by
    obtain⟨ad2,ead2,h0,h1,h2,h3,h4,h5,h6⟩:=at_T30 (Kd.C_below HR0.out hb) (i:Int) (by omega) (by omega)
    cases ead2
    rw[ey,Int.toNat_natCast] at h0 h1 h2 h3 h4 h5 h6;exact⟨h0,h1,h2,h3,h4,h5,h6⟩
   generalize l0[i]=y at hone hS;obtain⟨m0,e1,m2,e3,e4,m5,m6⟩:=hone;obtain⟨x1,ex1⟩ : ∃ x1,x1=x + 1:=⟨_,rfl⟩;obtain⟨x2,ex2⟩ : ∃ x2,x2=x1 + 1:=⟨_,rfl⟩;obtain⟨x3,ex3⟩ : ∃ x3,x3=x2 + 1:=⟨_,rfl⟩;obtain⟨x4,ex4⟩ : ∃ x4,x4=x3 + 1:=⟨_,rfl⟩;obtain⟨x5,ex5⟩ : ∃ x5,x5=x4 + 1:=⟨_,rfl⟩;obtain⟨x6,ex6⟩ : ∃ x6,x6=x5 + 1:=⟨_,rfl⟩;obtain⟨x7,ex7⟩ : ∃ x7,x7=x6 + 1:=⟨_,rfl⟩;have q1:wrap64 (x + 1)=x1:=by rw[ex1];unfold wrap64;omega
   have q2:wrap64 (x1 + 1)=x2:=by rw[ex2];unfold wrap64;omega
   have q3:wrap64 (x2 + 1)=x3:=by rw[ex3];unfold wrap64;omega
   have q4:wrap64 (x3 + 1)=x4:=by rw[ex4];unfold wrap64;omega
   have q5:wrap64 (x4 + 1)=x5:=by rw[ex5];unfold wrap64;omega
   have q6:wrap64 (x5 + 1)=x6:=by rw[ex6];unfold wrap64;omega
   have q7:wrap64 (x6 + 1)=x7:=by rw[ex7];unfold wrap64;omega
   have q8:wrap64 ((i:Int) + 1)=((i + 1:Nat):Int):=by have:=HC.out.2;unfold wrap64;omega
   have r1:IntKind.i64.wrap (x + 1)=x1:=(i64_w _).trans q1;have r2:IntKind.i64.wrap (x1 + 1)=x2:=(i64_w _).trans q2;have r3:IntKind.i64.wrap (x2 + 1)=x3:=(i64_w _).trans q3;have r4:IntKind.i64.wrap (x3 + 1)=x4:=(i64_w _).trans q4;have r5:IntKind.i64.wrap (x4 + 1)=x5:=(i64_w _).trans q5;have r6:IntKind.i64.wrap (x5 + 1)=x6:=(i64_w _).trans q6;have r7:IntKind.i64.wrap (x6 + 1)=x7:=(i64_w _).trans q7;rw[show x + 2=x2 by omega] at m2;rw[show x + 5=x5 by omega] at m5;rw[show x + 6=x6 by omega] at m6;rw[show y.f1=x1 by omega,show y.f3.f0=x3 by omega,show y.f3.f1=x4 by omega] at hS;have M0:=O.mk m0;have M2:=O.mk m2;have M5:=O.mk m5;have M6:=O.mk m6;have E7:O (x7=a1 + 7 * ((i + 1:Nat):Int)):=⟨by omega⟩;have HS:=O.mk hS;have HB0:=O.mk hbw;have HBd:=O.mk hbw.drew;clear ex1 ex2 ex3 ex4 ex5 ex6 ex7 m0 m2 m5 m6 e1 e3 e4 hS hbw ex HM hXB;obtain⟨s0,s1,s2,s3,s4,s5,s6⟩:=HS.out _ HB0.out;go_wp2;go_region_held3 (fun W'=>W'.cell? (ad.add (i * 7))=some (.string y.f0)∧W'.cell? ⟨(ad.add (i * 7)).block,(ad.add (i * 7)).off + 1,none⟩ = some (.int .i64 x1)∧W'.cell? ⟨(ad.add (i * 7)).block,(ad.add (i * 7)).off + 2,none⟩ = some (.string y.f2)∧W'.cell? ⟨(ad.add (i * 7)).block,(ad.add (i * 7)).off + 3,none⟩ = some (.int .i64 x3)∧W'.cell? ⟨(ad.add (i * 7)).block,(ad.add (i * 7)).off + 3 + 1,none⟩ = some (.int .i64 x4)∧W'.cell? ⟨(ad.add (i * 7)).block,(ad.add (i * 7)).off + 3 + 2,none⟩ = some (.string y.f3.f2)∧W'.cell? ⟨(ad.add (i * 7)).block,(ad.add (i * 7)).off + 3 + 3,none⟩ = some (.string y.f3.f3)) (first|go_keep|exact HS.out _ HQ1.out) (first|(go_at_call 69;go_loud ((with_reducible refine(qzw.calls k x y.f0 _ M0.out).mono ?_);rintro e w1 ⟨rfl,hb⟩;have HQ1:=O.mk ((HBd.out).trans (hb.mono (HBd.out).size));obtain⟨s0,s1,s2,s3,s4,s5,s6⟩:=HS.out _ HQ1.out;clear hb)))
   go_wp2;go_region_held3 (fun W'=>W'.cell? (ad.add (i * 7))=some (.string y.f0)∧W'.cell? ⟨(ad.add (i * 7)).block,(ad.add (i * 7)).off + 1,none⟩ = some (.int .i64 x1)∧W'.cell? ⟨(ad.add (i * 7)).block,(ad.add (i * 7)).off + 2,none⟩ = some (.string y.f2)∧W'.cell? ⟨(ad.add (i * 7)).block,(ad.add (i * 7)).off + 3,none⟩ = some (.int .i64 x3)∧W'.cell? ⟨(ad.add (i * 7)).block,(ad.add (i * 7)).off + 3 + 1,none⟩ = some (.int .i64 x4)∧W'.cell? ⟨(ad.add (i * 7)).block,(ad.add (i * 7)).off + 3 + 2,none⟩ = some (.string y.f3.f2)∧W'.cell? ⟨(ad.add (i * 7)).block,(ad.add (i * 7)).off + 3 + 3,none⟩ = some (.string y.f3.f3)) (first|go_keep|exact HS.out _ HQ2.out) (first|(go_at_call 69;go_loud ((with_reducible refine(qzw.calls k x2 y.f2 _ M2.out).mono ?_);rintro e w2 ⟨rfl,hb⟩;have HQ2:=O.mk ((HQ1.out.drew).trans (hb.mono (HQ1.out.drew).size));obtain⟨s0,s1,s2,s3,s4,s5,s6⟩:=HS.out _ HQ2.out;clear hb)))
   go_wp2;go_region_held3 (fun W'=>W'.cell? (ad.add (i * 7))=some (.string y.f0)∧W'.cell? ⟨(ad.add (i * 7)).block,(ad.add (i * 7)).off + 1,none⟩ = some (.int .i64 x1)∧W'.cell? ⟨(ad.add (i * 7)).block,(ad.add (i * 7)).off + 2,none⟩ = some (.string y.f2)∧W'.cell? ⟨(ad.add (i * 7)).block,(ad.add (i * 7)).off + 3,none⟩ = some (.int .i64 x3)∧W'.cell? ⟨(ad.add (i * 7)).block,(ad.add (i * 7)).off + 3 + 1,none⟩ = some (.int .i64 x4)∧W'.cell? ⟨(ad.add (i * 7)).block,(ad.add (i * 7)).off + 3 + 2,none⟩ = some (.string y.f3.f2)∧W'.cell? ⟨(ad.add (i * 7)).block,(ad.add (i * 7)).off + 3 + 3,none⟩ = some (.string y.f3.f3)) (first|go_keep|exact HS.out _ HQ3.out) (first|(go_at_call 69;go_loud ((with_reducible refine(qzw.calls k x5 y.f3.f2 _ M5.out).mono ?_);rintro e w3 ⟨rfl,hb⟩;have HQ3:=O.mk ((HQ2.out.drew).trans (hb.mono (HQ2.out.drew).size));obtain⟨s0,s1,s2,s3,s4,s5,s6⟩:=HS.out _ HQ3.out;clear hb)))
   go_wp2;go_region_held3 (fun W'=>W'.cell? (ad.add (i * 7))=some (.string y.f0)∧W'.cell? ⟨(ad.add (i * 7)).block,(ad.add (i * 7)).off + 1,none⟩ = some (.int .i64 x1)∧W'.cell? ⟨(ad.add (i * 7)).block,(ad.add (i * 7)).off + 2,none⟩ = some (.string y.f2)∧W'.cell? ⟨(ad.add (i * 7)).block,(ad.add (i * 7)).off + 3,none⟩ = some (.int .i64 x3)∧W'.cell? ⟨(ad.add (i * 7)).block,(ad.add (i * 7)).off + 3 + 1,none⟩ = some (.int .i64 x4)∧W'.cell? ⟨(ad.add (i * 7)).block,(ad.add (i * 7)).off + 3 + 2,none⟩ = some (.string y.f3.f2)∧W'.cell? ⟨(ad.add (i * 7)).block,(ad.add (i * 7)).off + 3 + 3,none⟩ = some (.string y.f3.f3)) (first|go_keep|exact HS.out _ HQ4.out) (first|(go_at_call 69;go_loud ((with_reducible refine(qzw.calls k x6 y.f3.f3 _ M6.out).mono ?_);rintro e w4 ⟨rfl,hb⟩;have HQ4:=O.mk ((HQ3.out.drew).trans (hb.mono (HQ3.out.drew).size));obtain⟨s0,s1,s2,s3,s4,s5,s6⟩:=HS.out _ HQ4.out;clear hb)))
   go_wp2;try simp only[q8]
   go_roundw
   case rel=>exact⟨i + 1,x7,hlt,rfl,rfl,⟨E7.out,HQ4.out⟩⟩
   case measure =>
    show l0.length - (((i + 1:Nat):Int)).toNat < l0.length - ((i:Int)).toNat
    rw[Int.toNat_natCast,Int.toNat_natCast];exact Nat.sub_lt_sub_left hlt (Nat.lt_succ_self i)
  ·obtain rfl:i=l0.length:=by omega
   obtain⟨rfl,hbw⟩:=HM.out;have HB0:=O.mk hbw;clear hbw HM;go_wp2;go_ret
   exact⟨rfl,HB0.out⟩
end Go.Proofs.YtnbbbjfjkhglhaaGreatDoor.Pr
namespace Go.Proofs.YtnbbbjfjkhglhaaGreatDoor.Pr
open Go.RowKit Go.Proofs.YtnbbbjfjkhglhaaGreatDoorW.PrintWords Go.Proofs.YtnbbbjfjkhglhaaGreatDoorW.PrintLast Go.Proofs.YtnbbbjfjkhglhaaGreatDoorW.PrintMore
attribute [local go_sem] max2_int min2_int max_two min_two max_three min_three max_four min_four
set_option linter.unusedVariables false
set_option linter.unusedSimpArgs false
def qjq.f (l0:List Int) (a1:Int):Option (Int):=if (wrap64 (a1 - (l0.length:Int))) < 0 then(some (-1)) else(some (wrap64 (a1 - (l0.length:Int))))
theorem qjq.calls (A0:Option Addr) (c0:Nat) (l0:List Int) (a1:Int) (r:Int) (w:World) (hr0:Kd.C (Kd.int .u8) w A0 l0.length l0) (hc0:l0.length≤c0) (h:qjq.f l0 a1=some r) :
  Calls Tryz.prog 27 #[.slice A0 l0.length c0,.int .i64 a1] w fun e w'=>e=.returned (.int .i64 r)∧Drawn0 w w':=by
 have HR0:=O.mk hr0;have HC0:=O.mk hc0;clear hr0 hc0;unfold qjq.f at h;have H:=h;clear h
 by_cases c3:(wrap64 (a1 - (l0.length:Int))) < 0
 ·rw[if_pos c3] at H;have c3b0:decide ((wrap64 (a1 - (l0.length:Int))) < 0)=true:=decide_eq_true c3;clear c3;obtain rfl:=Option.some.inj H;go_enter Tryz.func27,Tryz.ntmps27;go_wp2;go_ret
  exact⟨by first|rfl|(simp;done)|(simp[*];done),by repeat(first|exact Drawn0.refl _|apply Drawn0.step)⟩
 ·rw[if_neg c3] at H;have c3b0:decide ((wrap64 (a1 - (l0.length:Int))) < 0)=false:=decide_eq_false c3;clear c3;obtain rfl:=Option.some.inj H;go_enter Tryz.func27,Tryz.ntmps27;go_wp2;go_ret
  exact⟨by first|rfl|(simp;done)|(simp[*];done),by repeat(first|exact Drawn0.refl _|apply Drawn0.step)⟩
def qjw.l0:Nat→List Int→List Int→Int→Option (List Int)
 | 0,_,_,_=>none
 | k + 1,x0,x3,x4=>if x4 < (x0.length:Int) then(if 0≤x4 then(if x4 < (x3.length:Int) then(qjw.l0 k x0 (x3.set (x4:Int).toNat (rd x0 x4)) (wrap64 (x4 + 1))) else(none)) else(none)) else(some x3)
def qjw.f (k:Nat) (l0:List Int):Option (List Int):=if 0≤(l0.length:Int) then(if ((l0.length:Int):Int).toNat≤281474976710656 then(qjw.l0 k l0 (List.replicate ((l0.length:Int):Int).toNat 0) 0) else(none)) else(none)
theorem qjw.calls (k:Nat) (A0:Option Addr) (c0:Nat) (l0:List Int) (r:List Int) (w:World) (hr0:Kd.C (Kd.int .u8) w A0 l0.length l0) (hc0:l0.length≤c0) (h:qjw.f k l0=some r) :
  Calls Tryz.prog 31 #[.slice A0 l0.length c0] w fun e w'=>∃ v0_:Value,e=.returned (v0_)∧Kd.R (Kd.int .u8) 5 w' w.heap.size (fun _=>True) v0_ r∧Below w.heap.size w w':=by
 have HR0:=O.mk hr0;have HC0:=O.mk hc0;clear hr0 hc0;have HB:=O.mk (Below.refl w.heap.size w);unfold qjw.f at h;have H:=h;clear h
 by_cases c2 : 0≤(l0.length:Int)
 ·rw[if_pos c2] at H;have c2b0:=eq_true c2;have c2b1:decide (0≤(l0.length:Int))=true:=decide_eq_true c2;clear c2
  by_cases c3:((l0.length:Int):Int).toNat≤281474976710656
  ·rw[if_pos c3] at H;have c3b0:=eq_true c3;have c3b1:decide (((l0.length:Int):Int).toNat≤281474976710656)=true:=decide_eq_true c3;clear c3;obtain⟨y101,hy101⟩ : ∃ y_:List Int,y_=(List.replicate ((l0.length:Int):Int).toNat 0):=⟨_,rfl⟩;replace H:(qjw.l0 k l0 y101 0)=some r:=by first|(rw[hy101];with_reducible exact H)|(have H2_:=(Option.bind_some _ _).symm.trans H;rw[hy101];with_reducible exact H2_)|(have H2_:=(Option.bind_some _ _).symm.trans H;with_reducible exact H2_)|with_reducible exact H|(rw[hy101];exact H)|exact H
   have Ny101:=O.mk hy101;clear hy101;have H':=O.mk H;clear H;go_enter Tryz.func31,Tryz.ntmps31;go_wp2_with (first|((with_reducible refine gate_dst (N:=7) rfl ?_);refine Kd.R_make (Kd.int .u8) _ 5 rfl (N:=7) rfl 34 _ _ rfl (l0.length:Int) rfl rfl Tryz.underlying34 (.int .u8 0) 1 info5 rfl (by decide) (by omega) 0 (ok:=fun _=>True) (okp:=fun _=>True) rfl (fun _ hk=>hk) trivial (of_decide_eq_true (by assumption)) (Nat.le_trans (Nat.mul_le_mul_right _ (of_decide_eq_true (by assumption):(l0.length:Int).toNat≤281474976710656)) (by omega)) (Below.refl _ _) (Nat.le_refl _) ?_;intro v102 w4 ho5 hb hg_ hnew_;clear hg_ hnew_;(first|rw[← Ny101.out] at ho5|(simp only[Int.reduceToNat] at ho5;rw[← Ny101.out] at ho5));have HO103:=O.mk (Kd.R_lower ho5 (zz (by solve_by_elim only[HB.out,J,L,I])));replace HB:=O.mk (zq (by solve_by_elim only[HB.out,J,L,I]) hb);clear hb ho5))
   go_loopg [4] k (fun kq v4 w'=>∃ (x3_1:List Int) (x4_1:Int),v4=.int .i64 x4_1∧O (qjw.l0 kq l0 x3_1 x4_1=some r)∧O (kq≤k)∧O (Kd.R (Kd.int .u8) 5 w' w.heap.size (fun _=>True) v102 x3_1)∧O (Below w.heap.size w w'))
   case atStart=>exact⟨(y101),(0),(by first|rfl|(simp;done)|(simp[*];done)),H',⟨Nat.le_refl _⟩,⟨by(with_reducible repeat(first|apply Kd.zk|apply Kd.zj|apply Kd.zv));exact HO103.out⟩,⟨by solve_by_elim only[HB.out,J,L,I]⟩⟩
   case round =>
    clear H';try clear c2
    try clear c2b0
    try clear c2b1
    try clear p2
    try clear c3
    try clear c3b0
    try clear c3b1
    obtain⟨x3_1,x4_1,rfl,HA,HK1,HO_3,HB⟩:=hrel
    cases gk with
    | zero=>exact absurd HA.out (by simp[qjw.l0])
    | succ k1 =>
     have H:=HA.out;clear HA;simp only[qjw.l0] at H
     by_cases c6:x4_1 < (l0.length:Int)
     ·rw[if_pos c6] at H;have c6b0:decide (x4_1 < (l0.length:Int))=true:=decide_eq_true c6;clear c6
      by_cases c7 : 0≤x4_1
      ·rw[if_pos c7] at H;have c7b0:decide (0≤x4_1)=true:=decide_eq_true c7;clear c7
       by_cases c8:x4_1 < (x3_1.length:Int)
       ·rw[if_pos c8] at H;have c8b0:decide (x4_1 < (x3_1.length:Int))=true:=decide_eq_true c8;clear c8;obtain⟨y105,hy105⟩ : ∃ y_:List Int,y_=(x3_1.set (x4_1:Int).toNat (rd l0 x4_1)):=⟨_,rfl⟩;replace H:(qjw.l0 k1 l0 y105 (wrap64 (x4_1 + 1)))=some r:=by first|(rw[hy105];with_reducible exact H)|(have H2_:=(Option.bind_some _ _).symm.trans H;rw[hy105];with_reducible exact H2_)|(have H2_:=(Option.bind_some _ _).symm.trans H;with_reducible exact H2_)|with_reducible exact H|(rw[hy105];exact H)|exact H
        have Ny105:=O.mk hy105;clear hy105;have H':=O.mk H;clear H;have p104 : 0≤(x4_1:Int):=of_decide_eq_true (by assumption);have q104:x4_1 < (l0.length:Int):=of_decide_eq_true (by assumption);obtain⟨ad104,e104,hx104_0⟩:=Kd.at_int HR0.out x4_1 p104 q104
        cases e104
        replace hx104_0:=(HB.out.cell (World.block_lt_of_cell? w _ hx104_0)).trans hx104_0;replace p104:=eq_true p104;replace q104:=eq_true q104;have p9 : 0≤(x4_1:Int):=of_decide_eq_true (by assumption);have q9:(x4_1:Int) < ((x3_1.length:Int):Int):=of_decide_eq_true (by assumption);obtain⟨go9,co9,eo9,gb9,gl9,cl9,HG9⟩:=Kd.R_form HO_3.out (by omega)
        (first|cases eo9|(injection eo9 with ea_ en_ ec_;(first|subst ea_|(injection ea_ with ea_;subst ea_));subst ec_;clear en_))
        have GB9:=O.mk gb9;have GG9:=O.mk HG9;clear gb9 gl9 HG9;obtain⟨hx9_0,hf9_0⟩:=Kd.R_celln 0 HO_3.out (x4_1:Int) p9 q9;replace p9:=eq_true p9;replace q9:=eq_true q9;have HP10:=Kd.R_putg HO_3.out (x4_1:Int) (rd l0 x4_1);go_wp2_with (first|((with_reducible refine jz (t:=5) (p:=20) rfl ?_);refine jj (t:=5) (p:=20) (v:=?vo_w11) (w1:=(wr.setCell ⟨go9,(x4_1:Int).toNat,none⟩ (.int .u8 (rd l0 x4_1)))) ?hg ?ho ?hn ?hr ?_;(case ho=>rfl);(case hg=>rfl);(case hn=>rfl);(case hr=>first|(go_simp;done)|(go_simp;rfl));intro w11 hw;have hg:wr.grownBy w11 (some go9):=(by rw[hw];exact HP10.2);have hp_:Kd.R (Kd.int .u8) 5 w11 w.heap.size (fun _=>True) (.slice (some ⟨go9,0,none⟩) x3_1.length co9) y105:=(by rw[hw,Ny105.out];exact HP10.1);clear HP10;replace HO_3:=O.mk (hp_);replace HB:=O.mk ((by rw[hw];exact qj (HB.out) GB9.out:Below w.heap.size w w11));clear hg hw hp_))
        go_roundg k1
        case measure=>have:=HK1.out;omega
        case rel=>exact⟨(y105),(wrap64 (x4_1 + 1)),(by first|rfl|(simp;done)|(simp[*];done)),H',⟨by have:=HK1.out;omega⟩,⟨by(with_reducible repeat(first|apply Kd.zk|apply Kd.zj|apply Kd.zv));exact HO_3.out⟩,⟨by solve_by_elim only[HB.out,J,L,I]⟩⟩
       ·rw[if_neg c8] at H;exact absurd H (by simp)
      ·rw[if_neg c7] at H;exact absurd H (by simp)
     ·rw[if_neg c6] at H;have c6b0:decide (x4_1 < (l0.length:Int))=false:=decide_eq_false c6;clear c6;obtain rfl:=Option.some.inj H;go_wp2;go_ret
      exact⟨_,by first|rfl|(simp[*,zx,zw] <;> rfl),by(with_reducible repeat(first|apply Kd.zk|apply Kd.zj|apply Kd.zv));exact HO_3.out,by solve_by_elim only[HB.out,J,L,I]⟩
  ·rw[if_neg c3] at H;exact absurd H (by simp)
 ·rw[if_neg c2] at H;exact absurd H (by simp)
def qqj.l0:Nat→List Int→List Int→Int→Option (Bool)
 | 0,_,_,_=>none
 | k + 1,x0,x1,x5=>if x5 < (x0.length:Int) then(if 0≤x5 then(if x5 < (x1.length:Int) then(if (rd x0 x5)=(rd x1 x5) then(qqj.l0 k x0 x1 (wrap64 (x5 + 1))) else(some false)) else(none)) else(none)) else(some true)
def qqj.f (k:Nat) (l0:List Int) (l1:List Int):Option (Bool):=if (l0.length:Int)=(l1.length:Int) then(qqj.l0 k l0 l1 0) else(some false)
theorem qqj.calls (k:Nat) (A0:Option Addr) (c0:Nat) (l0:List Int) (A1:Option Addr) (c1:Nat) (l1:List Int) (r:Bool) (w:World) (hr0:Kd.C (Kd.int .u8) w A0 l0.length l0) (hc0:l0.length≤c0) (hr1:Kd.C (Kd.int .u8) w A1 l1.length l1) (hc1:l1.length≤c1) (h:qqj.f k l0 l1=some r) :
  Calls Tryz.prog 37 #[.slice A0 l0.length c0,.slice A1 l1.length c1] w fun e w'=>e=.returned (.bool r)∧Drawn0 w w':=by
 have HR0:=O.mk hr0;have HC0:=O.mk hc0;clear hr0 hc0;have HR1:=O.mk hr1;have HC1:=O.mk hc1;clear hr1 hc1;unfold qqj.f at h;have H:=h;clear h
 by_cases c3:(l0.length:Int)=(l1.length:Int)
 ·rw[if_pos c3] at H;have c3b0:((l0.length:Int) == (l1.length:Int))=true:=beq_iff_eq.mpr c3;have c3b1:((l0.length:Int) != (l1.length:Int))=false:=bne_eq_false_iff_eq.mpr c3;have c3b2:(l0.length == l1.length)=true:=by first|simpa using c3|(simp at c3 ⊢;omega)
  clear c3;have H':=O.mk H;clear H;go_enter Tryz.func37,Tryz.ntmps37;go_wp2
  repeat(go_quiet (fail);try go_wp2)
  go_loopg [5] k (fun kq v5 w'=>∃ (x5_1:Int),v5=.int .i64 x5_1∧O (qqj.l0 kq l0 l1 x5_1=some r)∧O (kq≤k)∧Drawn0 w w')
  case atStart=>exact⟨(0),(by first|rfl|(simp;done)|(simp[*];done)),H',⟨Nat.le_refl _⟩,by repeat(first|exact Drawn0.refl _|apply Drawn0.step)⟩
  case round =>
   clear H';try clear c1
   try clear p2
   try clear c3
   try clear c3b0
   try clear c3b1
   try clear c3b2
   obtain⟨x5_1,rfl,HA,HK1,⟨m1,rfl⟩⟩:=hrel
   cases gk with
   | zero=>exact absurd HA.out (by simp[qqj.l0])
   | succ k1 =>
    have H:=HA.out;clear HA;simp only[qqj.l0] at H
    by_cases c4:x5_1 < (l0.length:Int)
    ·rw[if_pos c4] at H;have c4b0:decide (x5_1 < (l0.length:Int))=true:=decide_eq_true c4;clear c4
     by_cases c5 : 0≤x5_1
     ·rw[if_pos c5] at H;have c5b0:decide (0≤x5_1)=true:=decide_eq_true c5;clear c5
      by_cases c6:x5_1 < (l1.length:Int)
      ·rw[if_pos c6] at H;have c6b0:decide (x5_1 < (l1.length:Int))=true:=decide_eq_true c6;clear c6
       by_cases c7:(rd l0 x5_1)=(rd l1 x5_1)
       ·rw[if_pos c7] at H;have c7b0:((rd l0 x5_1) == (rd l1 x5_1))=true:=beq_iff_eq.mpr c7;have c7b1:((rd l0 x5_1) != (rd l1 x5_1))=false:=bne_eq_false_iff_eq.mpr c7;clear c7;have H':=O.mk H;clear H;have p101 : 0≤(x5_1:Int):=of_decide_eq_true (by assumption);have q101:x5_1 < (l0.length:Int):=of_decide_eq_true (by assumption);obtain⟨ad101,e101,hx101_0⟩:=Kd.at_int HR0.out x5_1 p101 q101
        cases e101
        replace p101:=eq_true p101;replace q101:=eq_true q101;have p102 : 0≤(x5_1:Int):=of_decide_eq_true (by assumption);have q102:x5_1 < (l1.length:Int):=of_decide_eq_true (by assumption);obtain⟨ad102,e102,hx102_0⟩:=Kd.at_int HR1.out x5_1 p102 q102
        cases e102
        replace p102:=eq_true p102;replace q102:=eq_true q102;go_wp2
        repeat(go_quiet (fail);try go_wp2)
        go_roundg k1
        case measure=>have:=HK1.out;omega
        case rel=>exact⟨(wrap64 (x5_1 + 1)),(by first|rfl|(simp;done)|(simp[*];done)),H',⟨by have:=HK1.out;omega⟩,by repeat(first|exact Drawn0.refl _|apply Drawn0.step)⟩
       ·rw[if_neg c7] at H;have c7b0:((rd l0 x5_1) == (rd l1 x5_1))=false:=beq_eq_false_iff_ne.mpr c7;have c7b1:((rd l0 x5_1) != (rd l1 x5_1))=true:=bne_iff_ne.mpr c7;obtain rfl:=Option.some.inj H;have p101 : 0≤(x5_1:Int):=of_decide_eq_true (by assumption);have q101:x5_1 < (l0.length:Int):=of_decide_eq_true (by assumption);obtain⟨ad101,e101,hx101_0⟩:=Kd.at_int HR0.out x5_1 p101 q101
        cases e101
        replace p101:=eq_true p101;replace q101:=eq_true q101;have p102 : 0≤(x5_1:Int):=of_decide_eq_true (by assumption);have q102:x5_1 < (l1.length:Int):=of_decide_eq_true (by assumption);obtain⟨ad102,e102,hx102_0⟩:=Kd.at_int HR1.out x5_1 p102 q102
        cases e102
        replace p102:=eq_true p102;replace q102:=eq_true q102;go_wp2
        repeat(go_quiet (fail);try go_wp2)
        go_ret
        exact⟨by first|rfl|(simp;done)|(simp[*];done),by repeat(first|exact Drawn0.refl _|apply Drawn0.step)⟩
      ·rw[if_neg c6] at H;exact absurd H (by simp)
     ·rw[if_neg c5] at H;exact absurd H (by simp)
    ·rw[if_neg c4] at H;have c4b0:decide (x5_1 < (l0.length:Int))=false:=decide_eq_false c4;clear c4;obtain rfl:=Option.some.inj H;go_wp2
     repeat(go_quiet (fail);try go_wp2)
     go_ret
     exact⟨by first|rfl|(simp;done)|(simp[*];done),by repeat(first|exact Drawn0.refl _|apply Drawn0.step)⟩
 ·rw[if_neg c3] at H;have c3b0:((l0.length:Int) == (l1.length:Int))=false:=beq_eq_false_iff_ne.mpr c3;have c3b1:((l0.length:Int) != (l1.length:Int))=true:=bne_iff_ne.mpr c3;have c3b2:(l0.length == l1.length)=false:=by first|simpa using c3|(simp at c3 ⊢;omega)
  obtain rfl:=Option.some.inj H;go_enter Tryz.func37,Tryz.ntmps37;go_wp2
  repeat(go_quiet (fail);try go_wp2)
  go_ret
  exact⟨by first|rfl|(simp;done)|(simp[*];done),by repeat(first|exact Drawn0.refl _|apply Drawn0.step)⟩
def qzj.l0:Nat→List Int→Int→Int→Option (Int × List Int)
 | 0,_,_,_=>none
 | k + 1,x0,x1,x5=>if x5 < (x0.length:Int) then(if 0≤x5 then(qzj.l0 k (x0.set (x5:Int).toNat ((x1) % 256)) (wrap64 (x1 + 1)) (wrap64 (x5 + 1))) else(none)) else(some (x1,x0))
def qzj.f (k:Nat) (l0:List Int) (a1:Int):Option (Int × List Int):=qzj.l0 k l0 a1 0
theorem qzj.calls (k:Nat) (P0_:Nat→Prop) (u9000_:Value) (l0:List Int) (a1:Int) (r1:Int) (r2:List Int) (w0 w:World) (hB:Below w0.heap.size w0 w) (ho0:Kd.R (Kd.int .u8) 5 w w0.heap.size P0_ u9000_ l0) (h:qzj.f k l0 a1=some (r1,r2)) :
  Calls Tryz.prog 42 #[u9000_,.int .i64 a1] w fun e w'=>e=.returned (.int .i64 r1)∧Kd.R (Kd.int .u8) 5 w' w0.heap.size (fun k_=>(P0_ k_∨w.heap.size≤k_)) u9000_ r2∧Below w0.heap.size w0 w'∧jk w w' (fun k_=>P0_ k_):=by
 have HO0:=O.mk (show Kd.R (Kd.int .u8) 5 w w0.heap.size (fun k_=>(P0_ k_∨w.heap.size≤k_)) u9000_ l0 from Kd.R_mono ho0 (fun k_ hk=>(.inl hk)));have HK:=O.mk (jk.refl w (fun k_=>P0_ k_));have HW0:=O.mk hB.size;have HB:=O.mk hB;clear hB;have H:(qzj.l0 k l0 a1 0)=some (r1,r2):=h;clear h;have H':=O.mk H;clear H;go_enter Tryz.func42,Tryz.ntmps42;go_wp2
 go_loopg [1,5] k (fun kq v1 v5 w'=>∃ (x0_1:List Int) (x1_1:Int) (x5_1:Int),v1=.int .i64 x1_1∧v5=.int .i64 x5_1∧O (qzj.l0 kq x0_1 x1_1 x5_1=some (r1,r2))∧O (kq≤k)∧O (Kd.R (Kd.int .u8) 5 w' w0.heap.size (fun k_=>(P0_ k_∨w.heap.size≤k_)) u9000_ x0_1)∧O (jk w w' (fun k_=>P0_ k_))∧O (Below w0.heap.size w0 w'))
 case atStart=>exact⟨(l0),(a1),(0),(by first|rfl|(simp;done)|(simp[*];done)),(by first|rfl|(simp;done)|(simp[*];done)),H',⟨Nat.le_refl _⟩,⟨by(with_reducible repeat(first|apply Kd.zk|apply Kd.zj|apply Kd.zv));exact HO0.out⟩,⟨by solve_by_elim only[HK.out,jk.alloc,jk.drewN,jk.drew]⟩,⟨by solve_by_elim only[HB.out,J,L,I]⟩⟩
 case round =>
  clear H';try clear p2
  obtain⟨x0_1,x1_1,x5_1,rfl,rfl,HA,HK1,HO_0,HK,HB⟩:=hrel
  cases gk with
  | zero=>exact absurd HA.out (by simp[qzj.l0])
  | succ k1 =>
   have H:=HA.out;clear HA;simp only[qzj.l0] at H
   by_cases c3:x5_1 < (x0_1.length:Int)
   ·rw[if_pos c3] at H;have c3b0:decide (x5_1 < (x0_1.length:Int))=true:=decide_eq_true c3;clear c3
    by_cases c4 : 0≤x5_1
    ·rw[if_pos c4] at H;have c4b0:decide (0≤x5_1)=true:=decide_eq_true c4;clear c4;obtain⟨y101,hy101⟩ : ∃ y_:List Int,y_=(x0_1.set (x5_1:Int).toNat ((x1_1) % 256)):=⟨_,rfl⟩;replace H:(qzj.l0 k1 y101 (wrap64 (x1_1 + 1)) (wrap64 (x5_1 + 1)))=some (r1,r2):=by first|(rw[hy101];with_reducible exact H)|(have H2_:=(Option.bind_some _ _).symm.trans H;rw[hy101];with_reducible exact H2_)|(have H2_:=(Option.bind_some _ _).symm.trans H;with_reducible exact H2_)|with_reducible exact H|(rw[hy101];exact H)|exact H
     have Ny101:=O.mk hy101;clear hy101;have H':=O.mk H;clear H;obtain⟨Ao6,co6,eo6⟩:=Kd.R_slice HO_0.out;subst eo6;have p5 : 0≤(x5_1:Int):=of_decide_eq_true (by assumption);have q5:(x5_1:Int) < ((x0_1.length:Int):Int):=of_decide_eq_true (by assumption);obtain⟨go5,co5,eo5,gb5,gl5,cl5,HG5⟩:=Kd.R_form HO_0.out (by omega)
     (first|cases eo5|(injection eo5 with ea_ en_ ec_;(first|subst ea_|(injection ea_ with ea_;subst ea_));subst ec_;clear en_))
     have GB5:=O.mk gb5;have GG5:=O.mk HG5;clear gb5 gl5 HG5;have HMgo5:=O.mk (show(P0_ go5∨w.heap.size≤go5) from(HO_0.out.1 _ rfl));obtain⟨hx5_0,hf5_0⟩:=Kd.R_celln 0 HO_0.out (x5_1:Int) p5 q5;replace p5:=eq_true p5;replace q5:=eq_true q5;have HP7:=Kd.R_putg HO_0.out (x5_1:Int) ((x1_1) % 256);go_wp2_with (first|((with_reducible refine jz (t:=5) (p:=16) rfl ?_);refine jj (t:=5) (p:=16) (v:=?vo_w8) (w1:=(wr.setCell ⟨go5,(x5_1:Int).toNat,none⟩ (.int .u8 ((x1_1) % 256)))) ?hg ?ho ?hn ?hr ?_;(case ho=>rfl);(case hg=>rfl);(case hn=>rfl);(case hr=>first|(go_simp;done)|(go_simp;rfl));intro w8 hw;have hg:wr.grownBy w8 (some go5):=(by rw[hw];exact HP7.2);have hp_:Kd.R (Kd.int .u8) 5 w8 w0.heap.size (fun k_=>(P0_ k_∨w.heap.size≤k_)) (.slice (some ⟨go5,0,none⟩) x0_1.length co6) y101:=(by rw[hw,Ny101.out];exact HP7.1);clear HP7;replace HB:=O.mk ((by rw[hw];exact qj (HB.out) GB5.out:Below w0.heap.size w0 w8));replace HK:=O.mk (jk.of_grown (S:=(fun k_=>P0_ k_)) hg (by solve_by_elim only[HK.out,jk.alloc,jk.drewN,jk.drew]) (fun k_ e_=>(HO_0.out.1 k_ e_)));replace HO_0:=O.mk (hp_);clear hg hw hp_))
     go_roundg k1
     case measure=>have:=HK1.out;omega
     case rel=>exact⟨(y101),(wrap64 (x1_1 + 1)),(wrap64 (x5_1 + 1)),(by first|rfl|(simp;done)|(simp[*];done)),(by first|rfl|(simp;done)|(simp[*];done)),H',⟨by have:=HK1.out;omega⟩,⟨by(with_reducible repeat(first|apply Kd.zk|apply Kd.zj|apply Kd.zv));exact HO_0.out⟩,⟨by solve_by_elim only[HK.out,jk.alloc,jk.drewN,jk.drew]⟩,⟨by solve_by_elim only[HB.out,J,L,I]⟩⟩
    ·rw[if_neg c4] at H;exact absurd H (by simp)
   ·rw[if_neg c3] at H;have c3b0:decide (x5_1 < (x0_1.length:Int))=false:=decide_eq_false c3;clear c3;simp only[Option.some.injEq,Prod.mk.injEq] at H;obtain⟨rfl,rfl⟩:=H;obtain⟨Ao9,co9,eo9⟩:=Kd.R_slice HO_0.out;subst eo9;go_wp2;go_ret
    exact⟨by first|rfl|(simp[*,zx,zw] <;> rfl),by(with_reducible repeat(first|apply Kd.zk|apply Kd.zj|apply Kd.zv));exact HO_0.out,by solve_by_elim only[HB.out,J,L,I],by solve_by_elim only[HK.out,jk.alloc,jk.drewN,jk.drew]⟩
def qqx.l0:Nat→List Int→Int→Int→Option (Int)
 | 0,_,_,_=>none
 | k + 1,x0,x1,x5=>if x5 < (x0.length:Int) then(if 0≤x5 then(if (rd x0 x5)=((x1) % 256) then(qqx.l0 k x0 (wrap64 (x1 + 1)) (wrap64 (x5 + 1))) else(some (-1))) else(none)) else(some x1)
def qqx.f (k:Nat) (l0:List Int) (a1:Int):Option (Int):=qqx.l0 k l0 a1 0
theorem qqx.calls (k:Nat) (A0:Option Addr) (c0:Nat) (l0:List Int) (a1:Int) (r:Int) (w:World) (hr0:Kd.C (Kd.int .u8) w A0 l0.length l0) (hc0:l0.length≤c0) (h:qqx.f k l0 a1=some r) :
  Calls Tryz.prog 44 #[.slice A0 l0.length c0,.int .i64 a1] w fun e w'=>e=.returned (.int .i64 r)∧Drawn0 w w':=by
 have HR0:=O.mk hr0;have HC0:=O.mk hc0;clear hr0 hc0;have H:(qqx.l0 k l0 a1 0)=some r:=h;clear h;have H':=O.mk H;clear H;go_enter Tryz.func44,Tryz.ntmps44;go_wp2
 go_loopg [1,5] k (fun kq v1 v5 w'=>∃ (x1_1:Int) (x5_1:Int),v1=.int .i64 x1_1∧v5=.int .i64 x5_1∧O (qqx.l0 kq l0 x1_1 x5_1=some r)∧O (kq≤k)∧Drawn0 w w')
 case atStart=>exact⟨(a1),(0),(by first|rfl|(simp;done)|(simp[*];done)),(by first|rfl|(simp;done)|(simp[*];done)),H',⟨Nat.le_refl _⟩,by repeat(first|exact Drawn0.refl _|apply Drawn0.step)⟩
 case round =>
  clear H';try clear p2
  obtain⟨x1_1,x5_1,rfl,rfl,HA,HK1,⟨m1,rfl⟩⟩:=hrel
  cases gk with
  | zero=>exact absurd HA.out (by simp[qqx.l0])
  | succ k1 =>
   have H:=HA.out;clear HA;simp only[qqx.l0] at H
   by_cases c3:x5_1 < (l0.length:Int)
   ·rw[if_pos c3] at H;have c3b0:decide (x5_1 < (l0.length:Int))=true:=decide_eq_true c3;clear c3
    by_cases c4 : 0≤x5_1
    ·rw[if_pos c4] at H;have c4b0:decide (0≤x5_1)=true:=decide_eq_true c4;clear c4
     by_cases c5:(rd l0 x5_1)=((x1_1) % 256)
     ·rw[if_pos c5] at H;have c5b0:((rd l0 x5_1) == ((x1_1) % 256))=true:=beq_iff_eq.mpr c5;have c5b1:((rd l0 x5_1) != ((x1_1) % 256))=false:=bne_eq_false_iff_eq.mpr c5;clear c5;have H':=O.mk H;clear H;have p101 : 0≤(x5_1:Int):=of_decide_eq_true (by assumption);have q101:x5_1 < (l0.length:Int):=of_decide_eq_true (by assumption);obtain⟨ad101,e101,hx101_0⟩:=Kd.at_int HR0.out x5_1 p101 q101
      cases e101
      replace p101:=eq_true p101;replace q101:=eq_true q101;go_wp2;go_roundg k1
      case measure=>have:=HK1.out;omega
      case rel=>exact⟨(wrap64 (x1_1 + 1)),(wrap64 (x5_1 + 1)),(by first|rfl|(simp;done)|(simp[*];done)),(by first|rfl|(simp;done)|(simp[*];done)),H',⟨by have:=HK1.out;omega⟩,by repeat(first|exact Drawn0.refl _|apply Drawn0.step)⟩
     ·rw[if_neg c5] at H;have c5b0:((rd l0 x5_1) == ((x1_1) % 256))=false:=beq_eq_false_iff_ne.mpr c5;have c5b1:((rd l0 x5_1) != ((x1_1) % 256))=true:=bne_iff_ne.mpr c5;obtain rfl:=Option.some.inj H;have p101 : 0≤(x5_1:Int):=of_decide_eq_true (by assumption);have q101:x5_1 < (l0.length:Int):=of_decide_eq_true (by assumption);obtain⟨ad101,e101,hx101_0⟩:=Kd.at_int HR0.out x5_1 p101 q101
      cases e101
      replace p101:=eq_true p101;replace q101:=eq_true q101;go_wp2;go_ret
      exact⟨by first|rfl|(simp;done)|(simp[*];done),by repeat(first|exact Drawn0.refl _|apply Drawn0.step)⟩
    ·rw[if_neg c4] at H;exact absurd H (by simp)
   ·rw[if_neg c3] at H;have c3b0:decide (x5_1 < (l0.length:Int))=false:=decide_eq_false c3;clear c3;obtain rfl:=Option.some.inj H;go_wp2;go_ret
    exact⟨by first|rfl|(simp;done)|(simp[*];done),by repeat(first|exact Drawn0.refl _|apply Drawn0.step)⟩
end Go.Proofs.YtnbbbjfjkhglhaaGreatDoor.Pr
namespace Go.Proofs.YtnbbbjfjkhglhaaGreatDoor.Pr
open Go.RowKit Go.Proofs.YtnbbbjfjkhglhaaGreatDoorW.PrintWords Go.Proofs.YtnbbbjfjkhglhaaGreatDoorW.PrintLast Go.Proofs.YtnbbbjfjkhglhaaGreatDoorW.PrintMore
attribute [local go_sem] max2_int min2_int max_two min_two max_three min_three max_four min_four
set_option linter.unusedVariables false
set_option linter.unusedSimpArgs false
def qzx.f (a0_0:Int) (a0_1:Int) (a0_2:ByteArray) (a0_3:ByteArray) (a1:Int):Option (Int):=if (wrap64 (a1 - (a0_2.size:Int))) < 0 then(some (-1)) else(if (wrap64 ((wrap64 (a1 - (a0_2.size:Int))) - (a0_3.size:Int))) < 0 then(some (-1)) else(some (wrap64 ((wrap64 (a1 - (a0_2.size:Int))) - (a0_3.size:Int)))))
theorem qzx.calls (a0_0:Int) (a0_1:Int) (a0_2:ByteArray) (a0_3:ByteArray) (a1:Int) (r:Int) (w:World) (h:qzx.f a0_0 a0_1 a0_2 a0_3 a1=some r) :
  Calls Tryz.prog 19 #[.agg #[.int .i64 a0_0,.int .i64 a0_1,.string a0_2,.string a0_3],.int .i64 a1] w fun e w'=>e=.returned (.int .i64 r)∧Below w.heap.size w w':=by
 have hu23:=Tryz.underlying23;have HB:=O.mk (Below.refl w.heap.size w);unfold qzx.f at h;have H:=h;clear h
 by_cases c3:(wrap64 (a1 - (a0_2.size:Int))) < 0
 ·rw[if_pos c3] at H;have c3b0:decide ((wrap64 (a1 - (a0_2.size:Int))) < 0)=true:=decide_eq_true c3;clear c3;obtain rfl:=Option.some.inj H;go_enter Tryz.func19,Tryz.ntmps19;go_wp2_with (first|((with_reducible refine gate_dst (N:=2) rfl ?_);refine box_event ?hg (N:=2) ?hd (cs:=#[.int .i64 a0_0,.int .i64 a0_1,.string a0_2,.string a0_3]) (t:=23) ?hr ?_;(case hd=>rfl);(case hg=>rfl);(case hr=>first|(go_simp;done)|(go_simp;rfl));intro gb101 hg w4 hbox hb;have BK101:=O.mk (hbox);have GW101:=O.mk ((by rw[hg];exact(zz (by solve_by_elim only[HB.out,J,L,I])):w.heap.size≤gb101));have GE101:=GW101;replace HB:=O.mk (zq (by solve_by_elim only[HB.out,J,L,I]) hb);clear hb hbox hg;obtain⟨y5_0,y5_1,y5_2,y5_3,z5_0,z5_1,z5_2,z5_3⟩:=bx4f BK101.out))
  go_ret
  exact⟨by first|rfl|(simp[*,zx,zw] <;> rfl),by solve_by_elim (maxDepth:=20) only[HB.out,J,L,I,qj,GE101.out]⟩
 ·rw[if_neg c3] at H;have c3b0:decide ((wrap64 (a1 - (a0_2.size:Int))) < 0)=false:=decide_eq_false c3;clear c3
  by_cases c6:(wrap64 ((wrap64 (a1 - (a0_2.size:Int))) - (a0_3.size:Int))) < 0
  ·rw[if_pos c6] at H;have c6b0:decide ((wrap64 ((wrap64 (a1 - (a0_2.size:Int))) - (a0_3.size:Int))) < 0)=true:=decide_eq_true c6;clear c6;obtain rfl:=Option.some.inj H;go_enter Tryz.func19,Tryz.ntmps19;go_wp2_with (first|((with_reducible refine gate_dst (N:=2) rfl ?_);refine box_event ?hg (N:=2) ?hd (cs:=#[.int .i64 a0_0,.int .i64 a0_1,.string a0_2,.string a0_3]) (t:=23) ?hr ?_;(case hd=>rfl);(case hg=>rfl);(case hr=>first|(go_simp;done)|(go_simp;rfl));intro gb101 hg w7 hbox hb;have BK101:=O.mk (hbox);have GW101:=O.mk ((by rw[hg];exact(zz (by solve_by_elim only[HB.out,J,L,I])):w.heap.size≤gb101));have GE101:=GW101;replace HB:=O.mk (zq (by solve_by_elim only[HB.out,J,L,I]) hb);clear hb hbox hg;obtain⟨y8_0,y8_1,y8_2,y8_3,z8_0,z8_1,z8_2,z8_3⟩:=bx4f BK101.out))
   go_ret
   exact⟨by first|rfl|(simp[*,zx,zw] <;> rfl),by solve_by_elim (maxDepth:=20) only[HB.out,J,L,I,qj,GE101.out]⟩
  ·rw[if_neg c6] at H;have c6b0:decide ((wrap64 ((wrap64 (a1 - (a0_2.size:Int))) - (a0_3.size:Int))) < 0)=false:=decide_eq_false c6;clear c6;obtain rfl:=Option.some.inj H;go_enter Tryz.func19,Tryz.ntmps19;go_wp2_with (first|((with_reducible refine gate_dst (N:=2) rfl ?_);refine box_event ?hg (N:=2) ?hd (cs:=#[.int .i64 a0_0,.int .i64 a0_1,.string a0_2,.string a0_3]) (t:=23) ?hr ?_;(case hd=>rfl);(case hg=>rfl);(case hr=>first|(go_simp;done)|(go_simp;rfl));intro gb101 hg w9 hbox hb;have BK101:=O.mk (hbox);have GW101:=O.mk ((by rw[hg];exact(zz (by solve_by_elim only[HB.out,J,L,I])):w.heap.size≤gb101));have GE101:=GW101;replace HB:=O.mk (zq (by solve_by_elim only[HB.out,J,L,I]) hb);clear hb hbox hg;obtain⟨y10_0,y10_1,y10_2,y10_3,z10_0,z10_1,z10_2,z10_3⟩:=bx4f BK101.out))
   go_ret
   exact⟨by first|rfl|(simp[*,zx,zw] <;> rfl),by solve_by_elim (maxDepth:=20) only[HB.out,J,L,I,qj,GE101.out]⟩
def qjv.f (a0_0:Int) (a0_1:Int) (a0_2:ByteArray) (a0_3:ByteArray):Option (Int × Int × ByteArray × ByteArray):=some (a0_0,a0_1,a0_2,a0_3)
theorem qjv.calls (a0_0:Int) (a0_1:Int) (a0_2:ByteArray) (a0_3:ByteArray) (r1:Int) (r2:Int) (r3:ByteArray) (r4:ByteArray) (w:World) (h:qjv.f a0_0 a0_1 a0_2 a0_3=some (r1,r2,r3,r4)) :
  Calls Tryz.prog 23 #[.agg #[.int .i64 a0_0,.int .i64 a0_1,.string a0_2,.string a0_3]] w fun e w'=>e=.returned (.agg #[.int .i64 r1,.int .i64 r2,.string r3,.string r4])∧Below w.heap.size w w':=by
 have hu23:=Tryz.underlying23;have hu28:=Tryz.underlying28;have HB:=O.mk (Below.refl w.heap.size w);have H:(some (a0_0,a0_1,a0_2,a0_3))=some (r1,r2,r3,r4):=h;clear h;simp only[Option.some.injEq,Prod.mk.injEq] at H;obtain⟨rfl,rfl,rfl,rfl⟩:=H;go_enter Tryz.func23,Tryz.ntmps23;go_wp2_with (first|((with_reducible refine gate_dst (N:=1) rfl ?_);refine box_event ?hg (N:=1) ?hd (cs:=#[.int .i64 a0_0,.int .i64 a0_1,.string a0_2,.string a0_3]) (t:=23) ?hr ?_;(case hd=>rfl);(case hg=>rfl);(case hr=>first|(go_simp;done)|(go_simp;rfl));intro gb101 hg w2 hbox hb;have BK101:=O.mk (hbox);have GW101:=O.mk ((by rw[hg];exact(zz (by solve_by_elim only[HB.out,J,L,I])):w.heap.size≤gb101));have GE101:=GW101;replace HB:=O.mk (zq (by solve_by_elim only[HB.out,J,L,I]) hb);clear hb hbox hg)|((with_reducible refine gate_dst (N:=2) rfl ?_);refine box_event ?hg (N:=2) ?hd (cs:=#[.int .i64 0,.int .i64 0,.string (⟨#[]⟩ : ByteArray),.string (⟨#[]⟩ : ByteArray)]) (t:=28) ?hr ?_;(case hd=>rfl);(case hg=>rfl);(case hr=>first|(go_simp;done)|(go_simp;rfl));intro gb102 hg w3 hbox hb;have BK102:=O.mk (hbox);have GW102:=O.mk ((by rw[hg];exact(zz (by solve_by_elim (maxDepth:=20) only[HB.out,J,L,I,qj,GE101.out])):w.heap.size≤gb102));have GE102:=GW102;replace HB:=O.mk (zq (by solve_by_elim (maxDepth:=20) only[HB.out,J,L,I,qj,GE101.out]) hb);have NB101_102:=O.mk ((by rw[hg];exact Nat.ne_of_lt (blk_lt (by solve_by_elim only[BK101.out,qv,qw,qk])):gb101≠gb102));have NB102_101:=O.mk ((by rw[hg];exact Nat.ne_of_gt (blk_lt (by solve_by_elim only[BK101.out,qv,qw,qk])):gb102≠gb101));replace BK101:=O.mk (kz (by solve_by_elim only[BK101.out,qv,qw,qk]) hb);clear hb hbox hg)|((with_reducible refine gate_dst (N:=3) rfl ?_);refine box_event ?hg (N:=3) ?hd (cs:=#[.int .i64 0,.int .i64 0,.string (⟨#[]⟩ : ByteArray),.string (⟨#[]⟩ : ByteArray)]) (t:=28) ?hr ?_;(case hd=>rfl);(case hg=>rfl);(case hr=>first|(go_simp;done)|(go_simp;rfl));intro gb103 hg w4 hbox hb;have BK103:=O.mk (hbox);have GW103:=O.mk ((by rw[hg];exact(zz (by repeat(first|(with_reducible first|exact HB.out|apply J|apply L|apply I|refine qj ?_ GE101.out|refine qj ?_ GE102.out)|exact HB.out))):w.heap.size≤gb103));have GE103:=GW103;replace HB:=O.mk (zq (by repeat(first|(with_reducible first|exact HB.out|apply J|apply L|apply I|refine qj ?_ GE101.out|refine qj ?_ GE102.out)|exact HB.out)) hb);have NB101_103:=O.mk ((by rw[hg];exact Nat.ne_of_lt (blk_lt (by solve_by_elim only[BK101.out,qv,qw,qk])):gb101≠gb103));have NB103_101:=O.mk ((by rw[hg];exact Nat.ne_of_gt (blk_lt (by solve_by_elim only[BK101.out,qv,qw,qk])):gb103≠gb101));replace BK101:=O.mk (kz (by solve_by_elim only[BK101.out,qv,qw,qk]) hb);have NB102_103:=O.mk ((by rw[hg];exact Nat.ne_of_lt (blk_lt (by solve_by_elim only[BK102.out,qv,qw,qk])):gb102≠gb103));have NB103_102:=O.mk ((by rw[hg];exact Nat.ne_of_gt (blk_lt (by solve_by_elim only[BK102.out,qv,qw,qk])):gb103≠gb102));replace BK102:=O.mk (kz (by solve_by_elim only[BK102.out,qv,qw,qk]) hb);clear hb hbox hg;have hnb5:=NB101_102.out;have hnc5:=NB102_101.out;have hnb6:=NB101_103.out;have hnc6:=NB103_101.out;obtain⟨y7_0,y7_1,y7_2,y7_3,z7_0,z7_1,z7_2,z7_3⟩:=bx4f BK101.out;have hnb8:=NB103_102.out;have hnc8:=NB102_103.out;obtain⟨y9_0,y9_1,y9_2,y9_3,z9_0,z9_1,z9_2,z9_3⟩:=bx4f BK103.out;obtain⟨y10_0,y10_1,y10_2,y10_3,z10_0,z10_1,z10_2,z10_3⟩:=bx4f BK102.out))
 refine bodyPost_ret (results_cell_row rfl _ _ gb102 28 #[.int .i64 a0_0,.int .i64 a0_1,.string a0_2,.string a0_3] (0,0) _ rfl (by(with_reducible repeat(first|refine qv ?_ _|refine qw ?_|refine qk ?_ _));refine blk_put (cs:=#[.int .i64 a0_0,.int .i64 a0_1,.string a0_2,.string (⟨#[]⟩ : ByteArray)]) ?_ 3 _ rfl;(with_reducible repeat(first|refine qv ?_ _|refine qw ?_|refine qk ?_ _));refine blk_put (cs:=#[.int .i64 a0_0,.int .i64 a0_1,.string (⟨#[]⟩ : ByteArray),.string (⟨#[]⟩ : ByteArray)]) ?_ 2 _ rfl;(with_reducible repeat(first|refine qv ?_ _|refine qw ?_|refine qk ?_ _));refine blk_put (cs:=#[.int .i64 a0_0,.int .i64 0,.string (⟨#[]⟩ : ByteArray),.string (⟨#[]⟩ : ByteArray)]) ?_ 1 _ rfl;(with_reducible repeat(first|refine qv ?_ _|refine qw ?_|refine qk ?_ _));refine blk_put (cs:=#[.int .i64 0,.int .i64 0,.string (⟨#[]⟩ : ByteArray),.string (⟨#[]⟩ : ByteArray)]) ?_ 0 _ rfl;(with_reducible repeat(first|refine qv ?_ _|refine qw ?_|refine qk ?_ _));refine blk_far ?_ NB102_103.out _;(with_reducible repeat(first|refine qv ?_ _|refine qw ?_|refine qk ?_ _));refine blk_far ?_ NB102_103.out _;(with_reducible repeat(first|refine qv ?_ _|refine qw ?_|refine qk ?_ _));refine blk_far ?_ NB102_103.out _;(with_reducible repeat(first|refine qv ?_ _|refine qw ?_|refine qk ?_ _));refine blk_far ?_ NB102_103.out _;(with_reducible repeat(first|refine qv ?_ _|refine qw ?_|refine qk ?_ _));exact BK102.out) Tryz.underlying28 rfl (by kernel_rfl)) rfl ?_;exact⟨by first|rfl|(simp[*,zx,zw] <;> rfl),by repeat(first|(with_reducible first|exact HB.out|apply J|apply L|apply I|refine qj ?_ GE101.out|refine qj ?_ GE102.out|refine qj ?_ GE103.out)|exact HB.out)⟩
def qqz.f (a0_0:Int) (a0_1:Int) (a0_2:ByteArray) (a0_3:ByteArray) (a1_0:Int) (a1_1:Int) (a1_2:ByteArray) (a1_3:ByteArray):Option (Bool):=if a0_0=a1_0 then(if a0_1=a1_1 then(if a0_2.toList=a1_2.toList then(if a0_3.toList=a1_3.toList then(some true) else(some false)) else(some false)) else(some false)) else(some false)
theorem qqz.calls (a0_0:Int) (a0_1:Int) (a0_2:ByteArray) (a0_3:ByteArray) (a1_0:Int) (a1_1:Int) (a1_2:ByteArray) (a1_3:ByteArray) (r:Bool) (w:World) (h:qqz.f a0_0 a0_1 a0_2 a0_3 a1_0 a1_1 a1_2 a1_3=some r) :
  Calls Tryz.prog 84 #[.agg #[.int .i64 a0_0,.int .i64 a0_1,.string a0_2,.string a0_3],.agg #[.int .i64 a1_0,.int .i64 a1_1,.string a1_2,.string a1_3]] w fun e w'=>e=.returned (.bool r)∧Below w.heap.size w w':=by
 have hu28:=Tryz.underlying28;have HB:=O.mk (Below.refl w.heap.size w);unfold qqz.f at h;have H:=h;clear h
 by_cases c3:a0_0=a1_0
 ·rw[if_pos c3] at H;have c3b0:(a0_0 == a1_0)=true:=beq_iff_eq.mpr c3;have c3b1:(a0_0 != a1_0)=false:=bne_eq_false_iff_eq.mpr c3;clear c3
  by_cases c4:a0_1=a1_1
  ·rw[if_pos c4] at H;have c4b0:(a0_1 == a1_1)=true:=beq_iff_eq.mpr c4;have c4b1:(a0_1 != a1_1)=false:=bne_eq_false_iff_eq.mpr c4;clear c4
   by_cases c5:a0_2.toList=a1_2.toList
   ·rw[if_pos c5] at H;have c5b0:(a0_2.toList == a1_2.toList)=true:=beq_iff_eq.mpr c5;have c5b1:(a0_2.toList != a1_2.toList)=false:=bne_eq_false_iff_eq.mpr c5;clear c5
    by_cases c6:a0_3.toList=a1_3.toList
    ·rw[if_pos c6] at H;have c6b0:(a0_3.toList == a1_3.toList)=true:=beq_iff_eq.mpr c6;have c6b1:(a0_3.toList != a1_3.toList)=false:=bne_eq_false_iff_eq.mpr c6;clear c6;obtain rfl:=Option.some.inj H;go_enter Tryz.func84,Tryz.ntmps84;go_wp2_with (first|((with_reducible refine gate_dst (N:=2) rfl ?_);refine box_event ?hg (N:=2) ?hd (cs:=#[.int .i64 a0_0,.int .i64 a0_1,.string a0_2,.string a0_3]) (t:=28) ?hr ?_;(case hd=>rfl);(case hg=>rfl);(case hr=>first|(go_simp;done)|(go_simp;rfl));intro gb101 hg w7 hbox hb;have BK101:=O.mk (hbox);have GW101:=O.mk ((by rw[hg];exact(zz (by solve_by_elim only[HB.out,J,L,I])):w.heap.size≤gb101));have GE101:=GW101;replace HB:=O.mk (zq (by solve_by_elim only[HB.out,J,L,I]) hb);clear hb hbox hg)|((with_reducible refine gate_dst (N:=3) rfl ?_);refine box_event ?hg (N:=3) ?hd (cs:=#[.int .i64 a1_0,.int .i64 a1_1,.string a1_2,.string a1_3]) (t:=28) ?hr ?_;(case hd=>rfl);(case hg=>rfl);(case hr=>first|(go_simp;done)|(go_simp;rfl));intro gb102 hg w8 hbox hb;have BK102:=O.mk (hbox);have GW102:=O.mk ((by rw[hg];exact(zz (by solve_by_elim (maxDepth:=20) only[HB.out,J,L,I,qj,GE101.out])):w.heap.size≤gb102));have GE102:=GW102;replace HB:=O.mk (zq (by solve_by_elim (maxDepth:=20) only[HB.out,J,L,I,qj,GE101.out]) hb);have NB101_102:=O.mk ((by rw[hg];exact Nat.ne_of_lt (blk_lt (by solve_by_elim only[BK101.out,qv,qw,qk])):gb101≠gb102));have NB102_101:=O.mk ((by rw[hg];exact Nat.ne_of_gt (blk_lt (by solve_by_elim only[BK101.out,qv,qw,qk])):gb102≠gb101));replace BK101:=O.mk (kz (by solve_by_elim only[BK101.out,qv,qw,qk]) hb);clear hb hbox hg;have hnb9:=NB101_102.out;have hnc9:=NB102_101.out;obtain⟨y10_0,y10_1,y10_2,y10_3,z10_0,z10_1,z10_2,z10_3⟩:=bx4f BK101.out;obtain⟨y11_0,y11_1,y11_2,y11_3,z11_0,z11_1,z11_2,z11_3⟩:=bx4f BK102.out))
     go_ret
     exact⟨by first|rfl|(simp[*,zx,zw] <;> rfl),by repeat(first|(with_reducible first|exact HB.out|apply J|apply L|apply I|refine qj ?_ GE101.out|refine qj ?_ GE102.out)|exact HB.out)⟩
    ·rw[if_neg c6] at H;have c6b0:(a0_3.toList == a1_3.toList)=false:=beq_eq_false_iff_ne.mpr c6;have c6b1:(a0_3.toList != a1_3.toList)=true:=bne_iff_ne.mpr c6;obtain rfl:=Option.some.inj H;go_enter Tryz.func84,Tryz.ntmps84;go_wp2_with (first|((with_reducible refine gate_dst (N:=2) rfl ?_);refine box_event ?hg (N:=2) ?hd (cs:=#[.int .i64 a0_0,.int .i64 a0_1,.string a0_2,.string a0_3]) (t:=28) ?hr ?_;(case hd=>rfl);(case hg=>rfl);(case hr=>first|(go_simp;done)|(go_simp;rfl));intro gb101 hg w12 hbox hb;have BK101:=O.mk (hbox);have GW101:=O.mk ((by rw[hg];exact(zz (by solve_by_elim only[HB.out,J,L,I])):w.heap.size≤gb101));have GE101:=GW101;replace HB:=O.mk (zq (by solve_by_elim only[HB.out,J,L,I]) hb);clear hb hbox hg)|((with_reducible refine gate_dst (N:=3) rfl ?_);refine box_event ?hg (N:=3) ?hd (cs:=#[.int .i64 a1_0,.int .i64 a1_1,.string a1_2,.string a1_3]) (t:=28) ?hr ?_;(case hd=>rfl);(case hg=>rfl);(case hr=>first|(go_simp;done)|(go_simp;rfl));intro gb102 hg w13 hbox hb;have BK102:=O.mk (hbox);have GW102:=O.mk ((by rw[hg];exact(zz (by solve_by_elim (maxDepth:=20) only[HB.out,J,L,I,qj,GE101.out])):w.heap.size≤gb102));have GE102:=GW102;replace HB:=O.mk (zq (by solve_by_elim (maxDepth:=20) only[HB.out,J,L,I,qj,GE101.out]) hb);have NB101_102:=O.mk ((by rw[hg];exact Nat.ne_of_lt (blk_lt (by solve_by_elim only[BK101.out,qv,qw,qk])):gb101≠gb102));have NB102_101:=O.mk ((by rw[hg];exact Nat.ne_of_gt (blk_lt (by solve_by_elim only[BK101.out,qv,qw,qk])):gb102≠gb101));replace BK101:=O.mk (kz (by solve_by_elim only[BK101.out,qv,qw,qk]) hb);clear hb hbox hg;have hnb14:=NB101_102.out;have hnc14:=NB102_101.out;obtain⟨y15_0,y15_1,y15_2,y15_3,z15_0,z15_1,z15_2,z15_3⟩:=bx4f BK101.out;obtain⟨y16_0,y16_1,y16_2,y16_3,z16_0,z16_1,z16_2,z16_3⟩:=bx4f BK102.out))
     go_ret
     exact⟨by first|rfl|(simp[*,zx,zw] <;> rfl),by repeat(first|(with_reducible first|exact HB.out|apply J|apply L|apply I|refine qj ?_ GE101.out|refine qj ?_ GE102.out)|exact HB.out)⟩
   ·rw[if_neg c5] at H;have c5b0:(a0_2.toList == a1_2.toList)=false:=beq_eq_false_iff_ne.mpr c5;have c5b1:(a0_2.toList != a1_2.toList)=true:=bne_iff_ne.mpr c5;obtain rfl:=Option.some.inj H;go_enter Tryz.func84,Tryz.ntmps84;go_wp2_with (first|((with_reducible refine gate_dst (N:=2) rfl ?_);refine box_event ?hg (N:=2) ?hd (cs:=#[.int .i64 a0_0,.int .i64 a0_1,.string a0_2,.string a0_3]) (t:=28) ?hr ?_;(case hd=>rfl);(case hg=>rfl);(case hr=>first|(go_simp;done)|(go_simp;rfl));intro gb101 hg w17 hbox hb;have BK101:=O.mk (hbox);have GW101:=O.mk ((by rw[hg];exact(zz (by solve_by_elim only[HB.out,J,L,I])):w.heap.size≤gb101));have GE101:=GW101;replace HB:=O.mk (zq (by solve_by_elim only[HB.out,J,L,I]) hb);clear hb hbox hg)|((with_reducible refine gate_dst (N:=3) rfl ?_);refine box_event ?hg (N:=3) ?hd (cs:=#[.int .i64 a1_0,.int .i64 a1_1,.string a1_2,.string a1_3]) (t:=28) ?hr ?_;(case hd=>rfl);(case hg=>rfl);(case hr=>first|(go_simp;done)|(go_simp;rfl));intro gb102 hg w18 hbox hb;have BK102:=O.mk (hbox);have GW102:=O.mk ((by rw[hg];exact(zz (by solve_by_elim (maxDepth:=20) only[HB.out,J,L,I,qj,GE101.out])):w.heap.size≤gb102));have GE102:=GW102;replace HB:=O.mk (zq (by solve_by_elim (maxDepth:=20) only[HB.out,J,L,I,qj,GE101.out]) hb);have NB101_102:=O.mk ((by rw[hg];exact Nat.ne_of_lt (blk_lt (by solve_by_elim only[BK101.out,qv,qw,qk])):gb101≠gb102));have NB102_101:=O.mk ((by rw[hg];exact Nat.ne_of_gt (blk_lt (by solve_by_elim only[BK101.out,qv,qw,qk])):gb102≠gb101));replace BK101:=O.mk (kz (by solve_by_elim only[BK101.out,qv,qw,qk]) hb);clear hb hbox hg;have hnb19:=NB101_102.out;have hnc19:=NB102_101.out;obtain⟨y20_0,y20_1,y20_2,y20_3,z20_0,z20_1,z20_2,z20_3⟩:=bx4f BK101.out;obtain⟨y21_0,y21_1,y21_2,y21_3,z21_0,z21_1,z21_2,z21_3⟩:=bx4f BK102.out))
    go_ret
    exact⟨by first|rfl|(simp[*,zx,zw] <;> rfl),by repeat(first|(with_reducible first|exact HB.out|apply J|apply L|apply I|refine qj ?_ GE101.out|refine qj ?_ GE102.out)|exact HB.out)⟩
  ·rw[if_neg c4] at H;have c4b0:(a0_1 == a1_1)=false:=beq_eq_false_iff_ne.mpr c4;have c4b1:(a0_1 != a1_1)=true:=bne_iff_ne.mpr c4;obtain rfl:=Option.some.inj H;go_enter Tryz.func84,Tryz.ntmps84;go_wp2_with (first|((with_reducible refine gate_dst (N:=2) rfl ?_);refine box_event ?hg (N:=2) ?hd (cs:=#[.int .i64 a0_0,.int .i64 a0_1,.string a0_2,.string a0_3]) (t:=28) ?hr ?_;(case hd=>rfl);(case hg=>rfl);(case hr=>first|(go_simp;done)|(go_simp;rfl));intro gb101 hg w22 hbox hb;have BK101:=O.mk (hbox);have GW101:=O.mk ((by rw[hg];exact(zz (by solve_by_elim only[HB.out,J,L,I])):w.heap.size≤gb101));have GE101:=GW101;replace HB:=O.mk (zq (by solve_by_elim only[HB.out,J,L,I]) hb);clear hb hbox hg)|((with_reducible refine gate_dst (N:=3) rfl ?_);refine box_event ?hg (N:=3) ?hd (cs:=#[.int .i64 a1_0,.int .i64 a1_1,.string a1_2,.string a1_3]) (t:=28) ?hr ?_;(case hd=>rfl);(case hg=>rfl);(case hr=>first|(go_simp;done)|(go_simp;rfl));intro gb102 hg w23 hbox hb;have BK102:=O.mk (hbox);have GW102:=O.mk ((by rw[hg];exact(zz (by solve_by_elim (maxDepth:=20) only[HB.out,J,L,I,qj,GE101.out])):w.heap.size≤gb102));have GE102:=GW102;replace HB:=O.mk (zq (by solve_by_elim (maxDepth:=20) only[HB.out,J,L,I,qj,GE101.out]) hb);have NB101_102:=O.mk ((by rw[hg];exact Nat.ne_of_lt (blk_lt (by solve_by_elim only[BK101.out,qv,qw,qk])):gb101≠gb102));have NB102_101:=O.mk ((by rw[hg];exact Nat.ne_of_gt (blk_lt (by solve_by_elim only[BK101.out,qv,qw,qk])):gb102≠gb101));replace BK101:=O.mk (kz (by solve_by_elim only[BK101.out,qv,qw,qk]) hb);clear hb hbox hg;have hnb24:=NB101_102.out;have hnc24:=NB102_101.out;obtain⟨y25_0,y25_1,y25_2,y25_3,z25_0,z25_1,z25_2,z25_3⟩:=bx4f BK101.out;obtain⟨y26_0,y26_1,y26_2,y26_3,z26_0,z26_1,z26_2,z26_3⟩:=bx4f BK102.out))
   go_ret
   exact⟨by first|rfl|(simp[*,zx,zw] <;> rfl),by repeat(first|(with_reducible first|exact HB.out|apply J|apply L|apply I|refine qj ?_ GE101.out|refine qj ?_ GE102.out)|exact HB.out)⟩
 ·rw[if_neg c3] at H;have c3b0:(a0_0 == a1_0)=false:=beq_eq_false_iff_ne.mpr c3;have c3b1:(a0_0 != a1_0)=true:=bne_iff_ne.mpr c3;obtain rfl:=Option.some.inj H;go_enter Tryz.func84,Tryz.ntmps84;go_wp2_with (first|((with_reducible refine gate_dst (N:=2) rfl ?_);refine box_event ?hg (N:=2) ?hd (cs:=#[.int .i64 a0_0,.int .i64 a0_1,.string a0_2,.string a0_3]) (t:=28) ?hr ?_;(case hd=>rfl);(case hg=>rfl);(case hr=>first|(go_simp;done)|(go_simp;rfl));intro gb101 hg w27 hbox hb;have BK101:=O.mk (hbox);have GW101:=O.mk ((by rw[hg];exact(zz (by solve_by_elim only[HB.out,J,L,I])):w.heap.size≤gb101));have GE101:=GW101;replace HB:=O.mk (zq (by solve_by_elim only[HB.out,J,L,I]) hb);clear hb hbox hg)|((with_reducible refine gate_dst (N:=3) rfl ?_);refine box_event ?hg (N:=3) ?hd (cs:=#[.int .i64 a1_0,.int .i64 a1_1,.string a1_2,.string a1_3]) (t:=28) ?hr ?_;(case hd=>rfl);(case hg=>rfl);(case hr=>first|(go_simp;done)|(go_simp;rfl));intro gb102 hg w28 hbox hb;have BK102:=O.mk (hbox);have GW102:=O.mk ((by rw[hg];exact(zz (by solve_by_elim (maxDepth:=20) only[HB.out,J,L,I,qj,GE101.out])):w.heap.size≤gb102));have GE102:=GW102;replace HB:=O.mk (zq (by solve_by_elim (maxDepth:=20) only[HB.out,J,L,I,qj,GE101.out]) hb);have NB101_102:=O.mk ((by rw[hg];exact Nat.ne_of_lt (blk_lt (by solve_by_elim only[BK101.out,qv,qw,qk])):gb101≠gb102));have NB102_101:=O.mk ((by rw[hg];exact Nat.ne_of_gt (blk_lt (by solve_by_elim only[BK101.out,qv,qw,qk])):gb102≠gb101));replace BK101:=O.mk (kz (by solve_by_elim only[BK101.out,qv,qw,qk]) hb);clear hb hbox hg;have hnb29:=NB101_102.out;have hnc29:=NB102_101.out;obtain⟨y30_0,y30_1,y30_2,y30_3,z30_0,z30_1,z30_2,z30_3⟩:=bx4f BK101.out;obtain⟨y31_0,y31_1,y31_2,y31_3,z31_0,z31_1,z31_2,z31_3⟩:=bx4f BK102.out))
  go_ret
  exact⟨by first|rfl|(simp[*,zx,zw] <;> rfl),by repeat(first|(with_reducible first|exact HB.out|apply J|apply L|apply I|refine qj ?_ GE101.out|refine qj ?_ GE102.out)|exact HB.out)⟩
end Go.Proofs.YtnbbbjfjkhglhaaGreatDoor.Pr
namespace Go.Proofs.YtnbbbjfjkhglhaaGreatDoor.Pr
open Go.RowKit Go.Proofs.YtnbbbjfjkhglhaaGreatDoorW.PrintWords Go.Proofs.YtnbbbjfjkhglhaaGreatDoorW.PrintLast Go.Proofs.YtnbbbjfjkhglhaaGreatDoorW.PrintMore
attribute [local go_sem] max2_int min2_int max_two min_two max_three min_three max_four min_four
set_option linter.unusedVariables false
set_option linter.unusedSimpArgs false
def qjj.f (a0_0:ByteArray) (a0_1:Int) (a0_2:ByteArray) (a0_3:Int) (a0_4:Int) (a0_5:ByteArray) (a0_6:ByteArray) (a1:Int):Option (Int):=if (wrap64 (a1 - (a0_0.size:Int))) < 0 then(some (-1)) else(if (wrap64 ((wrap64 (a1 - (a0_0.size:Int))) - (a0_2.size:Int))) < 0 then(some (-1)) else((qzx.f a0_3 a0_4 a0_5 a0_6 (wrap64 ((wrap64 (a1 - (a0_0.size:Int))) - (a0_2.size:Int)))).bind fun t102=>(if t102 < 0 then(some (-1)) else(some t102))))
theorem qjj.calls (a0_0:ByteArray) (a0_1:Int) (a0_2:ByteArray) (a0_3:Int) (a0_4:Int) (a0_5:ByteArray) (a0_6:ByteArray) (a1:Int) (r:Int) (w:World) (h:qjj.f a0_0 a0_1 a0_2 a0_3 a0_4 a0_5 a0_6 a1=some r) :
  Calls Tryz.prog 6 #[.agg #[.string a0_0,.int .i64 a0_1,.string a0_2,.int .i64 a0_3,.int .i64 a0_4,.string a0_5,.string a0_6],.int .i64 a1] w fun e w'=>e=.returned (.int .i64 r)∧Below w.heap.size w w':=by
 have hu25:=Tryz.underlying25;have hu23:=Tryz.underlying23;have HB:=O.mk (Below.refl w.heap.size w);unfold qjj.f at h;have H:=h;clear h
 by_cases c3:(wrap64 (a1 - (a0_0.size:Int))) < 0
 ·rw[if_pos c3] at H;have c3b0:decide ((wrap64 (a1 - (a0_0.size:Int))) < 0)=true:=decide_eq_true c3;clear c3;obtain rfl:=Option.some.inj H;go_enter Tryz.func6,Tryz.ntmps6;go_wp2_with (first|((with_reducible refine gate_dst (N:=2) rfl ?_);refine box_event ?hg (N:=2) ?hd (cs:=#[.string a0_0,.int .i64 a0_1,.string a0_2,.int .i64 a0_3,.int .i64 a0_4,.string a0_5,.string a0_6]) (t:=25) ?hr ?_;(case hd=>rfl);(case hg=>rfl);(case hr=>first|(go_simp;done)|(go_simp;rfl));intro gb101 hg w4 hbox hb;have BK101:=O.mk (hbox);have GW101:=O.mk ((by rw[hg];exact(zz (by solve_by_elim only[HB.out,J,L,I])):w.heap.size≤gb101));have GE101:=GW101;replace HB:=O.mk (zq (by solve_by_elim only[HB.out,J,L,I]) hb);clear hb hbox hg;obtain⟨y5_0,y5_1,y5_2,y5_3,y5_4,y5_5,y5_6,z5_0,z5_1,z5_2,z5_3,z5_4,z5_5,z5_6⟩:=bx7f BK101.out))
  go_ret
  exact⟨by first|rfl|(simp[*,zx,zw] <;> rfl),by solve_by_elim (maxDepth:=20) only[HB.out,J,L,I,qj,GE101.out]⟩
 ·rw[if_neg c3] at H;have c3b0:decide ((wrap64 (a1 - (a0_0.size:Int))) < 0)=false:=decide_eq_false c3;clear c3
  by_cases c6:(wrap64 ((wrap64 (a1 - (a0_0.size:Int))) - (a0_2.size:Int))) < 0
  ·rw[if_pos c6] at H;have c6b0:decide ((wrap64 ((wrap64 (a1 - (a0_0.size:Int))) - (a0_2.size:Int))) < 0)=true:=decide_eq_true c6;clear c6;obtain rfl:=Option.some.inj H;go_enter Tryz.func6,Tryz.ntmps6;go_wp2_with (first|((with_reducible refine gate_dst (N:=2) rfl ?_);refine box_event ?hg (N:=2) ?hd (cs:=#[.string a0_0,.int .i64 a0_1,.string a0_2,.int .i64 a0_3,.int .i64 a0_4,.string a0_5,.string a0_6]) (t:=25) ?hr ?_;(case hd=>rfl);(case hg=>rfl);(case hr=>first|(go_simp;done)|(go_simp;rfl));intro gb101 hg w7 hbox hb;have BK101:=O.mk (hbox);have GW101:=O.mk ((by rw[hg];exact(zz (by solve_by_elim only[HB.out,J,L,I])):w.heap.size≤gb101));have GE101:=GW101;replace HB:=O.mk (zq (by solve_by_elim only[HB.out,J,L,I]) hb);clear hb hbox hg;obtain⟨y8_0,y8_1,y8_2,y8_3,y8_4,y8_5,y8_6,z8_0,z8_1,z8_2,z8_3,z8_4,z8_5,z8_6⟩:=bx7f BK101.out))
   go_ret
   exact⟨by first|rfl|(simp[*,zx,zw] <;> rfl),by solve_by_elim (maxDepth:=20) only[HB.out,J,L,I,qj,GE101.out]⟩
  ·rw[if_neg c6] at H;have c6b0:decide ((wrap64 ((wrap64 (a1 - (a0_0.size:Int))) - (a0_2.size:Int))) < 0)=false:=decide_eq_false c6;clear c6;replace H:=jq8.mp H;obtain⟨t102,A90,H⟩:=H;try dsimp only at H
   have A9:=O.mk A90;clear A90
   by_cases c10:t102 < 0
   ·rw[if_pos c10] at H;have c10b0:decide (t102 < 0)=true:=decide_eq_true c10;clear c10;obtain rfl:=Option.some.inj H;go_enter Tryz.func6,Tryz.ntmps6;go_wp2_with (first|((with_reducible refine gate_dst (N:=2) rfl ?_);refine box_event ?hg (N:=2) ?hd (cs:=#[.string a0_0,.int .i64 a0_1,.string a0_2,.int .i64 a0_3,.int .i64 a0_4,.string a0_5,.string a0_6]) (t:=25) ?hr ?_;(case hd=>rfl);(case hg=>rfl);(case hr=>first|(go_simp;done)|(go_simp;rfl));intro gb101 hg w11 hbox hb;have BK101:=O.mk (hbox);have GW101:=O.mk ((by rw[hg];exact(zz (by solve_by_elim only[HB.out,J,L,I])):w.heap.size≤gb101));have GE101:=GW101;replace HB:=O.mk (zq (by solve_by_elim only[HB.out,J,L,I]) hb);clear hb hbox hg;obtain⟨y12_0,y12_1,y12_2,y12_3,y12_4,y12_5,y12_6,z12_0,z12_1,z12_2,z12_3,z12_4,z12_5,z12_6⟩:=bx7f BK101.out)|((with_reducible refine jq (f:=19) rfl ?_);refine goesL_ (some 22) rfl rfl Tryz.func19 (by kernel_rfl) rfl #[.agg #[.int .i64 a0_3,.int .i64 a0_4,.string a0_5,.string a0_6],.int .i64 (wrap64 ((wrap64 (a1 - (a0_0.size:Int))) - (a0_2.size:Int)))] rfl (by(try simp only[jq0,jq1,jq2]);first|done|rfl|(simp only[jq3,jq4];rfl)) ?_;(with_reducible refine(qzx.calls a0_3 a0_4 a0_5 a0_6 (wrap64 ((wrap64 (a1 - (a0_0.size:Int))) - (a0_2.size:Int))) t102 _ A9.out).mono ?_);rintro e w13 ⟨rfl,hb⟩;refine⟨_,rfl,?_⟩;replace BK101:=O.mk (kz (by solve_by_elim only[BK101.out,qv,qw,qk]) hb);replace HB:=O.mk (zq (by solve_by_elim (maxDepth:=20) only[HB.out,J,L,I,qj,GE101.out]) hb);(try clear hb)))
    go_ret
    exact⟨by first|rfl|(simp[*,zx,zw] <;> rfl),by solve_by_elim (maxDepth:=20) only[HB.out,J,L,I,qj,GE101.out]⟩
   ·rw[if_neg c10] at H;have c10b0:decide (t102 < 0)=false:=decide_eq_false c10;clear c10;obtain rfl:=Option.some.inj H;go_enter Tryz.func6,Tryz.ntmps6;go_wp2_with (first|((with_reducible refine gate_dst (N:=2) rfl ?_);refine box_event ?hg (N:=2) ?hd (cs:=#[.string a0_0,.int .i64 a0_1,.string a0_2,.int .i64 a0_3,.int .i64 a0_4,.string a0_5,.string a0_6]) (t:=25) ?hr ?_;(case hd=>rfl);(case hg=>rfl);(case hr=>first|(go_simp;done)|(go_simp;rfl));intro gb101 hg w14 hbox hb;have BK101:=O.mk (hbox);have GW101:=O.mk ((by rw[hg];exact(zz (by solve_by_elim only[HB.out,J,L,I])):w.heap.size≤gb101));have GE101:=GW101;replace HB:=O.mk (zq (by solve_by_elim only[HB.out,J,L,I]) hb);clear hb hbox hg;obtain⟨y15_0,y15_1,y15_2,y15_3,y15_4,y15_5,y15_6,z15_0,z15_1,z15_2,z15_3,z15_4,z15_5,z15_6⟩:=bx7f BK101.out)|((with_reducible refine jq (f:=19) rfl ?_);refine goesL_ (some 22) rfl rfl Tryz.func19 (by kernel_rfl) rfl #[.agg #[.int .i64 a0_3,.int .i64 a0_4,.string a0_5,.string a0_6],.int .i64 (wrap64 ((wrap64 (a1 - (a0_0.size:Int))) - (a0_2.size:Int)))] rfl (by(try simp only[jq0,jq1,jq2]);first|done|rfl|(simp only[jq3,jq4];rfl)) ?_;(with_reducible refine(qzx.calls a0_3 a0_4 a0_5 a0_6 (wrap64 ((wrap64 (a1 - (a0_0.size:Int))) - (a0_2.size:Int))) t102 _ A9.out).mono ?_);rintro e w16 ⟨rfl,hb⟩;refine⟨_,rfl,?_⟩;replace BK101:=O.mk (kz (by solve_by_elim only[BK101.out,qv,qw,qk]) hb);replace HB:=O.mk (zq (by solve_by_elim (maxDepth:=20) only[HB.out,J,L,I,qj,GE101.out]) hb);(try clear hb)))
    go_ret
    exact⟨by first|rfl|(simp[*,zx,zw] <;> rfl),by solve_by_elim (maxDepth:=20) only[HB.out,J,L,I,qj,GE101.out]⟩
def qkq.f (a0_0:ByteArray) (a0_1:Int) (a0_2:ByteArray) (a0_3:Int) (a0_4:Int) (a0_5:ByteArray) (a0_6:ByteArray):Option (ByteArray × Int × ByteArray × Int × Int × ByteArray × ByteArray):=(qjv.f a0_3 a0_4 a0_5 a0_6).bind fun bt104=>(some (a0_0,a0_1,a0_2,bt104.1,bt104.2.1,bt104.2.2.1,bt104.2.2.2))
theorem qkq.calls (a0_0:ByteArray) (a0_1:Int) (a0_2:ByteArray) (a0_3:Int) (a0_4:Int) (a0_5:ByteArray) (a0_6:ByteArray) (r1:ByteArray) (r2:Int) (r3:ByteArray) (r4:Int) (r5:Int) (r6:ByteArray) (r7:ByteArray) (w:World) (h:qkq.f a0_0 a0_1 a0_2 a0_3 a0_4 a0_5 a0_6=some (r1,r2,r3,r4,r5,r6,r7)) :
  Calls Tryz.prog 8 #[.agg #[.string a0_0,.int .i64 a0_1,.string a0_2,.int .i64 a0_3,.int .i64 a0_4,.string a0_5,.string a0_6]] w fun e w'=>e=.returned (.agg #[.string r1,.int .i64 r2,.string r3,.int .i64 r4,.int .i64 r5,.string r6,.string r7])∧Below w.heap.size w w':=by
 have hu25:=Tryz.underlying25;have hu30:=Tryz.underlying30;have hu23:=Tryz.underlying23;have hu28:=Tryz.underlying28;have HB:=O.mk (Below.refl w.heap.size w);unfold qkq.f at h;have H:=h;clear h;replace H:=jq8.mp H;obtain⟨⟨t104,t105,t106,t107⟩,A20,H⟩:=H;try dsimp only at H
 have A2:=O.mk A20;clear A20;simp only[Option.some.injEq,Prod.mk.injEq] at H;obtain⟨rfl,rfl,rfl,rfl,rfl,rfl,rfl⟩:=H;go_enter Tryz.func8,Tryz.ntmps8;go_wp2_with (first|((with_reducible refine gate_dst (N:=1) rfl ?_);refine box_event ?hg (N:=1) ?hd (cs:=#[.string a0_0,.int .i64 a0_1,.string a0_2,.int .i64 a0_3,.int .i64 a0_4,.string a0_5,.string a0_6]) (t:=25) ?hr ?_;(case hd=>rfl);(case hg=>rfl);(case hr=>first|(go_simp;done)|(go_simp;rfl));intro gb101 hg w3 hbox hb;have BK101:=O.mk (hbox);have GW101:=O.mk ((by rw[hg];exact(zz (by solve_by_elim only[HB.out,J,L,I])):w.heap.size≤gb101));have GE101:=GW101;replace HB:=O.mk (zq (by solve_by_elim only[HB.out,J,L,I]) hb);clear hb hbox hg)|((with_reducible refine gate_dst (N:=2) rfl ?_);refine box_event ?hg (N:=2) ?hd (cs:=#[.string (⟨#[]⟩ : ByteArray),.int .i64 0,.string (⟨#[]⟩ : ByteArray),.int .i64 0,.int .i64 0,.string (⟨#[]⟩ : ByteArray),.string (⟨#[]⟩ : ByteArray)]) (t:=30) ?hr ?_;(case hd=>rfl);(case hg=>rfl);(case hr=>first|(go_simp;done)|(go_simp;rfl));intro gb102 hg w4 hbox hb;have BK102:=O.mk (hbox);have GW102:=O.mk ((by rw[hg];exact(zz (by solve_by_elim (maxDepth:=20) only[HB.out,J,L,I,qj,GE101.out])):w.heap.size≤gb102));have GE102:=GW102;replace HB:=O.mk (zq (by solve_by_elim (maxDepth:=20) only[HB.out,J,L,I,qj,GE101.out]) hb);have NB101_102:=O.mk ((by rw[hg];exact Nat.ne_of_lt (blk_lt (by solve_by_elim only[BK101.out,qv,qw,qk])):gb101≠gb102));have NB102_101:=O.mk ((by rw[hg];exact Nat.ne_of_gt (blk_lt (by solve_by_elim only[BK101.out,qv,qw,qk])):gb102≠gb101));replace BK101:=O.mk (kz (by solve_by_elim only[BK101.out,qv,qw,qk]) hb);clear hb hbox hg)|((with_reducible refine gate_dst (N:=3) rfl ?_);refine box_event ?hg (N:=3) ?hd (cs:=#[.string (⟨#[]⟩ : ByteArray),.int .i64 0,.string (⟨#[]⟩ : ByteArray),.int .i64 0,.int .i64 0,.string (⟨#[]⟩ : ByteArray),.string (⟨#[]⟩ : ByteArray)]) (t:=30) ?hr ?_;(case hd=>rfl);(case hg=>rfl);(case hr=>first|(go_simp;done)|(go_simp;rfl));intro gb103 hg w5 hbox hb;have BK103:=O.mk (hbox);have GW103:=O.mk ((by rw[hg];exact(zz (by repeat(first|(with_reducible first|exact HB.out|apply J|apply L|apply I|refine qj ?_ GE101.out|refine qj ?_ GE102.out)|exact HB.out))):w.heap.size≤gb103));have GE103:=GW103;replace HB:=O.mk (zq (by repeat(first|(with_reducible first|exact HB.out|apply J|apply L|apply I|refine qj ?_ GE101.out|refine qj ?_ GE102.out)|exact HB.out)) hb);have NB101_103:=O.mk ((by rw[hg];exact Nat.ne_of_lt (blk_lt (by solve_by_elim only[BK101.out,qv,qw,qk])):gb101≠gb103));have NB103_101:=O.mk ((by rw[hg];exact Nat.ne_of_gt (blk_lt (by solve_by_elim only[BK101.out,qv,qw,qk])):gb103≠gb101));replace BK101:=O.mk (kz (by solve_by_elim only[BK101.out,qv,qw,qk]) hb);have NB102_103:=O.mk ((by rw[hg];exact Nat.ne_of_lt (blk_lt (by solve_by_elim only[BK102.out,qv,qw,qk])):gb102≠gb103));have NB103_102:=O.mk ((by rw[hg];exact Nat.ne_of_gt (blk_lt (by solve_by_elim only[BK102.out,qv,qw,qk])):gb103≠gb102));replace BK102:=O.mk (kz (by solve_by_elim only[BK102.out,qv,qw,qk]) hb);clear hb hbox hg;have hnb6:=NB101_102.out;have hnc6:=NB102_101.out;have hnb7:=NB101_103.out;have hnc7:=NB103_101.out;obtain⟨y8_0,y8_1,y8_2,y8_3,y8_4,y8_5,y8_6,z8_0,z8_1,z8_2,z8_3,z8_4,z8_5,z8_6⟩:=bx7f BK101.out;have hnb9:=NB103_102.out;have hnc9:=NB102_103.out;obtain⟨y10_0,y10_1,y10_2,y10_3,y10_4,y10_5,y10_6,z10_0,z10_1,z10_2,z10_3,z10_4,z10_5,z10_6⟩:=bx7f BK103.out)|((with_reducible refine jq (f:=23) rfl ?_);refine goesL_ (some 15) rfl rfl Tryz.func23 (by kernel_rfl) rfl #[.agg #[.int .i64 a0_3,.int .i64 a0_4,.string a0_5,.string a0_6]] rfl (by(try simp only[jq0,jq1,jq2]);first|done|rfl|(simp only[jq3,jq4];rfl)) ?_;(with_reducible refine(qjv.calls a0_3 a0_4 a0_5 a0_6 t104 t105 t106 t107 _ A2.out).mono ?_);rintro e w11 ⟨rfl,hb⟩;refine⟨_,rfl,?_⟩;replace BK101:=O.mk (kz (g:=gb101) (o:=.cells #[.string a0_0,.int .i64 a0_1,.string a0_2,.int .i64 a0_3,.int .i64 a0_4,.string a0_5,.string a0_6] 25 (0,0)) (by(with_reducible repeat(first|refine qv ?_ _|refine qw ?_|refine qk ?_ _));refine blk_far ?_ NB101_103.out _;(with_reducible repeat(first|refine qv ?_ _|refine qw ?_|refine qk ?_ _));refine blk_far ?_ NB101_103.out _;(with_reducible repeat(first|refine qv ?_ _|refine qw ?_|refine qk ?_ _));refine blk_far ?_ NB101_103.out _;(with_reducible repeat(first|refine qv ?_ _|refine qw ?_|refine qk ?_ _));exact BK101.out) hb);replace BK102:=O.mk (kz (g:=gb102) (o:=.cells #[.string (⟨#[]⟩ : ByteArray),.int .i64 0,.string (⟨#[]⟩ : ByteArray),.int .i64 0,.int .i64 0,.string (⟨#[]⟩ : ByteArray),.string (⟨#[]⟩ : ByteArray)] 30 (0,0)) (by(with_reducible repeat(first|refine qv ?_ _|refine qw ?_|refine qk ?_ _));refine blk_far ?_ NB102_103.out _;(with_reducible repeat(first|refine qv ?_ _|refine qw ?_|refine qk ?_ _));refine blk_far ?_ NB102_103.out _;(with_reducible repeat(first|refine qv ?_ _|refine qw ?_|refine qk ?_ _));refine blk_far ?_ NB102_103.out _;(with_reducible repeat(first|refine qv ?_ _|refine qw ?_|refine qk ?_ _));exact BK102.out) hb);replace BK103:=O.mk (kz (g:=gb103) (o:=.cells #[.string a0_0,.int .i64 a0_1,.string a0_2,.int .i64 0,.int .i64 0,.string (⟨#[]⟩ : ByteArray),.string (⟨#[]⟩ : ByteArray)] 30 (0,0)) (by(with_reducible repeat(first|refine qv ?_ _|refine qw ?_|refine qk ?_ _));refine blk_put (cs:=#[.string a0_0,.int .i64 a0_1,.string (⟨#[]⟩ : ByteArray),.int .i64 0,.int .i64 0,.string (⟨#[]⟩ : ByteArray),.string (⟨#[]⟩ : ByteArray)]) ?_ 2 _ rfl;(with_reducible repeat(first|refine qv ?_ _|refine qw ?_|refine qk ?_ _));refine blk_put (cs:=#[.string a0_0,.int .i64 0,.string (⟨#[]⟩ : ByteArray),.int .i64 0,.int .i64 0,.string (⟨#[]⟩ : ByteArray),.string (⟨#[]⟩ : ByteArray)]) ?_ 1 _ rfl;(with_reducible repeat(first|refine qv ?_ _|refine qw ?_|refine qk ?_ _));refine blk_put (cs:=#[.string (⟨#[]⟩ : ByteArray),.int .i64 0,.string (⟨#[]⟩ : ByteArray),.int .i64 0,.int .i64 0,.string (⟨#[]⟩ : ByteArray),.string (⟨#[]⟩ : ByteArray)]) ?_ 0 _ rfl;(with_reducible repeat(first|refine qv ?_ _|refine qw ?_|refine qk ?_ _));exact BK103.out) hb);replace HB:=O.mk (zq (by repeat(first|(with_reducible first|exact HB.out|apply J|apply L|apply I|refine qj ?_ GE101.out|refine qj ?_ GE102.out|refine qj ?_ GE103.out)|exact HB.out)) hb);(try clear hb);obtain⟨y12_0,y12_1,y12_2,y12_3,y12_4,y12_5,y12_6,z12_0,z12_1,z12_2,z12_3,z12_4,z12_5,z12_6⟩:=bx7f BK103.out;obtain⟨y13_0,y13_1,y13_2,y13_3,y13_4,y13_5,y13_6,z13_0,z13_1,z13_2,z13_3,z13_4,z13_5,z13_6⟩:=bx7f BK102.out))
 refine bodyPost_ret (results_cell_row rfl _ _ gb102 30 #[.string a0_0,.int .i64 a0_1,.string a0_2,.int .i64 t104,.int .i64 t105,.string t106,.string t107] (0,0) _ rfl (by(with_reducible repeat(first|refine qv ?_ _|refine qw ?_|refine qk ?_ _));refine blk_put (cs:=#[.string a0_0,.int .i64 a0_1,.string a0_2,.int .i64 t104,.int .i64 t105,.string t106,.string (⟨#[]⟩ : ByteArray)]) ?_ 6 _ rfl;(with_reducible repeat(first|refine qv ?_ _|refine qw ?_|refine qk ?_ _));refine blk_put (cs:=#[.string a0_0,.int .i64 a0_1,.string a0_2,.int .i64 t104,.int .i64 t105,.string (⟨#[]⟩ : ByteArray),.string (⟨#[]⟩ : ByteArray)]) ?_ 5 _ rfl;(with_reducible repeat(first|refine qv ?_ _|refine qw ?_|refine qk ?_ _));refine blk_put (cs:=#[.string a0_0,.int .i64 a0_1,.string a0_2,.int .i64 t104,.int .i64 0,.string (⟨#[]⟩ : ByteArray),.string (⟨#[]⟩ : ByteArray)]) ?_ 4 _ rfl;(with_reducible repeat(first|refine qv ?_ _|refine qw ?_|refine qk ?_ _));refine blk_put (cs:=#[.string a0_0,.int .i64 a0_1,.string a0_2,.int .i64 0,.int .i64 0,.string (⟨#[]⟩ : ByteArray),.string (⟨#[]⟩ : ByteArray)]) ?_ 3 _ rfl;(with_reducible repeat(first|refine qv ?_ _|refine qw ?_|refine qk ?_ _));refine blk_put (cs:=#[.string a0_0,.int .i64 a0_1,.string (⟨#[]⟩ : ByteArray),.int .i64 0,.int .i64 0,.string (⟨#[]⟩ : ByteArray),.string (⟨#[]⟩ : ByteArray)]) ?_ 2 _ rfl;(with_reducible repeat(first|refine qv ?_ _|refine qw ?_|refine qk ?_ _));refine blk_put (cs:=#[.string a0_0,.int .i64 0,.string (⟨#[]⟩ : ByteArray),.int .i64 0,.int .i64 0,.string (⟨#[]⟩ : ByteArray),.string (⟨#[]⟩ : ByteArray)]) ?_ 1 _ rfl;(with_reducible repeat(first|refine qv ?_ _|refine qw ?_|refine qk ?_ _));refine blk_put (cs:=#[.string (⟨#[]⟩ : ByteArray),.int .i64 0,.string (⟨#[]⟩ : ByteArray),.int .i64 0,.int .i64 0,.string (⟨#[]⟩ : ByteArray),.string (⟨#[]⟩ : ByteArray)]) ?_ 0 _ rfl;(with_reducible repeat(first|refine qv ?_ _|refine qw ?_|refine qk ?_ _));refine blk_far ?_ NB102_103.out _;(with_reducible repeat(first|refine qv ?_ _|refine qw ?_|refine qk ?_ _));refine blk_far ?_ NB102_103.out _;(with_reducible repeat(first|refine qv ?_ _|refine qw ?_|refine qk ?_ _));refine blk_far ?_ NB102_103.out _;(with_reducible repeat(first|refine qv ?_ _|refine qw ?_|refine qk ?_ _));refine blk_far ?_ NB102_103.out _;(with_reducible repeat(first|refine qv ?_ _|refine qw ?_|refine qk ?_ _));exact BK102.out) Tryz.underlying30 rfl (by kernel_rfl)) rfl ?_;exact⟨by first|rfl|(simp[*,zx,zw] <;> rfl),by repeat(first|(with_reducible first|exact HB.out|apply J|apply L|apply I|refine qj ?_ GE101.out|refine qj ?_ GE102.out|refine qj ?_ GE103.out)|exact HB.out)⟩
def qqv.f (a0_0:ByteArray) (a0_1:Int) (a0_2:ByteArray) (a0_3:Int) (a0_4:Int) (a0_5:ByteArray) (a0_6:ByteArray) (a1_0:ByteArray) (a1_1:Int) (a1_2:ByteArray) (a1_3:Int) (a1_4:Int) (a1_5:ByteArray) (a1_6:ByteArray):Option (Bool):=if a0_0.toList=a1_0.toList then(if a0_1=a1_1 then(if a0_2.toList=a1_2.toList then((qqz.f a0_3 a0_4 a0_5 a0_6 a1_3 a1_4 a1_5 a1_6).bind fun t103=>(if t103=true then(some true) else(some false))) else(some false)) else(some false)) else(some false)
theorem qqv.calls (a0_0:ByteArray) (a0_1:Int) (a0_2:ByteArray) (a0_3:Int) (a0_4:Int) (a0_5:ByteArray) (a0_6:ByteArray) (a1_0:ByteArray) (a1_1:Int) (a1_2:ByteArray) (a1_3:Int) (a1_4:Int) (a1_5:ByteArray) (a1_6:ByteArray) (r:Bool) (w:World) (h:qqv.f a0_0 a0_1 a0_2 a0_3 a0_4 a0_5 a0_6 a1_0 a1_1 a1_2 a1_3 a1_4 a1_5 a1_6=some r) :
  Calls Tryz.prog 65 #[.agg #[.string a0_0,.int .i64 a0_1,.string a0_2,.int .i64 a0_3,.int .i64 a0_4,.string a0_5,.string a0_6],.agg #[.string a1_0,.int .i64 a1_1,.string a1_2,.int .i64 a1_3,.int .i64 a1_4,.string a1_5,.string a1_6]] w fun e w'=>e=.returned (.bool r)∧Below w.heap.size w w':=by
 have hu30:=Tryz.underlying30;have hu28:=Tryz.underlying28;have HB:=O.mk (Below.refl w.heap.size w);unfold qqv.f at h;have H:=h;clear h
 by_cases c3:a0_0.toList=a1_0.toList
 ·rw[if_pos c3] at H;have c3b0:(a0_0.toList == a1_0.toList)=true:=beq_iff_eq.mpr c3;have c3b1:(a0_0.toList != a1_0.toList)=false:=bne_eq_false_iff_eq.mpr c3;clear c3
  by_cases c4:a0_1=a1_1
  ·rw[if_pos c4] at H;have c4b0:(a0_1 == a1_1)=true:=beq_iff_eq.mpr c4;have c4b1:(a0_1 != a1_1)=false:=bne_eq_false_iff_eq.mpr c4;clear c4
   by_cases c5:a0_2.toList=a1_2.toList
   ·rw[if_pos c5] at H;have c5b0:(a0_2.toList == a1_2.toList)=true:=beq_iff_eq.mpr c5;have c5b1:(a0_2.toList != a1_2.toList)=false:=bne_eq_false_iff_eq.mpr c5;clear c5;replace H:=jq8.mp H;obtain⟨t103,A60,H⟩:=H;try dsimp only at H
    have A6:=O.mk A60;clear A60
    by_cases c7:t103=true
    ·subst c7;have H1:(some true)=some r:=by rw[if_pos rfl] at H;exact H
     clear H;have H:=H1;clear H1;obtain rfl:=Option.some.inj H;go_enter Tryz.func65,Tryz.ntmps65;go_wp2_with (first|((with_reducible refine gate_dst (N:=2) rfl ?_);refine box_event ?hg (N:=2) ?hd (cs:=#[.string a0_0,.int .i64 a0_1,.string a0_2,.int .i64 a0_3,.int .i64 a0_4,.string a0_5,.string a0_6]) (t:=30) ?hr ?_;(case hd=>rfl);(case hg=>rfl);(case hr=>first|(go_simp;done)|(go_simp;rfl));intro gb101 hg w8 hbox hb;have BK101:=O.mk (hbox);have GW101:=O.mk ((by rw[hg];exact(zz (by solve_by_elim only[HB.out,J,L,I])):w.heap.size≤gb101));have GE101:=GW101;replace HB:=O.mk (zq (by solve_by_elim only[HB.out,J,L,I]) hb);clear hb hbox hg)|((with_reducible refine gate_dst (N:=3) rfl ?_);refine box_event ?hg (N:=3) ?hd (cs:=#[.string a1_0,.int .i64 a1_1,.string a1_2,.int .i64 a1_3,.int .i64 a1_4,.string a1_5,.string a1_6]) (t:=30) ?hr ?_;(case hd=>rfl);(case hg=>rfl);(case hr=>first|(go_simp;done)|(go_simp;rfl));intro gb102 hg w9 hbox hb;have BK102:=O.mk (hbox);have GW102:=O.mk ((by rw[hg];exact(zz (by solve_by_elim (maxDepth:=20) only[HB.out,J,L,I,qj,GE101.out])):w.heap.size≤gb102));have GE102:=GW102;replace HB:=O.mk (zq (by solve_by_elim (maxDepth:=20) only[HB.out,J,L,I,qj,GE101.out]) hb);have NB101_102:=O.mk ((by rw[hg];exact Nat.ne_of_lt (blk_lt (by solve_by_elim only[BK101.out,qv,qw,qk])):gb101≠gb102));have NB102_101:=O.mk ((by rw[hg];exact Nat.ne_of_gt (blk_lt (by solve_by_elim only[BK101.out,qv,qw,qk])):gb102≠gb101));replace BK101:=O.mk (kz (by solve_by_elim only[BK101.out,qv,qw,qk]) hb);clear hb hbox hg;have hnb10:=NB101_102.out;have hnc10:=NB102_101.out;obtain⟨y11_0,y11_1,y11_2,y11_3,y11_4,y11_5,y11_6,z11_0,z11_1,z11_2,z11_3,z11_4,z11_5,z11_6⟩:=bx7f BK101.out;obtain⟨y12_0,y12_1,y12_2,y12_3,y12_4,y12_5,y12_6,z12_0,z12_1,z12_2,z12_3,z12_4,z12_5,z12_6⟩:=bx7f BK102.out)|((with_reducible refine jq (f:=84) rfl ?_);refine goesL_ (some 24) rfl rfl Tryz.func84 (by kernel_rfl) rfl #[.agg #[.int .i64 a0_3,.int .i64 a0_4,.string a0_5,.string a0_6],.agg #[.int .i64 a1_3,.int .i64 a1_4,.string a1_5,.string a1_6]] rfl (by(try simp only[jq0,jq1,jq2]);first|done|rfl|(simp only[jq3,jq4];rfl)) ?_;(with_reducible refine(qqz.calls a0_3 a0_4 a0_5 a0_6 a1_3 a1_4 a1_5 a1_6 true _ A6.out).mono ?_);rintro e w13 ⟨rfl,hb⟩;refine⟨_,rfl,?_⟩;replace BK101:=O.mk (kz (by solve_by_elim only[BK101.out,qv,qw,qk]) hb);replace BK102:=O.mk (kz (by solve_by_elim only[BK102.out,qv,qw,qk]) hb);replace HB:=O.mk (zq (by repeat(first|(with_reducible first|exact HB.out|apply J|apply L|apply I|refine qj ?_ GE101.out|refine qj ?_ GE102.out)|exact HB.out)) hb);(try clear hb)))
     go_ret
     exact⟨by first|rfl|(simp[*,zx,zw] <;> rfl),by repeat(first|(with_reducible first|exact HB.out|apply J|apply L|apply I|refine qj ?_ GE101.out|refine qj ?_ GE102.out)|exact HB.out)⟩
    ·replace c7:=jq9.mpr c7;subst c7;have H1:(some false)=some r:=by rw[if_neg (show ¬ (false=true) by decide)] at H;exact H
     clear H;have H:=H1;clear H1;obtain rfl:=Option.some.inj H;go_enter Tryz.func65,Tryz.ntmps65;go_wp2_with (first|((with_reducible refine gate_dst (N:=2) rfl ?_);refine box_event ?hg (N:=2) ?hd (cs:=#[.string a0_0,.int .i64 a0_1,.string a0_2,.int .i64 a0_3,.int .i64 a0_4,.string a0_5,.string a0_6]) (t:=30) ?hr ?_;(case hd=>rfl);(case hg=>rfl);(case hr=>first|(go_simp;done)|(go_simp;rfl));intro gb101 hg w14 hbox hb;have BK101:=O.mk (hbox);have GW101:=O.mk ((by rw[hg];exact(zz (by solve_by_elim only[HB.out,J,L,I])):w.heap.size≤gb101));have GE101:=GW101;replace HB:=O.mk (zq (by solve_by_elim only[HB.out,J,L,I]) hb);clear hb hbox hg)|((with_reducible refine gate_dst (N:=3) rfl ?_);refine box_event ?hg (N:=3) ?hd (cs:=#[.string a1_0,.int .i64 a1_1,.string a1_2,.int .i64 a1_3,.int .i64 a1_4,.string a1_5,.string a1_6]) (t:=30) ?hr ?_;(case hd=>rfl);(case hg=>rfl);(case hr=>first|(go_simp;done)|(go_simp;rfl));intro gb102 hg w15 hbox hb;have BK102:=O.mk (hbox);have GW102:=O.mk ((by rw[hg];exact(zz (by solve_by_elim (maxDepth:=20) only[HB.out,J,L,I,qj,GE101.out])):w.heap.size≤gb102));have GE102:=GW102;replace HB:=O.mk (zq (by solve_by_elim (maxDepth:=20) only[HB.out,J,L,I,qj,GE101.out]) hb);have NB101_102:=O.mk ((by rw[hg];exact Nat.ne_of_lt (blk_lt (by solve_by_elim only[BK101.out,qv,qw,qk])):gb101≠gb102));have NB102_101:=O.mk ((by rw[hg];exact Nat.ne_of_gt (blk_lt (by solve_by_elim only[BK101.out,qv,qw,qk])):gb102≠gb101));replace BK101:=O.mk (kz (by solve_by_elim only[BK101.out,qv,qw,qk]) hb);clear hb hbox hg;have hnb16:=NB101_102.out;have hnc16:=NB102_101.out;obtain⟨y17_0,y17_1,y17_2,y17_3,y17_4,y17_5,y17_6,z17_0,z17_1,z17_2,z17_3,z17_4,z17_5,z17_6⟩:=bx7f BK101.out;obtain⟨y18_0,y18_1,y18_2,y18_3,y18_4,y18_5,y18_6,z18_0,z18_1,z18_2,z18_3,z18_4,z18_5,z18_6⟩:=bx7f BK102.out)|((with_reducible refine jq (f:=84) rfl ?_);refine goesL_ (some 24) rfl rfl Tryz.func84 (by kernel_rfl) rfl #[.agg #[.int .i64 a0_3,.int .i64 a0_4,.string a0_5,.string a0_6],.agg #[.int .i64 a1_3,.int .i64 a1_4,.string a1_5,.string a1_6]] rfl (by(try simp only[jq0,jq1,jq2]);first|done|rfl|(simp only[jq3,jq4];rfl)) ?_;(with_reducible refine(qqz.calls a0_3 a0_4 a0_5 a0_6 a1_3 a1_4 a1_5 a1_6 false _ A6.out).mono ?_);rintro e w19 ⟨rfl,hb⟩;refine⟨_,rfl,?_⟩;replace BK101:=O.mk (kz (by solve_by_elim only[BK101.out,qv,qw,qk]) hb);replace BK102:=O.mk (kz (by solve_by_elim only[BK102.out,qv,qw,qk]) hb);replace HB:=O.mk (zq (by repeat(first|(with_reducible first|exact HB.out|apply J|apply L|apply I|refine qj ?_ GE101.out|refine qj ?_ GE102.out)|exact HB.out)) hb);(try clear hb)))
     go_ret
     exact⟨by first|rfl|(simp[*,zx,zw] <;> rfl),by repeat(first|(with_reducible first|exact HB.out|apply J|apply L|apply I|refine qj ?_ GE101.out|refine qj ?_ GE102.out)|exact HB.out)⟩
   ·rw[if_neg c5] at H;have c5b0:(a0_2.toList == a1_2.toList)=false:=beq_eq_false_iff_ne.mpr c5;have c5b1:(a0_2.toList != a1_2.toList)=true:=bne_iff_ne.mpr c5;obtain rfl:=Option.some.inj H;go_enter Tryz.func65,Tryz.ntmps65;go_wp2_with (first|((with_reducible refine gate_dst (N:=2) rfl ?_);refine box_event ?hg (N:=2) ?hd (cs:=#[.string a0_0,.int .i64 a0_1,.string a0_2,.int .i64 a0_3,.int .i64 a0_4,.string a0_5,.string a0_6]) (t:=30) ?hr ?_;(case hd=>rfl);(case hg=>rfl);(case hr=>first|(go_simp;done)|(go_simp;rfl));intro gb101 hg w20 hbox hb;have BK101:=O.mk (hbox);have GW101:=O.mk ((by rw[hg];exact(zz (by solve_by_elim only[HB.out,J,L,I])):w.heap.size≤gb101));have GE101:=GW101;replace HB:=O.mk (zq (by solve_by_elim only[HB.out,J,L,I]) hb);clear hb hbox hg)|((with_reducible refine gate_dst (N:=3) rfl ?_);refine box_event ?hg (N:=3) ?hd (cs:=#[.string a1_0,.int .i64 a1_1,.string a1_2,.int .i64 a1_3,.int .i64 a1_4,.string a1_5,.string a1_6]) (t:=30) ?hr ?_;(case hd=>rfl);(case hg=>rfl);(case hr=>first|(go_simp;done)|(go_simp;rfl));intro gb102 hg w21 hbox hb;have BK102:=O.mk (hbox);have GW102:=O.mk ((by rw[hg];exact(zz (by solve_by_elim (maxDepth:=20) only[HB.out,J,L,I,qj,GE101.out])):w.heap.size≤gb102));have GE102:=GW102;replace HB:=O.mk (zq (by solve_by_elim (maxDepth:=20) only[HB.out,J,L,I,qj,GE101.out]) hb);have NB101_102:=O.mk ((by rw[hg];exact Nat.ne_of_lt (blk_lt (by solve_by_elim only[BK101.out,qv,qw,qk])):gb101≠gb102));have NB102_101:=O.mk ((by rw[hg];exact Nat.ne_of_gt (blk_lt (by solve_by_elim only[BK101.out,qv,qw,qk])):gb102≠gb101));replace BK101:=O.mk (kz (by solve_by_elim only[BK101.out,qv,qw,qk]) hb);clear hb hbox hg;have hnb22:=NB101_102.out;have hnc22:=NB102_101.out;obtain⟨y23_0,y23_1,y23_2,y23_3,y23_4,y23_5,y23_6,z23_0,z23_1,z23_2,z23_3,z23_4,z23_5,z23_6⟩:=bx7f BK101.out;obtain⟨y24_0,y24_1,y24_2,y24_3,y24_4,y24_5,y24_6,z24_0,z24_1,z24_2,z24_3,z24_4,z24_5,z24_6⟩:=bx7f BK102.out))
    go_ret
    exact⟨by first|rfl|(simp[*,zx,zw] <;> rfl),by repeat(first|(with_reducible first|exact HB.out|apply J|apply L|apply I|refine qj ?_ GE101.out|refine qj ?_ GE102.out)|exact HB.out)⟩
  ·rw[if_neg c4] at H;have c4b0:(a0_1 == a1_1)=false:=beq_eq_false_iff_ne.mpr c4;have c4b1:(a0_1 != a1_1)=true:=bne_iff_ne.mpr c4;obtain rfl:=Option.some.inj H;go_enter Tryz.func65,Tryz.ntmps65;go_wp2_with (first|((with_reducible refine gate_dst (N:=2) rfl ?_);refine box_event ?hg (N:=2) ?hd (cs:=#[.string a0_0,.int .i64 a0_1,.string a0_2,.int .i64 a0_3,.int .i64 a0_4,.string a0_5,.string a0_6]) (t:=30) ?hr ?_;(case hd=>rfl);(case hg=>rfl);(case hr=>first|(go_simp;done)|(go_simp;rfl));intro gb101 hg w25 hbox hb;have BK101:=O.mk (hbox);have GW101:=O.mk ((by rw[hg];exact(zz (by solve_by_elim only[HB.out,J,L,I])):w.heap.size≤gb101));have GE101:=GW101;replace HB:=O.mk (zq (by solve_by_elim only[HB.out,J,L,I]) hb);clear hb hbox hg)|((with_reducible refine gate_dst (N:=3) rfl ?_);refine box_event ?hg (N:=3) ?hd (cs:=#[.string a1_0,.int .i64 a1_1,.string a1_2,.int .i64 a1_3,.int .i64 a1_4,.string a1_5,.string a1_6]) (t:=30) ?hr ?_;(case hd=>rfl);(case hg=>rfl);(case hr=>first|(go_simp;done)|(go_simp;rfl));intro gb102 hg w26 hbox hb;have BK102:=O.mk (hbox);have GW102:=O.mk ((by rw[hg];exact(zz (by solve_by_elim (maxDepth:=20) only[HB.out,J,L,I,qj,GE101.out])):w.heap.size≤gb102));have GE102:=GW102;replace HB:=O.mk (zq (by solve_by_elim (maxDepth:=20) only[HB.out,J,L,I,qj,GE101.out]) hb);have NB101_102:=O.mk ((by rw[hg];exact Nat.ne_of_lt (blk_lt (by solve_by_elim only[BK101.out,qv,qw,qk])):gb101≠gb102));have NB102_101:=O.mk ((by rw[hg];exact Nat.ne_of_gt (blk_lt (by solve_by_elim only[BK101.out,qv,qw,qk])):gb102≠gb101));replace BK101:=O.mk (kz (by solve_by_elim only[BK101.out,qv,qw,qk]) hb);clear hb hbox hg;have hnb27:=NB101_102.out;have hnc27:=NB102_101.out;obtain⟨y28_0,y28_1,y28_2,y28_3,y28_4,y28_5,y28_6,z28_0,z28_1,z28_2,z28_3,z28_4,z28_5,z28_6⟩:=bx7f BK101.out;obtain⟨y29_0,y29_1,y29_2,y29_3,y29_4,y29_5,y29_6,z29_0,z29_1,z29_2,z29_3,z29_4,z29_5,z29_6⟩:=bx7f BK102.out))
   go_ret
   exact⟨by first|rfl|(simp[*,zx,zw] <;> rfl),by repeat(first|(with_reducible first|exact HB.out|apply J|apply L|apply I|refine qj ?_ GE101.out|refine qj ?_ GE102.out)|exact HB.out)⟩
 ·rw[if_neg c3] at H;have c3b0:(a0_0.toList == a1_0.toList)=false:=beq_eq_false_iff_ne.mpr c3;have c3b1:(a0_0.toList != a1_0.toList)=true:=bne_iff_ne.mpr c3;obtain rfl:=Option.some.inj H;go_enter Tryz.func65,Tryz.ntmps65;go_wp2_with (first|((with_reducible refine gate_dst (N:=2) rfl ?_);refine box_event ?hg (N:=2) ?hd (cs:=#[.string a0_0,.int .i64 a0_1,.string a0_2,.int .i64 a0_3,.int .i64 a0_4,.string a0_5,.string a0_6]) (t:=30) ?hr ?_;(case hd=>rfl);(case hg=>rfl);(case hr=>first|(go_simp;done)|(go_simp;rfl));intro gb101 hg w30 hbox hb;have BK101:=O.mk (hbox);have GW101:=O.mk ((by rw[hg];exact(zz (by solve_by_elim only[HB.out,J,L,I])):w.heap.size≤gb101));have GE101:=GW101;replace HB:=O.mk (zq (by solve_by_elim only[HB.out,J,L,I]) hb);clear hb hbox hg)|((with_reducible refine gate_dst (N:=3) rfl ?_);refine box_event ?hg (N:=3) ?hd (cs:=#[.string a1_0,.int .i64 a1_1,.string a1_2,.int .i64 a1_3,.int .i64 a1_4,.string a1_5,.string a1_6]) (t:=30) ?hr ?_;(case hd=>rfl);(case hg=>rfl);(case hr=>first|(go_simp;done)|(go_simp;rfl));intro gb102 hg w31 hbox hb;have BK102:=O.mk (hbox);have GW102:=O.mk ((by rw[hg];exact(zz (by solve_by_elim (maxDepth:=20) only[HB.out,J,L,I,qj,GE101.out])):w.heap.size≤gb102));have GE102:=GW102;replace HB:=O.mk (zq (by solve_by_elim (maxDepth:=20) only[HB.out,J,L,I,qj,GE101.out]) hb);have NB101_102:=O.mk ((by rw[hg];exact Nat.ne_of_lt (blk_lt (by solve_by_elim only[BK101.out,qv,qw,qk])):gb101≠gb102));have NB102_101:=O.mk ((by rw[hg];exact Nat.ne_of_gt (blk_lt (by solve_by_elim only[BK101.out,qv,qw,qk])):gb102≠gb101));replace BK101:=O.mk (kz (by solve_by_elim only[BK101.out,qv,qw,qk]) hb);clear hb hbox hg;have hnb32:=NB101_102.out;have hnc32:=NB102_101.out;obtain⟨y33_0,y33_1,y33_2,y33_3,y33_4,y33_5,y33_6,z33_0,z33_1,z33_2,z33_3,z33_4,z33_5,z33_6⟩:=bx7f BK101.out;obtain⟨y34_0,y34_1,y34_2,y34_3,y34_4,y34_5,y34_6,z34_0,z34_1,z34_2,z34_3,z34_4,z34_5,z34_6⟩:=bx7f BK102.out))
  go_ret
  exact⟨by first|rfl|(simp[*,zx,zw] <;> rfl),by repeat(first|(with_reducible first|exact HB.out|apply J|apply L|apply I|refine qj ?_ GE101.out|refine qj ?_ GE102.out)|exact HB.out)⟩
end Go.Proofs.YtnbbbjfjkhglhaaGreatDoor.Pr
