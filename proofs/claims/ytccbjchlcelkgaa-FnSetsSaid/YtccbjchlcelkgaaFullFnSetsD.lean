/- Printed texts, walks and plain facts that the law FnSets leans on, joined. -/
import Derived.Test.YtccbjchlcelkgaaFullFnSetsC
import Derived.Deep.QuietTactic
import Derived.BigQuiet
import Derived.Laws.Cover1
set_option maxHeartbeats 8000000
set_option maxRecDepth 100000
open List renaming map_toArray → jq0, map_cons → jq1, map_nil → jq2, length_drop → jq3, length_take → jq4, setIfInBounds_toArray → jq5, set_cons_zero → jq6, set_cons_succ → jq7
open Option renaming bind_eq_some_iff → jq8
open Bool renaming eq_false_iff → jq9, true → Z, false → Y
namespace Go.Proofs.Ytccbjchlcelkgaa.Pr
open Go.RowKit Go.Proofs.YtccbjchlcelkgaaW.PrintWords Go.Proofs.YtccbjchlcelkgaaW.PrintLast Go.Proofs.YtccbjchlcelkgaaW.PrintMore
attribute [local go_sem] max2_int min2_int max_two min_two max_three min_three max_four min_four
set_option linter.unusedVariables false
set_option linter.unusedSimpArgs false
attribute [local go_sem high] eqA34
def qqv.f (k:Nat) (a0_0:Int) (a0_1:Int) (a0_2:Int) (a0_3:ByteArray) (a0_4:ByteArray) (l0_5:List (S34)) (l0_6:List ByteArray) (a1_0:Int) (a1_1:Int) (a1_2:Int) (a1_3:ByteArray) (a1_4:ByteArray) (l1_5:List (S34)) (l1_6:List ByteArray):Option (Bool):=if a0_0=a1_0 then(if (a0_1 == a1_1 && (a0_2 == a1_2 && (a0_3.toList == a1_3.toList && (a0_4.toList == a1_4.toList))))=true then((qqj.f k l0_5 l1_5).bind fun t103=>(if t103=true then((qqk.f k l0_6 l1_6).bind fun t104=>(some t104)) else(some false))) else(some false)) else(some false)
theorem qqv.calls (k:Nat) (a0_0:Int) (a0_1:Int) (a0_2:Int) (a0_3:ByteArray) (a0_4:ByteArray) (A0_5:Option Addr) (c0_5:Nat) (l0_5:List (S34)) (A0_6:Option Addr) (c0_6:Nat) (l0_6:List ByteArray) (a1_0:Int) (a1_1:Int) (a1_2:Int) (a1_3:ByteArray) (a1_4:ByteArray) (A1_5:Option Addr) (c1_5:Nat) (l1_5:List (S34)) (A1_6:Option Addr) (c1_6:Nat) (l1_6:List ByteArray) (r:Bool) (w:World) (hr0_5:Kd.C k34 w A0_5 l0_5.length l0_5) (hc0_5:l0_5.length≤c0_5) (hr0_6:Kd.C Kd.string w A0_6 l0_6.length l0_6) (hc0_6:l0_6.length≤c0_6) (hr1_5:Kd.C k34 w A1_5 l1_5.length l1_5) (hc1_5:l1_5.length≤c1_5) (hr1_6:Kd.C Kd.string w A1_6 l1_6.length l1_6) (hc1_6:l1_6.length≤c1_6) (h:qqv.f k a0_0 a0_1 a0_2 a0_3 a0_4 l0_5 l0_6 a1_0 a1_1 a1_2 a1_3 a1_4 l1_5 l1_6=some r) :
  Calls Try.prog 38 #[.agg #[.int .i64 a0_0,.int .i64 a0_1,.int .i64 a0_2,.string a0_3,.string a0_4,.slice A0_5 l0_5.length c0_5,.slice A0_6 l0_6.length c0_6],.agg #[.int .i64 a1_0,.int .i64 a1_1,.int .i64 a1_2,.string a1_3,.string a1_4,.slice A1_5 l1_5.length c1_5,.slice A1_6 l1_6.length c1_6]] w fun e w'=>e=.returned (.bool r)∧Below w.heap.size w w':=by
 have hu58:=Try.underlying58
 have hu34:=Try.underlying34
 have HR0_5:=U.mk hr0_5
 have HC0_5:=U.mk hc0_5
 clear hr0_5 hc0_5
 have HR0_6:=U.mk hr0_6
 have HC0_6:=U.mk hc0_6
 clear hr0_6 hc0_6
 have HR1_5:=U.mk hr1_5
 have HC1_5:=U.mk hc1_5
 clear hr1_5 hc1_5
 have HR1_6:=U.mk hr1_6
 have HC1_6:=U.mk hc1_6
 clear hr1_6 hc1_6
 have HB:=U.mk (Below.refl w.heap.size w)
 unfold qqv.f at h
 have H:=h
 clear h
 by_cases c3:a0_0=a1_0
 ·rw[if_pos c3] at H
  have c3b0:(a0_0 == a1_0)=true:=beq_iff_eq.mpr c3
  have c3b1:(a0_0 != a1_0)=false:=bne_eq_false_iff_eq.mpr c3
  clear c3
  by_cases c4:(a0_1 == a1_1 && (a0_2 == a1_2 && (a0_3.toList == a1_3.toList && (a0_4.toList == a1_4.toList))))=true
  ·rw[if_pos c4] at H
   have c4b0:(a0_1 == a1_1 && (a0_2 == a1_2 && (a0_3.toList == a1_3.toList && (a0_4.toList == a1_4.toList))))=true:=c4
   (try (have c4b1:decide (a0_1=a1_1 && (a0_2 == a1_2 && (a0_3.toList == a1_3.toList && (a0_4.toList == a1_4.toList))))=true:=by simpa using c4))
   (try (have c4b2:(a0_1 == a1_1 && (a0_2 == a1_2 && (a0_3.toList == a1_3.toList && (a0_4.toList == a1_4.toList))))=true:=by simpa using c4))
   clear c4
   replace H:=jq8.mp H
   obtain⟨t103,A50,H⟩:=H
   try dsimp only at H
   have A5:=U.mk A50
   clear A50
   by_cases c6:t103=true
   ·subst c6
    have H1:((qqk.f k l0_6 l1_6).bind fun t104=>(some t104))=some r:=by rw[if_pos rfl] at H;exact H
    clear H
    have H:=H1
    clear H1
    replace H:=jq8.mp H
    obtain⟨t104,A70,H⟩:=H
    replace H:(some t104)=some r:=H
    have A7:=U.mk A70
    clear A70
    obtain rfl:=Option.some.inj H
    go_enter Try.func38,Try.ntmps38
    go_wp2_with (first|((with_reducible refine gate_dst (N:=2) rfl ?_);refine box_event ?hg (N:=2) ?hd (cs:=#[.int .i64 a0_0,.int .i64 a0_1,.int .i64 a0_2,.string a0_3,.string a0_4,.slice A0_5 l0_5.length c0_5,.slice A0_6 l0_6.length c0_6]) (t:=58) ?hr ?_;(case hd=>rfl);(case hg=>rfl);(case hr=>first|(go_simp;done)|(go_simp;rfl));intro gb101 hg w8 hbox hb;have BK101:=U.mk (hbox);have GW101:=U.mk ((by rw[hg];exact(zj (by solve_by_elim only[HB.out,G,J,qq])):w.heap.size≤gb101));have GE101:=U.mk ((by rw[hg];exact(zj (by solve_by_elim only[HB.out,G,J,qq])):w.heap.size≤gb101));replace HB:=U.mk (zz (by solve_by_elim only[HB.out,G,J,qq]) hb);clear hb hbox hg)|((with_reducible refine gate_dst (N:=3) rfl ?_);refine box_event ?hg (N:=3) ?hd (cs:=#[.int .i64 a1_0,.int .i64 a1_1,.int .i64 a1_2,.string a1_3,.string a1_4,.slice A1_5 l1_5.length c1_5,.slice A1_6 l1_6.length c1_6]) (t:=58) ?hr ?_;(case hd=>rfl);(case hg=>rfl);(case hr=>first|(go_simp;done)|(go_simp;rfl));intro gb102 hg w9 hbox hb;have BK102:=U.mk (hbox);have GW102:=U.mk ((by rw[hg];exact(zj (by solve_by_elim (maxDepth:=20) only[HB.out,G,J,qq,qk,GE101.out])):w.heap.size≤gb102));have GE102:=U.mk ((by rw[hg];exact(zj (by solve_by_elim (maxDepth:=20) only[HB.out,G,J,qq,qk,GE101.out])):w.heap.size≤gb102));replace HB:=U.mk (zz (by solve_by_elim (maxDepth:=20) only[HB.out,G,J,qq,qk,GE101.out]) hb);have NB101_102:=U.mk ((by rw[hg];exact Nat.ne_of_lt (blk_lt (g:=gb101) (o:=.cells #[.int .i64 a0_0,.int .i64 a0_1,.int .i64 a0_2,.string a0_3,.string a0_4,.slice A0_5 l0_5.length c0_5,.slice A0_6 l0_6.length c0_6] 58 (0,0)) (by solve_by_elim only[BK101.out,qw,qx,qv])):gb101≠gb102));have NB102_101:=U.mk ((by rw[hg];exact Nat.ne_of_gt (blk_lt (g:=gb101) (o:=.cells #[.int .i64 a0_0,.int .i64 a0_1,.int .i64 a0_2,.string a0_3,.string a0_4,.slice A0_5 l0_5.length c0_5,.slice A0_6 l0_6.length c0_6] 58 (0,0)) (by solve_by_elim only[BK101.out,qw,qx,qv])):gb102≠gb101));replace BK101:=U.mk (kv (g:=gb101) (o:=.cells #[.int .i64 a0_0,.int .i64 a0_1,.int .i64 a0_2,.string a0_3,.string a0_4,.slice A0_5 l0_5.length c0_5,.slice A0_6 l0_6.length c0_6] 58 (0,0)) (by solve_by_elim only[BK101.out,qw,qx,qv]) hb);clear hb hbox hg;have hnb10:=NB101_102.out;have hnc10:=NB102_101.out;have hcz11_0:w9.cell? ⟨gb101,0,none⟩ = some (.int .i64 a0_0):=(qj BK101.out 0).trans rfl;have hcz11_1:w9.cell? ⟨gb101,1,none⟩ = some (.int .i64 a0_1):=(qj BK101.out 1).trans rfl;have hcz11_2:w9.cell? ⟨gb101,2,none⟩ = some (.int .i64 a0_2):=(qj BK101.out 2).trans rfl;have hcz11_3:w9.cell? ⟨gb101,3,none⟩ = some (.string a0_3):=(qj BK101.out 3).trans rfl;have hcz11_4:w9.cell? ⟨gb101,4,none⟩ = some (.string a0_4):=(qj BK101.out 4).trans rfl;have hcz11_5:w9.cell? ⟨gb101,5,none⟩ = some (.slice A0_5 l0_5.length c0_5):=(qj BK101.out 5).trans rfl;have hcz11_6:w9.cell? ⟨gb101,6,none⟩ = some (.slice A0_6 l0_6.length c0_6):=(qj BK101.out 6).trans rfl;have hfz11_0:=qz BK101.out 0;have hfz11_1:=qz BK101.out 1;have hfz11_2:=qz BK101.out 2;have hfz11_3:=qz BK101.out 3;have hfz11_4:=qz BK101.out 4;have hfz11_5:=qz BK101.out 5;have hfz11_6:=qz BK101.out 6;have hcz12_0:w9.cell? ⟨gb102,0,none⟩ = some (.int .i64 a1_0):=(qj BK102.out 0).trans rfl;have hcz12_1:w9.cell? ⟨gb102,1,none⟩ = some (.int .i64 a1_1):=(qj BK102.out 1).trans rfl;have hcz12_2:w9.cell? ⟨gb102,2,none⟩ = some (.int .i64 a1_2):=(qj BK102.out 2).trans rfl;have hcz12_3:w9.cell? ⟨gb102,3,none⟩ = some (.string a1_3):=(qj BK102.out 3).trans rfl;have hcz12_4:w9.cell? ⟨gb102,4,none⟩ = some (.string a1_4):=(qj BK102.out 4).trans rfl;have hcz12_5:w9.cell? ⟨gb102,5,none⟩ = some (.slice A1_5 l1_5.length c1_5):=(qj BK102.out 5).trans rfl;have hcz12_6:w9.cell? ⟨gb102,6,none⟩ = some (.slice A1_6 l1_6.length c1_6):=(qj BK102.out 6).trans rfl;have hfz12_0:=qz BK102.out 0;have hfz12_1:=qz BK102.out 1;have hfz12_2:=qz BK102.out 2;have hfz12_3:=qz BK102.out 3;have hfz12_4:=qz BK102.out 4;have hfz12_5:=qz BK102.out 5;have hfz12_6:=qz BK102.out 6)|(go_at_call 94;(with_reducible refine(qqj.calls k _ _ l0_5 _ _ l1_5 true _ ?side1 ?side2 ?side3 ?side4 A5.out).mono ?_);(case side1=>solve_by_elim only[(Kd.C_below HR0_5.out HB.out),Kd.C_alloc,Kd.C_drewN,Kd.C_drew]);(case side2=>exact HC0_5.out);(case side3=>solve_by_elim only[(Kd.C_below HR1_5.out HB.out),Kd.C_alloc,Kd.C_drewN,Kd.C_drew]);(case side4=>exact HC1_5.out);rintro e w' ⟨rfl,⟨nd,rfl⟩⟩)|(go_at_call 95;(with_reducible refine(qqk.calls k _ _ l0_6 _ _ l1_6 t104 _ ?side1 ?side2 ?side3 ?side4 A7.out).mono ?_);(case side1=>repeat(first|exact(Kd.C_below HR0_6.out (by solve_by_elim (maxDepth:=20) only[HB.out,G,J,qq,qk,GE101.out,qk,GE102.out]))|(with_reducible refine Kd.C_alloc ?_ _)|(with_reducible refine Kd.C_drewN ?_ _)|(with_reducible refine Kd.C_drew ?_)));(case side2=>exact HC0_6.out);(case side3=>repeat(first|exact(Kd.C_below HR1_6.out (by solve_by_elim (maxDepth:=20) only[HB.out,G,J,qq,qk,GE101.out,qk,GE102.out]))|(with_reducible refine Kd.C_alloc ?_ _)|(with_reducible refine Kd.C_drewN ?_ _)|(with_reducible refine Kd.C_drew ?_)));(case side4=>exact HC1_6.out);rintro e w' ⟨rfl,⟨nd,rfl⟩⟩))
    go_ret
    exact⟨by first|rfl|(simp[*,jv,jk] <;> rfl),by repeat(first|(with_reducible first|exact HB.out|apply G|apply J|apply qq|refine qk ?_ GE101.out|refine qk ?_ GE102.out)|exact HB.out)⟩
   ·replace c6:=jq9.mpr c6
    subst c6
    have H1:(some false)=some r:=by rw[if_neg (show ¬ (false=true) by decide)] at H;exact H
    clear H
    have H:=H1
    clear H1
    obtain rfl:=Option.some.inj H
    go_enter Try.func38,Try.ntmps38
    go_wp2_with (first|((with_reducible refine gate_dst (N:=2) rfl ?_);refine box_event ?hg (N:=2) ?hd (cs:=#[.int .i64 a0_0,.int .i64 a0_1,.int .i64 a0_2,.string a0_3,.string a0_4,.slice A0_5 l0_5.length c0_5,.slice A0_6 l0_6.length c0_6]) (t:=58) ?hr ?_;(case hd=>rfl);(case hg=>rfl);(case hr=>first|(go_simp;done)|(go_simp;rfl));intro gb101 hg w13 hbox hb;have BK101:=U.mk (hbox);have GW101:=U.mk ((by rw[hg];exact(zj (by solve_by_elim only[HB.out,G,J,qq])):w.heap.size≤gb101));have GE101:=U.mk ((by rw[hg];exact(zj (by solve_by_elim only[HB.out,G,J,qq])):w.heap.size≤gb101));replace HB:=U.mk (zz (by solve_by_elim only[HB.out,G,J,qq]) hb);clear hb hbox hg)|((with_reducible refine gate_dst (N:=3) rfl ?_);refine box_event ?hg (N:=3) ?hd (cs:=#[.int .i64 a1_0,.int .i64 a1_1,.int .i64 a1_2,.string a1_3,.string a1_4,.slice A1_5 l1_5.length c1_5,.slice A1_6 l1_6.length c1_6]) (t:=58) ?hr ?_;(case hd=>rfl);(case hg=>rfl);(case hr=>first|(go_simp;done)|(go_simp;rfl));intro gb102 hg w14 hbox hb;have BK102:=U.mk (hbox);have GW102:=U.mk ((by rw[hg];exact(zj (by solve_by_elim (maxDepth:=20) only[HB.out,G,J,qq,qk,GE101.out])):w.heap.size≤gb102));have GE102:=U.mk ((by rw[hg];exact(zj (by solve_by_elim (maxDepth:=20) only[HB.out,G,J,qq,qk,GE101.out])):w.heap.size≤gb102));replace HB:=U.mk (zz (by solve_by_elim (maxDepth:=20) only[HB.out,G,J,qq,qk,GE101.out]) hb);have NB101_102:=U.mk ((by rw[hg];exact Nat.ne_of_lt (blk_lt (g:=gb101) (o:=.cells #[.int .i64 a0_0,.int .i64 a0_1,.int .i64 a0_2,.string a0_3,.string a0_4,.slice A0_5 l0_5.length c0_5,.slice A0_6 l0_6.length c0_6] 58 (0,0)) (by solve_by_elim only[BK101.out,qw,qx,qv])):gb101≠gb102));have NB102_101:=U.mk ((by rw[hg];exact Nat.ne_of_gt (blk_lt (g:=gb101) (o:=.cells #[.int .i64 a0_0,.int .i64 a0_1,.int .i64 a0_2,.string a0_3,.string a0_4,.slice A0_5 l0_5.length c0_5,.slice A0_6 l0_6.length c0_6] 58 (0,0)) (by solve_by_elim only[BK101.out,qw,qx,qv])):gb102≠gb101));replace BK101:=U.mk (kv (g:=gb101) (o:=.cells #[.int .i64 a0_0,.int .i64 a0_1,.int .i64 a0_2,.string a0_3,.string a0_4,.slice A0_5 l0_5.length c0_5,.slice A0_6 l0_6.length c0_6] 58 (0,0)) (by solve_by_elim only[BK101.out,qw,qx,qv]) hb);clear hb hbox hg;have hnb15:=NB101_102.out;have hnc15:=NB102_101.out;have hcz16_0:w14.cell? ⟨gb101,0,none⟩ = some (.int .i64 a0_0):=(qj BK101.out 0).trans rfl;have hcz16_1:w14.cell? ⟨gb101,1,none⟩ = some (.int .i64 a0_1):=(qj BK101.out 1).trans rfl;have hcz16_2:w14.cell? ⟨gb101,2,none⟩ = some (.int .i64 a0_2):=(qj BK101.out 2).trans rfl;have hcz16_3:w14.cell? ⟨gb101,3,none⟩ = some (.string a0_3):=(qj BK101.out 3).trans rfl;have hcz16_4:w14.cell? ⟨gb101,4,none⟩ = some (.string a0_4):=(qj BK101.out 4).trans rfl;have hcz16_5:w14.cell? ⟨gb101,5,none⟩ = some (.slice A0_5 l0_5.length c0_5):=(qj BK101.out 5).trans rfl;have hcz16_6:w14.cell? ⟨gb101,6,none⟩ = some (.slice A0_6 l0_6.length c0_6):=(qj BK101.out 6).trans rfl;have hfz16_0:=qz BK101.out 0;have hfz16_1:=qz BK101.out 1;have hfz16_2:=qz BK101.out 2;have hfz16_3:=qz BK101.out 3;have hfz16_4:=qz BK101.out 4;have hfz16_5:=qz BK101.out 5;have hfz16_6:=qz BK101.out 6;have hcz17_0:w14.cell? ⟨gb102,0,none⟩ = some (.int .i64 a1_0):=(qj BK102.out 0).trans rfl;have hcz17_1:w14.cell? ⟨gb102,1,none⟩ = some (.int .i64 a1_1):=(qj BK102.out 1).trans rfl;have hcz17_2:w14.cell? ⟨gb102,2,none⟩ = some (.int .i64 a1_2):=(qj BK102.out 2).trans rfl;have hcz17_3:w14.cell? ⟨gb102,3,none⟩ = some (.string a1_3):=(qj BK102.out 3).trans rfl;have hcz17_4:w14.cell? ⟨gb102,4,none⟩ = some (.string a1_4):=(qj BK102.out 4).trans rfl;have hcz17_5:w14.cell? ⟨gb102,5,none⟩ = some (.slice A1_5 l1_5.length c1_5):=(qj BK102.out 5).trans rfl;have hcz17_6:w14.cell? ⟨gb102,6,none⟩ = some (.slice A1_6 l1_6.length c1_6):=(qj BK102.out 6).trans rfl;have hfz17_0:=qz BK102.out 0;have hfz17_1:=qz BK102.out 1;have hfz17_2:=qz BK102.out 2;have hfz17_3:=qz BK102.out 3;have hfz17_4:=qz BK102.out 4;have hfz17_5:=qz BK102.out 5;have hfz17_6:=qz BK102.out 6)|(go_at_call 94;(with_reducible refine(qqj.calls k _ _ l0_5 _ _ l1_5 false _ ?side1 ?side2 ?side3 ?side4 A5.out).mono ?_);(case side1=>solve_by_elim only[(Kd.C_below HR0_5.out HB.out),Kd.C_alloc,Kd.C_drewN,Kd.C_drew]);(case side2=>exact HC0_5.out);(case side3=>solve_by_elim only[(Kd.C_below HR1_5.out HB.out),Kd.C_alloc,Kd.C_drewN,Kd.C_drew]);(case side4=>exact HC1_5.out);rintro e w' ⟨rfl,⟨nd,rfl⟩⟩))
    go_ret
    exact⟨by first|rfl|(simp[*,jv,jk] <;> rfl),by repeat(first|(with_reducible first|exact HB.out|apply G|apply J|apply qq|refine qk ?_ GE101.out|refine qk ?_ GE102.out)|exact HB.out)⟩
  ·rw[if_neg c4] at H
   have c4b0:(a0_1 == a1_1 && (a0_2 == a1_2 && (a0_3.toList == a1_3.toList && (a0_4.toList == a1_4.toList))))=false:=by simpa using c4
   (try (have c4b1:decide (a0_1=a1_1 && (a0_2 == a1_2 && (a0_3.toList == a1_3.toList && (a0_4.toList == a1_4.toList))))=false:=by simpa using c4))
   (try (have c4b2:(a0_1 == a1_1 && (a0_2 == a1_2 && (a0_3.toList == a1_3.toList && (a0_4.toList == a1_4.toList))))=false:=by simpa using c4))
   (try (have c4b3:¬ (a0_1=a1_1 && (a0_2 == a1_2 && (a0_3.toList == a1_3.toList && (a0_4.toList == a1_4.toList)))):=by simpa using c4))
   clear c4
   obtain rfl:=Option.some.inj H
   go_enter Try.func38,Try.ntmps38
   go_wp2_with (first|((with_reducible refine gate_dst (N:=2) rfl ?_);refine box_event ?hg (N:=2) ?hd (cs:=#[.int .i64 a0_0,.int .i64 a0_1,.int .i64 a0_2,.string a0_3,.string a0_4,.slice A0_5 l0_5.length c0_5,.slice A0_6 l0_6.length c0_6]) (t:=58) ?hr ?_;(case hd=>rfl);(case hg=>rfl);(case hr=>first|(go_simp;done)|(go_simp;rfl));intro gb101 hg w18 hbox hb;have BK101:=U.mk (hbox);have GW101:=U.mk ((by rw[hg];exact(zj (by solve_by_elim only[HB.out,G,J,qq])):w.heap.size≤gb101));have GE101:=U.mk ((by rw[hg];exact(zj (by solve_by_elim only[HB.out,G,J,qq])):w.heap.size≤gb101));replace HB:=U.mk (zz (by solve_by_elim only[HB.out,G,J,qq]) hb);clear hb hbox hg)|((with_reducible refine gate_dst (N:=3) rfl ?_);refine box_event ?hg (N:=3) ?hd (cs:=#[.int .i64 a1_0,.int .i64 a1_1,.int .i64 a1_2,.string a1_3,.string a1_4,.slice A1_5 l1_5.length c1_5,.slice A1_6 l1_6.length c1_6]) (t:=58) ?hr ?_;(case hd=>rfl);(case hg=>rfl);(case hr=>first|(go_simp;done)|(go_simp;rfl));intro gb102 hg w19 hbox hb;have BK102:=U.mk (hbox);have GW102:=U.mk ((by rw[hg];exact(zj (by solve_by_elim (maxDepth:=20) only[HB.out,G,J,qq,qk,GE101.out])):w.heap.size≤gb102));have GE102:=U.mk ((by rw[hg];exact(zj (by solve_by_elim (maxDepth:=20) only[HB.out,G,J,qq,qk,GE101.out])):w.heap.size≤gb102));replace HB:=U.mk (zz (by solve_by_elim (maxDepth:=20) only[HB.out,G,J,qq,qk,GE101.out]) hb);have NB101_102:=U.mk ((by rw[hg];exact Nat.ne_of_lt (blk_lt (g:=gb101) (o:=.cells #[.int .i64 a0_0,.int .i64 a0_1,.int .i64 a0_2,.string a0_3,.string a0_4,.slice A0_5 l0_5.length c0_5,.slice A0_6 l0_6.length c0_6] 58 (0,0)) (by solve_by_elim only[BK101.out,qw,qx,qv])):gb101≠gb102));have NB102_101:=U.mk ((by rw[hg];exact Nat.ne_of_gt (blk_lt (g:=gb101) (o:=.cells #[.int .i64 a0_0,.int .i64 a0_1,.int .i64 a0_2,.string a0_3,.string a0_4,.slice A0_5 l0_5.length c0_5,.slice A0_6 l0_6.length c0_6] 58 (0,0)) (by solve_by_elim only[BK101.out,qw,qx,qv])):gb102≠gb101));replace BK101:=U.mk (kv (g:=gb101) (o:=.cells #[.int .i64 a0_0,.int .i64 a0_1,.int .i64 a0_2,.string a0_3,.string a0_4,.slice A0_5 l0_5.length c0_5,.slice A0_6 l0_6.length c0_6] 58 (0,0)) (by solve_by_elim only[BK101.out,qw,qx,qv]) hb);clear hb hbox hg;have hnb20:=NB101_102.out;have hnc20:=NB102_101.out;have hcz21_0:w19.cell? ⟨gb101,0,none⟩ = some (.int .i64 a0_0):=(qj BK101.out 0).trans rfl;have hcz21_1:w19.cell? ⟨gb101,1,none⟩ = some (.int .i64 a0_1):=(qj BK101.out 1).trans rfl;have hcz21_2:w19.cell? ⟨gb101,2,none⟩ = some (.int .i64 a0_2):=(qj BK101.out 2).trans rfl;have hcz21_3:w19.cell? ⟨gb101,3,none⟩ = some (.string a0_3):=(qj BK101.out 3).trans rfl;have hcz21_4:w19.cell? ⟨gb101,4,none⟩ = some (.string a0_4):=(qj BK101.out 4).trans rfl;have hcz21_5:w19.cell? ⟨gb101,5,none⟩ = some (.slice A0_5 l0_5.length c0_5):=(qj BK101.out 5).trans rfl;have hcz21_6:w19.cell? ⟨gb101,6,none⟩ = some (.slice A0_6 l0_6.length c0_6):=(qj BK101.out 6).trans rfl;have hfz21_0:=qz BK101.out 0;have hfz21_1:=qz BK101.out 1;have hfz21_2:=qz BK101.out 2;have hfz21_3:=qz BK101.out 3;have hfz21_4:=qz BK101.out 4;have hfz21_5:=qz BK101.out 5;have hfz21_6:=qz BK101.out 6;have hcz22_0:w19.cell? ⟨gb102,0,none⟩ = some (.int .i64 a1_0):=(qj BK102.out 0).trans rfl;have hcz22_1:w19.cell? ⟨gb102,1,none⟩ = some (.int .i64 a1_1):=(qj BK102.out 1).trans rfl;have hcz22_2:w19.cell? ⟨gb102,2,none⟩ = some (.int .i64 a1_2):=(qj BK102.out 2).trans rfl;have hcz22_3:w19.cell? ⟨gb102,3,none⟩ = some (.string a1_3):=(qj BK102.out 3).trans rfl;have hcz22_4:w19.cell? ⟨gb102,4,none⟩ = some (.string a1_4):=(qj BK102.out 4).trans rfl;have hcz22_5:w19.cell? ⟨gb102,5,none⟩ = some (.slice A1_5 l1_5.length c1_5):=(qj BK102.out 5).trans rfl;have hcz22_6:w19.cell? ⟨gb102,6,none⟩ = some (.slice A1_6 l1_6.length c1_6):=(qj BK102.out 6).trans rfl;have hfz22_0:=qz BK102.out 0;have hfz22_1:=qz BK102.out 1;have hfz22_2:=qz BK102.out 2;have hfz22_3:=qz BK102.out 3;have hfz22_4:=qz BK102.out 4;have hfz22_5:=qz BK102.out 5;have hfz22_6:=qz BK102.out 6))
   go_ret
   exact⟨by first|rfl|(simp[*,jv,jk] <;> rfl),by repeat(first|(with_reducible first|exact HB.out|apply G|apply J|apply qq|refine qk ?_ GE101.out|refine qk ?_ GE102.out)|exact HB.out)⟩
 ·rw[if_neg c3] at H
  have c3b0:(a0_0 == a1_0)=false:=beq_eq_false_iff_ne.mpr c3
  have c3b1:(a0_0 != a1_0)=true:=bne_iff_ne.mpr c3
  obtain rfl:=Option.some.inj H
  go_enter Try.func38,Try.ntmps38
  go_wp2_with (first|((with_reducible refine gate_dst (N:=2) rfl ?_);refine box_event ?hg (N:=2) ?hd (cs:=#[.int .i64 a0_0,.int .i64 a0_1,.int .i64 a0_2,.string a0_3,.string a0_4,.slice A0_5 l0_5.length c0_5,.slice A0_6 l0_6.length c0_6]) (t:=58) ?hr ?_;(case hd=>rfl);(case hg=>rfl);(case hr=>first|(go_simp;done)|(go_simp;rfl));intro gb101 hg w23 hbox hb;have BK101:=U.mk (hbox);have GW101:=U.mk ((by rw[hg];exact(zj (by solve_by_elim only[HB.out,G,J,qq])):w.heap.size≤gb101));have GE101:=U.mk ((by rw[hg];exact(zj (by solve_by_elim only[HB.out,G,J,qq])):w.heap.size≤gb101));replace HB:=U.mk (zz (by solve_by_elim only[HB.out,G,J,qq]) hb);clear hb hbox hg)|((with_reducible refine gate_dst (N:=3) rfl ?_);refine box_event ?hg (N:=3) ?hd (cs:=#[.int .i64 a1_0,.int .i64 a1_1,.int .i64 a1_2,.string a1_3,.string a1_4,.slice A1_5 l1_5.length c1_5,.slice A1_6 l1_6.length c1_6]) (t:=58) ?hr ?_;(case hd=>rfl);(case hg=>rfl);(case hr=>first|(go_simp;done)|(go_simp;rfl));intro gb102 hg w24 hbox hb;have BK102:=U.mk (hbox);have GW102:=U.mk ((by rw[hg];exact(zj (by solve_by_elim (maxDepth:=20) only[HB.out,G,J,qq,qk,GE101.out])):w.heap.size≤gb102));have GE102:=U.mk ((by rw[hg];exact(zj (by solve_by_elim (maxDepth:=20) only[HB.out,G,J,qq,qk,GE101.out])):w.heap.size≤gb102));replace HB:=U.mk (zz (by solve_by_elim (maxDepth:=20) only[HB.out,G,J,qq,qk,GE101.out]) hb);have NB101_102:=U.mk ((by rw[hg];exact Nat.ne_of_lt (blk_lt (g:=gb101) (o:=.cells #[.int .i64 a0_0,.int .i64 a0_1,.int .i64 a0_2,.string a0_3,.string a0_4,.slice A0_5 l0_5.length c0_5,.slice A0_6 l0_6.length c0_6] 58 (0,0)) (by solve_by_elim only[BK101.out,qw,qx,qv])):gb101≠gb102));have NB102_101:=U.mk ((by rw[hg];exact Nat.ne_of_gt (blk_lt (g:=gb101) (o:=.cells #[.int .i64 a0_0,.int .i64 a0_1,.int .i64 a0_2,.string a0_3,.string a0_4,.slice A0_5 l0_5.length c0_5,.slice A0_6 l0_6.length c0_6] 58 (0,0)) (by solve_by_elim only[BK101.out,qw,qx,qv])):gb102≠gb101));replace BK101:=U.mk (kv (g:=gb101) (o:=.cells #[.int .i64 a0_0,.int .i64 a0_1,.int .i64 a0_2,.string a0_3,.string a0_4,.slice A0_5 l0_5.length c0_5,.slice A0_6 l0_6.length c0_6] 58 (0,0)) (by solve_by_elim only[BK101.out,qw,qx,qv]) hb);clear hb hbox hg;have hnb25:=NB101_102.out;have hnc25:=NB102_101.out;have hcz26_0:w24.cell? ⟨gb101,0,none⟩ = some (.int .i64 a0_0):=(qj BK101.out 0).trans rfl;have hcz26_1:w24.cell? ⟨gb101,1,none⟩ = some (.int .i64 a0_1):=(qj BK101.out 1).trans rfl;have hcz26_2:w24.cell? ⟨gb101,2,none⟩ = some (.int .i64 a0_2):=(qj BK101.out 2).trans rfl;have hcz26_3:w24.cell? ⟨gb101,3,none⟩ = some (.string a0_3):=(qj BK101.out 3).trans rfl;have hcz26_4:w24.cell? ⟨gb101,4,none⟩ = some (.string a0_4):=(qj BK101.out 4).trans rfl;have hcz26_5:w24.cell? ⟨gb101,5,none⟩ = some (.slice A0_5 l0_5.length c0_5):=(qj BK101.out 5).trans rfl;have hcz26_6:w24.cell? ⟨gb101,6,none⟩ = some (.slice A0_6 l0_6.length c0_6):=(qj BK101.out 6).trans rfl;have hfz26_0:=qz BK101.out 0;have hfz26_1:=qz BK101.out 1;have hfz26_2:=qz BK101.out 2;have hfz26_3:=qz BK101.out 3;have hfz26_4:=qz BK101.out 4;have hfz26_5:=qz BK101.out 5;have hfz26_6:=qz BK101.out 6;have hcz27_0:w24.cell? ⟨gb102,0,none⟩ = some (.int .i64 a1_0):=(qj BK102.out 0).trans rfl;have hcz27_1:w24.cell? ⟨gb102,1,none⟩ = some (.int .i64 a1_1):=(qj BK102.out 1).trans rfl;have hcz27_2:w24.cell? ⟨gb102,2,none⟩ = some (.int .i64 a1_2):=(qj BK102.out 2).trans rfl;have hcz27_3:w24.cell? ⟨gb102,3,none⟩ = some (.string a1_3):=(qj BK102.out 3).trans rfl;have hcz27_4:w24.cell? ⟨gb102,4,none⟩ = some (.string a1_4):=(qj BK102.out 4).trans rfl;have hcz27_5:w24.cell? ⟨gb102,5,none⟩ = some (.slice A1_5 l1_5.length c1_5):=(qj BK102.out 5).trans rfl;have hcz27_6:w24.cell? ⟨gb102,6,none⟩ = some (.slice A1_6 l1_6.length c1_6):=(qj BK102.out 6).trans rfl;have hfz27_0:=qz BK102.out 0;have hfz27_1:=qz BK102.out 1;have hfz27_2:=qz BK102.out 2;have hfz27_3:=qz BK102.out 3;have hfz27_4:=qz BK102.out 4;have hfz27_5:=qz BK102.out 5;have hfz27_6:=qz BK102.out 6))
  go_ret
  exact⟨by first|rfl|(simp[*,jv,jk] <;> rfl),by repeat(first|(with_reducible first|exact HB.out|apply G|apply J|apply qq|refine qk ?_ GE101.out|refine qk ?_ GE102.out)|exact HB.out)⟩
def qzk.f (k:Nat) (a0_0:Int) (a0_1:Int) (a0_2:ByteArray) (a0_3:ByteArray):Option (Int × Int):=(qkv.f k (wrap64 (32 - (Int.tmod a0_1 64)))).bind fun t102=>(some (wrap64 (Int.tdiv a0_1 64),t102))
theorem qzk.calls (k:Nat) (a0_0:Int) (a0_1:Int) (a0_2:ByteArray) (a0_3:ByteArray) (r1:Int) (r2:Int) (w:World) (h:qzk.f k a0_0 a0_1 a0_2 a0_3=some (r1,r2)) :
  Calls Try.prog 71 #[.agg #[.int .i64 a0_0,.int .i64 a0_1,.string a0_2,.string a0_3]] w fun e w'=>e=.returned (.tuple #[.int .i64 r1,.int .i64 r2])∧Below w.heap.size w w':=by
 have hu34:=Try.underlying34
 have HB:=U.mk (Below.refl w.heap.size w)
 unfold qzk.f at h
 have H:=h
 clear h
 replace H:=jq8.mp H
 obtain⟨t102,A20,H⟩:=H
 try dsimp only at H
 have A2:=U.mk A20
 clear A20
 simp only[Option.some.injEq,Prod.mk.injEq] at H
 obtain⟨rfl,rfl⟩:=H
 go_enter Try.func71,Try.ntmps71
 go_wp2_with (first|((with_reducible refine gate_dst (N:=1) rfl ?_);refine box_event ?hg (N:=1) ?hd (cs:=#[.int .i64 a0_0,.int .i64 a0_1,.string a0_2,.string a0_3]) (t:=34) ?hr ?_;(case hd=>rfl);(case hg=>rfl);(case hr=>first|(go_simp;done)|(go_simp;rfl));intro gb101 hg w3 hbox hb;have BK101:=U.mk (hbox);have GW101:=U.mk ((by rw[hg];exact(zj (by solve_by_elim only[HB.out,G,J,qq])):w.heap.size≤gb101));have GE101:=U.mk ((by rw[hg];exact(zj (by solve_by_elim only[HB.out,G,J,qq])):w.heap.size≤gb101));replace HB:=U.mk (zz (by solve_by_elim only[HB.out,G,J,qq]) hb);clear hb hbox hg;have hcz4_0:w3.cell? ⟨gb101,0,none⟩ = some (.int .i64 a0_0):=(qj BK101.out 0).trans rfl;have hcz4_1:w3.cell? ⟨gb101,1,none⟩ = some (.int .i64 a0_1):=(qj BK101.out 1).trans rfl;have hcz4_2:w3.cell? ⟨gb101,2,none⟩ = some (.string a0_2):=(qj BK101.out 2).trans rfl;have hcz4_3:w3.cell? ⟨gb101,3,none⟩ = some (.string a0_3):=(qj BK101.out 3).trans rfl;have hfz4_0:=qz BK101.out 0;have hfz4_1:=qz BK101.out 1;have hfz4_2:=qz BK101.out 2;have hfz4_3:=qz BK101.out 3)|(go_at_call 74;(with_reducible refine(qkv.calls k (wrap64 (32 - (Int.tmod a0_1 64))) t102 _ A2.out).mono ?_);rintro e w' ⟨rfl,⟨nd,rfl⟩⟩;(try first|exact⟨rfl,_,World.drewN_drewN _ _ _⟩|exact⟨rfl,_,Eq.trans (World.drewN_drewN _ _ _) (congrArg (World.drewN _) (Nat.add_assoc _ _ _))⟩)))
 repeat(go_quiet (first|((with_reducible refine gate_dst (N:=1) rfl ?_);refine box_event ?hg (N:=1) ?hd (cs:=#[.int .i64 a0_0,.int .i64 a0_1,.string a0_2,.string a0_3]) (t:=34) ?hr ?_;(case hd=>rfl);(case hg=>rfl);(case hr=>first|(go_simp;done)|(go_simp;rfl));intro gb101 hg w3 hbox hb;have BK101:=U.mk (hbox);have GW101:=U.mk ((by rw[hg];exact(zj (by solve_by_elim only[HB.out,G,J,qq])):w.heap.size≤gb101));have GE101:=U.mk ((by rw[hg];exact(zj (by solve_by_elim only[HB.out,G,J,qq])):w.heap.size≤gb101));replace HB:=U.mk (zz (by solve_by_elim only[HB.out,G,J,qq]) hb);clear hb hbox hg;have hcz4_0:w3.cell? ⟨gb101,0,none⟩ = some (.int .i64 a0_0):=(qj BK101.out 0).trans rfl;have hcz4_1:w3.cell? ⟨gb101,1,none⟩ = some (.int .i64 a0_1):=(qj BK101.out 1).trans rfl;have hcz4_2:w3.cell? ⟨gb101,2,none⟩ = some (.string a0_2):=(qj BK101.out 2).trans rfl;have hcz4_3:w3.cell? ⟨gb101,3,none⟩ = some (.string a0_3):=(qj BK101.out 3).trans rfl;have hfz4_0:=qz BK101.out 0;have hfz4_1:=qz BK101.out 1;have hfz4_2:=qz BK101.out 2;have hfz4_3:=qz BK101.out 3)|(go_at_call 74;(with_reducible refine(qkv.calls k (wrap64 (32 - (Int.tmod a0_1 64))) t102 _ A2.out).mono ?_);rintro e w' ⟨rfl,⟨nd,rfl⟩⟩;(try first|exact⟨rfl,_,World.drewN_drewN _ _ _⟩|exact⟨rfl,_,Eq.trans (World.drewN_drewN _ _ _) (congrArg (World.drewN _) (Nat.add_assoc _ _ _))⟩)));try go_wp2_with (first|((with_reducible refine gate_dst (N:=1) rfl ?_);refine box_event ?hg (N:=1) ?hd (cs:=#[.int .i64 a0_0,.int .i64 a0_1,.string a0_2,.string a0_3]) (t:=34) ?hr ?_;(case hd=>rfl);(case hg=>rfl);(case hr=>first|(go_simp;done)|(go_simp;rfl));intro gb101 hg w3 hbox hb;have n0_:=U.mk (zz (by solve_by_elim only[HB.out,G,J,qq]) hb);have n1_:=U.mk (hbox);have n2_:=U.mk ((by rw[hg];exact(zj (by solve_by_elim only[HB.out,G,J,qq])):w.heap.size≤gb101));have n3_:=U.mk ((by rw[hg];exact(zj (by solve_by_elim only[HB.out,G,J,qq])):w.heap.size≤gb101));clear HB;have HB:=n0_;have BK101:=n1_;have GW101:=n2_;have GE101:=n3_;clear n0_ n1_ n2_ n3_;clear hb hbox hg;have hcz4_0:w3.cell? ⟨gb101,0,none⟩ = some (.int .i64 a0_0):=(qj BK101.out 0).trans rfl;have hcz4_1:w3.cell? ⟨gb101,1,none⟩ = some (.int .i64 a0_1):=(qj BK101.out 1).trans rfl;have hcz4_2:w3.cell? ⟨gb101,2,none⟩ = some (.string a0_2):=(qj BK101.out 2).trans rfl;have hcz4_3:w3.cell? ⟨gb101,3,none⟩ = some (.string a0_3):=(qj BK101.out 3).trans rfl;have hfz4_0:=qz BK101.out 0;have hfz4_1:=qz BK101.out 1;have hfz4_2:=qz BK101.out 2;have hfz4_3:=qz BK101.out 3)|(go_at_call 74;(with_reducible refine(qkv.calls k (wrap64 (32 - (Int.tmod a0_1 64))) t102 _ A2.out).mono ?_);rintro e w' ⟨rfl,⟨nd,rfl⟩⟩;(try first|exact⟨rfl,_,World.drewN_drewN _ _ _⟩|exact⟨rfl,_,Eq.trans (World.drewN_drewN _ _ _) (congrArg (World.drewN _) (Nat.add_assoc _ _ _))⟩))))
 go_ret2
 exact⟨by first|rfl|(simp[*,jv,jk] <;> rfl),by repeat(first|(with_reducible first|exact HB.out|apply G|apply J|apply qq|refine qk ?_ GE101.out)|exact HB.out)⟩
def qkj.f (a0:Int):Option (Bool):=if a0 ≥ 48 then(some (decide (a0≤57))) else(some false)
theorem qkj.calls (a0:Int) (r:Bool) (w:World) (h:qkj.f a0=some r) :
  Calls Try.prog 130 #[.int .u8 a0] w fun e w'=>e=.returned (.bool r)∧Drawn0 w w':=by
 have H:(if a0 ≥ 48 then(some (decide (a0≤57))) else(some false))=some r:=h
 clear h
 by_cases c2:a0 ≥ 48
 ·rw[if_pos c2] at H
  have c2b0:decide (48≤a0)=true:=decide_eq_true c2
  clear c2
  obtain rfl:=Option.some.inj H
  go_enter Try.func130,Try.ntmps130
  go_wp2
  go_ret
  exact⟨by first|rfl|(simp;done)|(simp[*];done),by repeat(first|exact Drawn0.refl _|apply Drawn0.step)⟩
 ·rw[if_neg c2] at H
  have c2b0:decide (48≤a0)=false:=decide_eq_false c2
  clear c2
  obtain rfl:=Option.some.inj H
  go_enter Try.func130,Try.ntmps130
  go_wp2
  go_ret
  exact⟨by first|rfl|(simp;done)|(simp[*];done),by repeat(first|exact Drawn0.refl _|apply Drawn0.step)⟩
def qkk.f (a0:Int):Option (Bool):=if a0 ≥ 97 then(if a0≤122 then(some true) else(if a0 ≥ 65 then(some (decide (a0≤90))) else(some false))) else(if a0 ≥ 65 then(some (decide (a0≤90))) else(some false))
theorem qkk.calls (a0:Int) (r:Bool) (w:World) (h:qkk.f a0=some r) :
  Calls Try.prog 131 #[.int .u8 a0] w fun e w'=>e=.returned (.bool r)∧Drawn0 w w':=by
 unfold qkk.f at h
 have H:=h
 clear h
 by_cases c2:a0 ≥ 97
 ·rw[if_pos c2] at H
  have c2b0:decide (97≤a0)=true:=decide_eq_true c2
  clear c2
  by_cases c3:a0≤122
  ·rw[if_pos c3] at H
   have c3b0:decide (a0≤122)=true:=decide_eq_true c3
   clear c3
   obtain rfl:=Option.some.inj H
   go_enter Try.func131,Try.ntmps131
   go_wp2
   go_ret
   exact⟨by first|rfl|(simp;done)|(simp[*];done),by repeat(first|exact Drawn0.refl _|apply Drawn0.step)⟩
  ·rw[if_neg c3] at H
   have c3b0:decide (a0≤122)=false:=decide_eq_false c3
   clear c3
   by_cases c4:a0 ≥ 65
   ·rw[if_pos c4] at H
    have c4b0:decide (65≤a0)=true:=decide_eq_true c4
    clear c4
    obtain rfl:=Option.some.inj H
    go_enter Try.func131,Try.ntmps131
    go_wp2
    go_ret
    exact⟨by first|rfl|(simp;done)|(simp[*];done),by repeat(first|exact Drawn0.refl _|apply Drawn0.step)⟩
   ·rw[if_neg c4] at H
    have c4b0:decide (65≤a0)=false:=decide_eq_false c4
    clear c4
    obtain rfl:=Option.some.inj H
    go_enter Try.func131,Try.ntmps131
    go_wp2
    go_ret
    exact⟨by first|rfl|(simp;done)|(simp[*];done),by repeat(first|exact Drawn0.refl _|apply Drawn0.step)⟩
 ·rw[if_neg c2] at H
  have c2b0:decide (97≤a0)=false:=decide_eq_false c2
  clear c2
  by_cases c5:a0 ≥ 65
  ·rw[if_pos c5] at H
   have c5b0:decide (65≤a0)=true:=decide_eq_true c5
   clear c5
   obtain rfl:=Option.some.inj H
   go_enter Try.func131,Try.ntmps131
   go_wp2
   go_ret
   exact⟨by first|rfl|(simp;done)|(simp[*];done),by repeat(first|exact Drawn0.refl _|apply Drawn0.step)⟩
  ·rw[if_neg c5] at H
   have c5b0:decide (65≤a0)=false:=decide_eq_false c5
   clear c5
   obtain rfl:=Option.some.inj H
   go_enter Try.func131,Try.ntmps131
   go_wp2
   go_ret
   exact⟨by first|rfl|(simp;done)|(simp[*];done),by repeat(first|exact Drawn0.refl _|apply Drawn0.step)⟩
mutual
def qzq.j0:Nat→ByteArray→Bool→Option (Bool)
 | 0,_,_=>none
 | k + 1,x0,x16=>if x16=true then(some false) else(qzq.l0 k x0 0)
def qzq.l0:Nat→ByteArray→Int→Option (Bool)
 | 0,_,_=>none
 | k + 1,x0,x3=>if x3 < (x0.size:Int) then(if 0≤x3 then((qkk.f (bt x0 x3)).bind fun t102=>(if t102=true then(qzq.l0 k x0 (wrap64 (x3 + 1))) else((qkj.f (bt x0 x3)).bind fun t103=>(if t103=true then(qzq.l0 k x0 (wrap64 (x3 + 1))) else(if (bt x0 x3)=95 then(qzq.l0 k x0 (wrap64 (x3 + 1))) else(some false)))))) else(none)) else(some true)
end
def qzq.f (k:Nat) (a0:ByteArray):Option (Bool):=if (a0.size:Int) < 1 then(qzq.j0 k a0 true) else(if (a0.size:Int) > 30 then(qzq.j0 k a0 true) else(if 0 < (a0.size:Int) then((qkj.f (bt a0 0)).bind fun t101=>(qzq.j0 k a0 t101)) else(none)))
theorem qzq.calls (k:Nat) (a0:ByteArray) (r:Bool) (w:World) (h:qzq.f k a0=some r) :
  Calls Try.prog 73 #[.string a0] w fun e w'=>e=.returned (.bool r)∧Drawn0 w w':=by
 unfold qzq.f at h
 have H:=h
 clear h
 have HC2:=U.mk H
 clear H
 go_enter Try.func73,Try.ntmps73
 go_upto_region 1 with (fail)
 go_cut [16] (fun v16 wc=>∃ (kq:Nat) (x16_1:Bool),v16=.bool x16_1∧U (qzq.j0 kq a0 x16_1=some r)∧U (kq≤k)∧Drawn0 w wc)
 case first =>
  have H:=HC2.out
  clear HC2
  by_cases c3:(a0.size:Int) < 1
  ·rw[if_pos c3] at H
   have c3b0:decide ((a0.size:Int) < 1)=true:=decide_eq_true c3
   have c3b1:decide (a0.size < 1)=true:=decide_eq_true (by omega)
   clear c3
   (first|rw[c3b0]|(simp only[i64_w,i32_w];rw[c3b0])|skip)
   have H':=U.mk H
   clear H
   go_wp2
   go_meet
   case rel=>exact⟨_,(true),(by first|rfl|(simp;done)|(simp[*];done)),H',⟨by first|omega|exact Nat.le_refl _⟩,by repeat(first|exact Drawn0.refl _|apply Drawn0.step)⟩
  ·rw[if_neg c3] at H
   have c3b0:decide ((a0.size:Int) < 1)=false:=decide_eq_false c3
   have c3b1:decide (a0.size < 1)=false:=decide_eq_false (by omega)
   clear c3
   (first|rw[c3b0]|(simp only[i64_w,i32_w];rw[c3b0])|skip)
   by_cases c4:(a0.size:Int) > 30
   ·rw[if_pos c4] at H
    have c4b0:decide (30 < (a0.size:Int))=true:=decide_eq_true c4
    have c4b1:decide (30 < a0.size)=true:=decide_eq_true (by omega)
    clear c4
    have H':=U.mk H
    clear H
    go_wp2
    go_meet
    case rel=>exact⟨_,(true),(by first|rfl|(simp;done)|(simp[*];done)),H',⟨by first|omega|exact Nat.le_refl _⟩,by repeat(first|exact Drawn0.refl _|apply Drawn0.step)⟩
   ·rw[if_neg c4] at H
    have c4b0:decide (30 < (a0.size:Int))=false:=decide_eq_false c4
    have c4b1:decide (30 < a0.size)=false:=decide_eq_false (by omega)
    clear c4
    by_cases c5 : 0 < (a0.size:Int)
    ·rw[if_pos c5] at H
     have c5b0:decide (0 < (a0.size:Int))=true:=decide_eq_true c5
     have c5b1:decide (0 < a0.size)=true:=decide_eq_true (by omega)
     clear c5
     replace H:=jq8.mp H
     obtain⟨t101,A70,H⟩:=H
     replace H:(qzq.j0 k a0 t101)=some r:=H
     have A7:=U.mk A70
     clear A70
     have H':=U.mk H
     clear H
     have p6 : 0≤(0:Int):=(by omega)
     have q6 : 0 < a0.size:=(by have:(0:Int) < (a0.size:Int):=of_decide_eq_true (by assumption);omega)
     have hx6:∀ h : 0 < a0.size,((a0[0]'h).toNat:Int)=bt a0 0:=bt_at a0 0
     clear p6
     have qi6:(0 < (a0.size:Int))=True:=eq_true (of_decide_eq_true (by assumption))
     replace q6:=eq_true q6
     go_wp2_with (first|(go_at_call 130;(with_reducible refine(qkj.calls (bt a0 0) t101 _ A7.out).mono ?_);rintro e w' ⟨rfl,⟨nd,rfl⟩⟩))
     go_meet
     case rel=>exact⟨_,(t101),(by first|rfl|(simp;done)|(simp[*];done)),H',⟨by first|omega|exact Nat.le_refl _⟩,by repeat(first|exact Drawn0.refl _|apply Drawn0.step)⟩
    ·rw[if_neg c5] at H
     exact absurd H (by simp)
 case rest =>
  clear HC2
  try clear p2
  try clear c3
  try clear c3b0
  try clear c3b1
  try clear c4
  try clear c4b0
  try clear c4b1
  try clear c5
  try clear c5b0
  try clear c5b1
  try clear p6
  try clear q6
  try clear hx6
  try clear qi6
  try clear c7
  try clear p6
  try clear q6
  obtain⟨kq,x16_1,rfl,HA,HJ1,⟨mc1,rfl⟩⟩:=hcut
  cases kq with
  | zero=>exact absurd HA.out (by simp[qzq.j0])
  | succ kj1 =>
   have H:=HA.out
   clear HA
   simp only[qzq.j0] at H
   by_cases c8:x16_1=true
   ·subst c8
    have H1:(some false)=some r:=by rw[if_pos rfl] at H;exact H
    clear H
    have H:=H1
    clear H1
    obtain rfl:=Option.some.inj H
    go_wp2
    go_ret
    exact⟨by first|rfl|(simp;done)|(simp[*];done),by repeat(first|exact Drawn0.refl _|apply Drawn0.step)⟩
   ·replace c8:=jq9.mpr c8
    subst c8
    have H1:(qzq.l0 kj1 a0 0)=some r:=by rw[if_neg (show ¬ (false=true) by decide)] at H;exact H
    clear H
    have H:=H1
    clear H1
    have H':=U.mk H
    clear H
    go_wp2
    go_loopg [3] kj1 (fun kq v3 w'=>∃ (x3_2:Int),v3=.int .i64 x3_2∧U (qzq.l0 kq a0 x3_2=some r)∧U (kq≤kj1)∧Drawn0 w w')
    case atStart=>exact⟨(0),(by first|rfl|(simp;done)|(simp[*];done)),H',⟨Nat.le_refl _⟩,by repeat(first|exact Drawn0.refl _|apply Drawn0.step)⟩
    case round =>
     clear H'
     try clear c1
     try clear p2
     try clear c3
     try clear c3b0
     try clear c3b1
     try clear c4
     try clear c4b0
     try clear c4b1
     try clear c5
     try clear c5b0
     try clear c5b1
     try clear p6
     try clear q6
     try clear hx6
     try clear qi6
     try clear c7
     try clear c8
     try clear p2
     try clear p6
     try clear q6
     obtain⟨x3_2,rfl,HA,HK2,⟨m2,rfl⟩⟩:=hrel
     cases gk with
     | zero=>exact absurd HA.out (by simp[qzq.l0])
     | succ k2 =>
      have H:=HA.out
      clear HA
      simp only[qzq.l0] at H
      by_cases c9:x3_2 < (a0.size:Int)
      ·rw[if_pos c9] at H
       have c9b0:decide (x3_2 < (a0.size:Int))=true:=decide_eq_true c9
       clear c9
       by_cases c10 : 0≤x3_2
       ·rw[if_pos c10] at H
        have c10b0:decide (0≤x3_2)=true:=decide_eq_true c10
        clear c10
        replace H:=jq8.mp H
        obtain⟨t102,A120,H⟩:=H
        try dsimp only at H
        have A12:=U.mk A120
        clear A120
        by_cases c13:t102=true
        ·subst c13
         have H1:(qzq.l0 k2 a0 (wrap64 (x3_2 + 1)))=some r:=by rw[if_pos rfl] at H;exact H
         clear H
         have H:=H1
         clear H1
         have H':=U.mk H
         clear H
         have p11 : 0≤(x3_2:Int):=of_decide_eq_true (by assumption)
         have q11:x3_2 < (a0.size:Int):=of_decide_eq_true (by assumption)
         have hx11:=bt_at a0 x3_2
         replace p11:=eq_true p11
         replace q11:=eq_true q11
         go_wp2_with (first|((with_reducible refine jw (f:=131) rfl ?_);refine goesL_ (some 26) rfl rfl Try.func131 (by kernel_rfl) rfl #[.int .u8 (bt a0 x3_2)] rfl (by(try simp only[jq0,jq1,jq2]);first|done|rfl|(simp only[jq3,jq4];rfl)) ?_;(with_reducible refine(qkk.calls (bt a0 x3_2) true _ A12.out).mono ?_);rintro e w' ⟨rfl,⟨nd,rfl⟩⟩;refine⟨_,rfl,?_⟩))
         go_roundg k2
         case measure=>have:=HJ1.out;have:=HK2.out;omega
         case rel=>exact⟨(wrap64 (x3_2 + 1)),(by first|rfl|(simp;done)|(simp[*];done)),H',⟨by have:=HJ1.out;have:=HK2.out;omega⟩,by repeat(first|exact Drawn0.refl _|apply Drawn0.step)⟩
        ·replace c13:=jq9.mpr c13
         subst c13
         have H1:((qkj.f (bt a0 x3_2)).bind fun t103=>(if t103=true then(qzq.l0 k2 a0 (wrap64 (x3_2 + 1))) else(if (bt a0 x3_2)=95 then(qzq.l0 k2 a0 (wrap64 (x3_2 + 1))) else(some false))))=some r:=by rw[if_neg (show ¬ (false=true) by decide)] at H;exact H
         clear H
         have H:=H1
         clear H1
         replace H:=jq8.mp H
         obtain⟨t103,A150,H⟩:=H
         try dsimp only at H
         have A15:=U.mk A150
         clear A150
         by_cases c16:t103=true
         ·subst c16
          have H1:(qzq.l0 k2 a0 (wrap64 (x3_2 + 1)))=some r:=by rw[if_pos rfl] at H;exact H
          clear H
          have H:=H1
          clear H1
          have H':=U.mk H
          clear H
          have p11 : 0≤(x3_2:Int):=of_decide_eq_true (by assumption)
          have q11:x3_2 < (a0.size:Int):=of_decide_eq_true (by assumption)
          have hx11:=bt_at a0 x3_2
          replace p11:=eq_true p11
          replace q11:=eq_true q11
          go_wp2_with (first|((with_reducible refine jw (f:=131) rfl ?_);refine goesL_ (some 26) rfl rfl Try.func131 (by kernel_rfl) rfl #[.int .u8 (bt a0 x3_2)] rfl (by(try simp only[jq0,jq1,jq2]);first|done|rfl|(simp only[jq3,jq4];rfl)) ?_;(with_reducible refine(qkk.calls (bt a0 x3_2) false _ A12.out).mono ?_);rintro e w' ⟨rfl,⟨nd,rfl⟩⟩;refine⟨_,rfl,?_⟩;have p14 : 0≤(x3_2:Int):=of_decide_eq_true (by assumption);have q14:x3_2 < (a0.size:Int):=of_decide_eq_true (by assumption);have hx14:=bt_at a0 x3_2;replace p14:=eq_true p14;replace q14:=eq_true q14)|(go_at_call 130;(with_reducible refine(qkj.calls (bt a0 x3_2) true _ A15.out).mono ?_);rintro e w' ⟨rfl,⟨nd,rfl⟩⟩))
          go_roundg k2
          case measure=>have:=HJ1.out;have:=HK2.out;omega
          case rel=>exact⟨(wrap64 (x3_2 + 1)),(by first|rfl|(simp;done)|(simp[*];done)),H',⟨by have:=HJ1.out;have:=HK2.out;omega⟩,by repeat(first|exact Drawn0.refl _|apply Drawn0.step)⟩
         ·replace c16:=jq9.mpr c16
          subst c16
          have H1:(if (bt a0 x3_2)=95 then(qzq.l0 k2 a0 (wrap64 (x3_2 + 1))) else(some false))=some r:=by rw[if_neg (show ¬ (false=true) by decide)] at H;exact H
          clear H
          have H:=H1
          clear H1
          by_cases c18:(bt a0 x3_2)=95
          ·rw[if_pos c18] at H
           have c18b0:((bt a0 x3_2) == 95)=true:=beq_iff_eq.mpr c18
           have c18b1:((bt a0 x3_2) != 95)=false:=bne_eq_false_iff_eq.mpr c18
           clear c18
           have H':=U.mk H
           clear H
           have p11 : 0≤(x3_2:Int):=of_decide_eq_true (by assumption)
           have q11:x3_2 < (a0.size:Int):=of_decide_eq_true (by assumption)
           have hx11:=bt_at a0 x3_2
           replace p11:=eq_true p11
           replace q11:=eq_true q11
           go_wp2_with (first|((with_reducible refine jw (f:=131) rfl ?_);refine goesL_ (some 26) rfl rfl Try.func131 (by kernel_rfl) rfl #[.int .u8 (bt a0 x3_2)] rfl (by(try simp only[jq0,jq1,jq2]);first|done|rfl|(simp only[jq3,jq4];rfl)) ?_;(with_reducible refine(qkk.calls (bt a0 x3_2) false _ A12.out).mono ?_);rintro e w' ⟨rfl,⟨nd,rfl⟩⟩;refine⟨_,rfl,?_⟩;have p14 : 0≤(x3_2:Int):=of_decide_eq_true (by assumption);have q14:x3_2 < (a0.size:Int):=of_decide_eq_true (by assumption);have hx14:=bt_at a0 x3_2;replace p14:=eq_true p14;replace q14:=eq_true q14)|(go_at_call 130;(with_reducible refine(qkj.calls (bt a0 x3_2) false _ A15.out).mono ?_);rintro e w' ⟨rfl,⟨nd,rfl⟩⟩;have p17 : 0≤(x3_2:Int):=of_decide_eq_true (by assumption);have q17:x3_2 < (a0.size:Int):=of_decide_eq_true (by assumption);have hx17:=bt_at a0 x3_2;replace p17:=eq_true p17;replace q17:=eq_true q17))
           go_roundg k2
           case measure=>have:=HJ1.out;have:=HK2.out;omega
           case rel=>exact⟨(wrap64 (x3_2 + 1)),(by first|rfl|(simp;done)|(simp[*];done)),H',⟨by have:=HJ1.out;have:=HK2.out;omega⟩,by repeat(first|exact Drawn0.refl _|apply Drawn0.step)⟩
          ·rw[if_neg c18] at H
           have c18b0:((bt a0 x3_2) == 95)=false:=beq_eq_false_iff_ne.mpr c18
           have c18b1:((bt a0 x3_2) != 95)=true:=bne_iff_ne.mpr c18
           obtain rfl:=Option.some.inj H
           have p11 : 0≤(x3_2:Int):=of_decide_eq_true (by assumption)
           have q11:x3_2 < (a0.size:Int):=of_decide_eq_true (by assumption)
           have hx11:=bt_at a0 x3_2
           replace p11:=eq_true p11
           replace q11:=eq_true q11
           go_wp2_with (first|((with_reducible refine jw (f:=131) rfl ?_);refine goesL_ (some 26) rfl rfl Try.func131 (by kernel_rfl) rfl #[.int .u8 (bt a0 x3_2)] rfl (by(try simp only[jq0,jq1,jq2]);first|done|rfl|(simp only[jq3,jq4];rfl)) ?_;(with_reducible refine(qkk.calls (bt a0 x3_2) false _ A12.out).mono ?_);rintro e w' ⟨rfl,⟨nd,rfl⟩⟩;refine⟨_,rfl,?_⟩;have p14 : 0≤(x3_2:Int):=of_decide_eq_true (by assumption);have q14:x3_2 < (a0.size:Int):=of_decide_eq_true (by assumption);have hx14:=bt_at a0 x3_2;replace p14:=eq_true p14;replace q14:=eq_true q14)|(go_at_call 130;(with_reducible refine(qkj.calls (bt a0 x3_2) false _ A15.out).mono ?_);rintro e w' ⟨rfl,⟨nd,rfl⟩⟩;have p17 : 0≤(x3_2:Int):=of_decide_eq_true (by assumption);have q17:x3_2 < (a0.size:Int):=of_decide_eq_true (by assumption);have hx17:=bt_at a0 x3_2;replace p17:=eq_true p17;replace q17:=eq_true q17))
           go_ret
           exact⟨by first|rfl|(simp;done)|(simp[*];done),by repeat(first|exact Drawn0.refl _|apply Drawn0.step)⟩
       ·rw[if_neg c10] at H
        exact absurd H (by simp)
      ·rw[if_neg c9] at H
       have c9b0:decide (x3_2 < (a0.size:Int))=false:=decide_eq_false c9
       clear c9
       obtain rfl:=Option.some.inj H
       go_wp2
       go_ret
       exact⟨by first|rfl|(simp;done)|(simp[*];done),by repeat(first|exact Drawn0.refl _|apply Drawn0.step)⟩
end Go.Proofs.Ytccbjchlcelkgaa.Pr
namespace Go.Proofs.Ytccbjchlcelkgaa.Pr
open Go.RowKit Go.Proofs.YtccbjchlcelkgaaW.PrintWords Go.Proofs.YtccbjchlcelkgaaW.PrintLast Go.Proofs.YtccbjchlcelkgaaW.PrintMore
attribute [local go_sem] max2_int min2_int max_two min_two max_three min_three max_four min_four
set_option linter.unusedVariables false
set_option linter.unusedSimpArgs false
def qkw.l0:Nat→ByteArray→Int→Option (Bool)
 | 0,_,_=>none
 | k + 1,x0,x3=>if x3 < (x0.size:Int) then(if 0≤x3 then(if (bt x0 x3) < 32 then(some false) else(if (bt x0 x3) > 126 then(some false) else(qkw.l0 k x0 (wrap64 (x3 + 1))))) else(none)) else(some true)
def qkw.f (k:Nat) (a0:ByteArray):Option (Bool):=qkw.l0 k a0 0
theorem qkw.calls (k:Nat) (a0:ByteArray) (r:Bool) (w:World) (h:qkw.f k a0=some r) :
  Calls Try.prog 72 #[.string a0] w fun e w'=>e=.returned (.bool r)∧Drawn0 w w':=by
 have H:(qkw.l0 k a0 0)=some r:=h
 clear h
 have H':=U.mk H
 clear H
 go_enter Try.func72,Try.ntmps72
 go_wp2
 go_loopg [3] k (fun kq v3 w'=>∃ (x3_1:Int),v3=.int .i64 x3_1∧U (qkw.l0 kq a0 x3_1=some r)∧U (kq≤k)∧Drawn0 w w')
 case atStart=>exact⟨(0),(by first|rfl|(simp;done)|(simp[*];done)),H',⟨Nat.le_refl _⟩,by repeat(first|exact Drawn0.refl _|apply Drawn0.step)⟩
 case round =>
  clear H'
  obtain⟨x3_1,rfl,HA,HK1,⟨m1,rfl⟩⟩:=hrel
  cases gk with
  | zero=>exact absurd HA.out (by simp[qkw.l0])
  | succ k1 =>
   have H:=HA.out
   clear HA
   simp only[qkw.l0] at H
   by_cases c2:x3_1 < (a0.size:Int)
   ·rw[if_pos c2] at H
    have c2b0:decide (x3_1 < (a0.size:Int))=true:=decide_eq_true c2
    clear c2
    by_cases c3 : 0≤x3_1
    ·rw[if_pos c3] at H
     have c3b0:decide (0≤x3_1)=true:=decide_eq_true c3
     clear c3
     by_cases c5:(bt a0 x3_1) < 32
     ·rw[if_pos c5] at H
      have c5b0:decide ((bt a0 x3_1) < 32)=true:=decide_eq_true c5
      clear c5
      obtain rfl:=Option.some.inj H
      have p4 : 0≤(x3_1:Int):=of_decide_eq_true (by assumption)
      have q4:x3_1 < (a0.size:Int):=of_decide_eq_true (by assumption)
      have hx4:=bt_at a0 x3_1
      replace p4:=eq_true p4
      replace q4:=eq_true q4
      go_wp2
      go_ret
      exact⟨by first|rfl|(simp;done)|(simp[*];done),by repeat(first|exact Drawn0.refl _|apply Drawn0.step)⟩
     ·rw[if_neg c5] at H
      have c5b0:decide ((bt a0 x3_1) < 32)=false:=decide_eq_false c5
      clear c5
      by_cases c7:(bt a0 x3_1) > 126
      ·rw[if_pos c7] at H
       have c7b0:decide (126 < (bt a0 x3_1))=true:=decide_eq_true c7
       clear c7
       obtain rfl:=Option.some.inj H
       have p4 : 0≤(x3_1:Int):=of_decide_eq_true (by assumption)
       have q4:x3_1 < (a0.size:Int):=of_decide_eq_true (by assumption)
       have hx4:=bt_at a0 x3_1
       replace p4:=eq_true p4
       replace q4:=eq_true q4
       have p6 : 0≤(x3_1:Int):=of_decide_eq_true (by assumption)
       have q6:x3_1 < (a0.size:Int):=of_decide_eq_true (by assumption)
       have hx6:=bt_at a0 x3_1
       replace p6:=eq_true p6
       replace q6:=eq_true q6
       go_wp2
       go_ret
       exact⟨by first|rfl|(simp;done)|(simp[*];done),by repeat(first|exact Drawn0.refl _|apply Drawn0.step)⟩
      ·rw[if_neg c7] at H
       have c7b0:decide (126 < (bt a0 x3_1))=false:=decide_eq_false c7
       clear c7
       have H':=U.mk H
       clear H
       have p4 : 0≤(x3_1:Int):=of_decide_eq_true (by assumption)
       have q4:x3_1 < (a0.size:Int):=of_decide_eq_true (by assumption)
       have hx4:=bt_at a0 x3_1
       replace p4:=eq_true p4
       replace q4:=eq_true q4
       have p6 : 0≤(x3_1:Int):=of_decide_eq_true (by assumption)
       have q6:x3_1 < (a0.size:Int):=of_decide_eq_true (by assumption)
       have hx6:=bt_at a0 x3_1
       replace p6:=eq_true p6
       replace q6:=eq_true q6
       go_wp2
       go_roundg k1
       case measure=>have:=HK1.out;omega
       case rel=>exact⟨(wrap64 (x3_1 + 1)),(by first|rfl|(simp;done)|(simp[*];done)),H',⟨by have:=HK1.out;omega⟩,by repeat(first|exact Drawn0.refl _|apply Drawn0.step)⟩
    ·rw[if_neg c3] at H
     exact absurd H (by simp)
   ·rw[if_neg c2] at H
    have c2b0:decide (x3_1 < (a0.size:Int))=false:=decide_eq_false c2
    clear c2
    obtain rfl:=Option.some.inj H
    go_wp2
    go_ret
    exact⟨by first|rfl|(simp;done)|(simp[*];done),by repeat(first|exact Drawn0.refl _|apply Drawn0.step)⟩
end Go.Proofs.Ytccbjchlcelkgaa.Pr
namespace Go.Proofs.Ytccbjchlcelkgaa.Pr
open Go.RowKit Go.Proofs.YtccbjchlcelkgaaW.PrintWords Go.Proofs.YtccbjchlcelkgaaW.PrintLast Go.Proofs.YtccbjchlcelkgaaW.PrintMore
attribute [local go_sem] max2_int min2_int max_two min_two max_three min_three max_four min_four
set_option linter.unusedVariables false
set_option linter.unusedSimpArgs false
mutual
def qqx.j0:Nat→Bool→Int→Int→ByteArray→ByteArray→Option (Bool)
 | 0,_,_,_,_,_=>none
 | k + 1,x27,x102000,x102001,x102002,x102003=>if x27=true then(some false) else(if x102000=1 then(if x102001=0 then(some true) else(some (x102001 == 1))) else(if x102000=2 then(qqx.j1 k x102000 (x102000 == 2) x102000 x102001 x102002 x102003) else(qqx.j1 k x102000 (x102000 == 5) x102000 x102001 x102002 x102003)))
def qqx.j1:Nat→Int→Bool→Int→Int→ByteArray→ByteArray→Option (Bool)
 | 0,_,_,_,_,_,_=>none
 | k + 1,x29,x40,x102000,x102001,x102002,x102003=>if x40=true then(some true) else(if x29=3 then(if x102001=0 then(if (x102002.size:Int)≤200 then((qkw.f k x102002).bind fun t102=>(some t102)) else(some false)) else(some false)) else(if x29=4 then(if x102001=0 then((qzq.f k x102003).bind fun t103=>(if t103=true then(if (x102002.size:Int) ≥ 1 then(if (x102002.size:Int)≤200 then((qkw.f k x102002).bind fun t104=>(some t104)) else(some false)) else(some false)) else(some false))) else(some false)) else(if x29=6 then(if x102001 < 0 then(some false) else((qkv.f k 32).bind fun t105=>(if (wrap64 (Int.tdiv x102001 64)) > (wrap64 (t105 - 1)) then(some false) else(if (Int.tmod x102001 64) > 32 then(some false) else((qzk.f k x102000 x102001 x102002 x102003).bind fun bt106=>(if bt106.2=0 then(none) else(some ((Int.tmod bt106.1 bt106.2) == 0)))))))) else(if x29=7 then(if x102001 ≥ (-100000000000) then(some (decide (x102001≤100000000000))) else(some false)) else(some false)))))
end
def qqx.f (k:Nat) (a0_0:Int) (a0_1:Int) (a0_2:ByteArray) (a0_3:ByteArray):Option (Bool):=if a0_0=3 then(if a0_0=4 then(qqx.j0 k false a0_0 a0_1 a0_2 a0_3) else(qqx.j0 k (a0_3.toList != ([]:List UInt8)) a0_0 a0_1 a0_2 a0_3)) else(if a0_0=4 then(qqx.j0 k false a0_0 a0_1 a0_2 a0_3) else(if a0_2.toList=([]:List UInt8) then(qqx.j0 k (a0_3.toList != ([]:List UInt8)) a0_0 a0_1 a0_2 a0_3) else(qqx.j0 k true a0_0 a0_1 a0_2 a0_3)))
theorem qqx.calls (k:Nat) (a0_0:Int) (a0_1:Int) (a0_2:ByteArray) (a0_3:ByteArray) (r:Bool) (w:World) (h:qqx.f k a0_0 a0_1 a0_2 a0_3=some r) :
  Calls Try.prog 25 #[.agg #[.int .i64 a0_0,.int .i64 a0_1,.string a0_2,.string a0_3]] w fun e w'=>e=.returned (.bool r)∧Below w.heap.size w w':=by
 have hu34:=Try.underlying34
 have HB:=U.mk (Below.refl w.heap.size w)
 unfold qqx.f at h
 have H:=h
 clear h
 have HC2:=U.mk H
 clear H
 go_enter Try.func25,Try.ntmps25
 go_upto_region 1 with (first|((with_reducible refine gate_dst (N:=1) rfl ?_);(try (refine gate_guard (by rfl) ?_;dsimp only));refine box_event ?hg (N:=1) ?hd (cs:=#[.int .i64 a0_0,.int .i64 a0_1,.string a0_2,.string a0_3]) (t:=34) ?hr ?_;(case hd=>rfl);(case hg=>rfl);(case hr=>first|(go_simp;done)|(go_simp;rfl));intro gb101 hg w3 hbox hb;have BK101:=U.mk (hbox);have GW101:=U.mk ((by rw[hg];exact(zj (by solve_by_elim only[HB.out,G,J,qq])):w.heap.size≤gb101));have GE101:=U.mk ((by rw[hg];exact(zj (by solve_by_elim only[HB.out,G,J,qq])):w.heap.size≤gb101));replace HB:=U.mk (zz (by solve_by_elim only[HB.out,G,J,qq]) hb);clear hb hbox hg))
 repeat(go_quiet (first|((with_reducible refine gate_dst (N:=1) rfl ?_);(try (refine gate_guard (by rfl) ?_;dsimp only));refine box_event ?hg (N:=1) ?hd (cs:=#[.int .i64 a0_0,.int .i64 a0_1,.string a0_2,.string a0_3]) (t:=34) ?hr ?_;(case hd=>rfl);(case hg=>rfl);(case hr=>first|(go_simp;done)|(go_simp;rfl));intro gb101 hg w3 hbox hb;have BK101:=U.mk (hbox);have GW101:=U.mk ((by rw[hg];exact(zj (by solve_by_elim only[HB.out,G,J,qq])):w.heap.size≤gb101));have GE101:=U.mk ((by rw[hg];exact(zj (by solve_by_elim only[HB.out,G,J,qq])):w.heap.size≤gb101));replace HB:=U.mk (zz (by solve_by_elim only[HB.out,G,J,qq]) hb);clear hb hbox hg));go_upto_region 1 with (first|((with_reducible refine gate_dst (N:=1) rfl ?_);(try (refine gate_guard (by rfl) ?_;dsimp only));refine box_event ?hg (N:=1) ?hd (cs:=#[.int .i64 a0_0,.int .i64 a0_1,.string a0_2,.string a0_3]) (t:=34) ?hr ?_;(case hd=>rfl);(case hg=>rfl);(case hr=>first|(go_simp;done)|(go_simp;rfl));intro gb101 hg w3 hbox hb;have n0_:=U.mk (zz (by solve_by_elim only[HB.out,G,J,qq]) hb);have n1_:=U.mk (hbox);have n2_:=U.mk ((by rw[hg];exact(zj (by solve_by_elim only[HB.out,G,J,qq])):w.heap.size≤gb101));have n3_:=U.mk ((by rw[hg];exact(zj (by solve_by_elim only[HB.out,G,J,qq])):w.heap.size≤gb101));clear HB;have HB:=n0_;have BK101:=n1_;have GW101:=n2_;have GE101:=n3_;clear n0_ n1_ n2_ n3_;clear hb hbox hg)))
 (try simp only[Act.put,jq5,jq6,jq7])
 go_cut [27] (fun v27 wc=>∃ (kq:Nat) (x27_1:Bool),v27=.bool x27_1∧U (qqx.j0 kq x27_1 a0_0 a0_1 a0_2 a0_3=some r)∧U (kq≤k)∧U (wc.heap[gb101]? = some (.cells #[.int .i64 a0_0,.int .i64 a0_1,.string a0_2,.string a0_3] 34 (0,0)))∧U (Below w.heap.size w wc))
 case first =>
  have H:=HC2.out
  clear HC2
  by_cases c4:a0_0=3
  ·rw[if_pos c4] at H
   have c4b0:(a0_0 == 3)=true:=beq_iff_eq.mpr c4
   have c4b1:(a0_0 != 3)=false:=bne_eq_false_iff_eq.mpr c4
   clear c4
   (first|rw[c4b0]|(simp only[i64_w,i32_w];rw[c4b0])|skip)
   by_cases c5:a0_0=4
   ·rw[if_pos c5] at H
    have c5b0:(a0_0 == 4)=true:=beq_iff_eq.mpr c5
    have c5b1:(a0_0 != 4)=false:=bne_eq_false_iff_eq.mpr c5
    clear c5
    have H':=U.mk H
    clear H
    have hcz6_0:w3.cell? ⟨gb101,0,none⟩ = some (.int .i64 a0_0):=(qj BK101.out 0).trans rfl
    have hcz6_1:w3.cell? ⟨gb101,1,none⟩ = some (.int .i64 a0_1):=(qj BK101.out 1).trans rfl
    have hcz6_2:w3.cell? ⟨gb101,2,none⟩ = some (.string a0_2):=(qj BK101.out 2).trans rfl
    have hcz6_3:w3.cell? ⟨gb101,3,none⟩ = some (.string a0_3):=(qj BK101.out 3).trans rfl
    have hfz6_0:=qz BK101.out 0
    have hfz6_1:=qz BK101.out 1
    have hfz6_2:=qz BK101.out 2
    have hfz6_3:=qz BK101.out 3
    go_wp2
    repeat(go_quiet (fail);try go_wp2)
    go_meet
    case rel=>exact⟨_,(false),(by first|rfl|(simp;done)|(simp[*];done)|(generalize ByteArray.toList _=l_;cases l_ <;> first|rfl|(simp;done))),H',⟨by first|omega|exact Nat.le_refl _⟩,⟨by(with_reducible repeat(first|refine qw ?_ _|refine qx ?_|refine qv ?_ _));exact BK101.out⟩,⟨by repeat(first|(with_reducible first|exact HB.out|apply G|apply J|apply qq|refine qk ?_ GE101.out)|exact HB.out)⟩⟩
   ·rw[if_neg c5] at H
    have c5b0:(a0_0 == 4)=false:=beq_eq_false_iff_ne.mpr c5
    have c5b1:(a0_0 != 4)=true:=bne_iff_ne.mpr c5
    have H':=U.mk H
    clear H
    have hcz7_0:w3.cell? ⟨gb101,0,none⟩ = some (.int .i64 a0_0):=(qj BK101.out 0).trans rfl
    have hcz7_1:w3.cell? ⟨gb101,1,none⟩ = some (.int .i64 a0_1):=(qj BK101.out 1).trans rfl
    have hcz7_2:w3.cell? ⟨gb101,2,none⟩ = some (.string a0_2):=(qj BK101.out 2).trans rfl
    have hcz7_3:w3.cell? ⟨gb101,3,none⟩ = some (.string a0_3):=(qj BK101.out 3).trans rfl
    have hfz7_0:=qz BK101.out 0
    have hfz7_1:=qz BK101.out 1
    have hfz7_2:=qz BK101.out 2
    have hfz7_3:=qz BK101.out 3
    go_wp2
    repeat(go_quiet (fail);try go_wp2)
    go_meet
    case rel=>exact⟨_,((a0_3.toList != ([]:List UInt8))),(by first|rfl|(simp;done)|(simp[*];done)|(generalize ByteArray.toList _=l_;cases l_ <;> first|rfl|(simp;done))),H',⟨by first|omega|exact Nat.le_refl _⟩,⟨by(with_reducible repeat(first|refine qw ?_ _|refine qx ?_|refine qv ?_ _));exact BK101.out⟩,⟨by repeat(first|(with_reducible first|exact HB.out|apply G|apply J|apply qq|refine qk ?_ GE101.out)|exact HB.out)⟩⟩
  ·rw[if_neg c4] at H
   have c4b0:(a0_0 == 3)=false:=beq_eq_false_iff_ne.mpr c4
   have c4b1:(a0_0 != 3)=true:=bne_iff_ne.mpr c4
   (first|rw[c4b0]|(simp only[i64_w,i32_w];rw[c4b0])|skip)
   by_cases c8:a0_0=4
   ·rw[if_pos c8] at H
    have c8b0:(a0_0 == 4)=true:=beq_iff_eq.mpr c8
    have c8b1:(a0_0 != 4)=false:=bne_eq_false_iff_eq.mpr c8
    clear c8
    have H':=U.mk H
    clear H
    have hcz9_0:w3.cell? ⟨gb101,0,none⟩ = some (.int .i64 a0_0):=(qj BK101.out 0).trans rfl
    have hcz9_1:w3.cell? ⟨gb101,1,none⟩ = some (.int .i64 a0_1):=(qj BK101.out 1).trans rfl
    have hcz9_2:w3.cell? ⟨gb101,2,none⟩ = some (.string a0_2):=(qj BK101.out 2).trans rfl
    have hcz9_3:w3.cell? ⟨gb101,3,none⟩ = some (.string a0_3):=(qj BK101.out 3).trans rfl
    have hfz9_0:=qz BK101.out 0
    have hfz9_1:=qz BK101.out 1
    have hfz9_2:=qz BK101.out 2
    have hfz9_3:=qz BK101.out 3
    go_wp2
    repeat(go_quiet (fail);try go_wp2)
    go_meet
    case rel=>exact⟨_,(false),(by first|rfl|(simp;done)|(simp[*];done)|(generalize ByteArray.toList _=l_;cases l_ <;> first|rfl|(simp;done))),H',⟨by first|omega|exact Nat.le_refl _⟩,⟨by(with_reducible repeat(first|refine qw ?_ _|refine qx ?_|refine qv ?_ _));exact BK101.out⟩,⟨by repeat(first|(with_reducible first|exact HB.out|apply G|apply J|apply qq|refine qk ?_ GE101.out)|exact HB.out)⟩⟩
   ·rw[if_neg c8] at H
    have c8b0:(a0_0 == 4)=false:=beq_eq_false_iff_ne.mpr c8
    have c8b1:(a0_0 != 4)=true:=bne_iff_ne.mpr c8
    by_cases c10:a0_2.toList=([]:List UInt8)
    ·rw[if_pos c10] at H
     have c10b0:(a0_2.toList == ([]:List UInt8))=true:=beq_iff_eq.mpr c10
     have c10b1:(a0_2.toList != ([]:List UInt8))=false:=bne_eq_false_iff_eq.mpr c10
     clear c10
     have H':=U.mk H
     clear H
     have hcz11_0:w3.cell? ⟨gb101,0,none⟩ = some (.int .i64 a0_0):=(qj BK101.out 0).trans rfl
     have hcz11_1:w3.cell? ⟨gb101,1,none⟩ = some (.int .i64 a0_1):=(qj BK101.out 1).trans rfl
     have hcz11_2:w3.cell? ⟨gb101,2,none⟩ = some (.string a0_2):=(qj BK101.out 2).trans rfl
     have hcz11_3:w3.cell? ⟨gb101,3,none⟩ = some (.string a0_3):=(qj BK101.out 3).trans rfl
     have hfz11_0:=qz BK101.out 0
     have hfz11_1:=qz BK101.out 1
     have hfz11_2:=qz BK101.out 2
     have hfz11_3:=qz BK101.out 3
     go_wp2
     repeat(go_quiet (fail);try go_wp2)
     go_meet
     case rel=>exact⟨_,((a0_3.toList != ([]:List UInt8))),(by first|rfl|(simp;done)|(simp[*];done)|(generalize ByteArray.toList _=l_;cases l_ <;> first|rfl|(simp;done))),H',⟨by first|omega|exact Nat.le_refl _⟩,⟨by(with_reducible repeat(first|refine qw ?_ _|refine qx ?_|refine qv ?_ _));exact BK101.out⟩,⟨by repeat(first|(with_reducible first|exact HB.out|apply G|apply J|apply qq|refine qk ?_ GE101.out)|exact HB.out)⟩⟩
    ·rw[if_neg c10] at H
     have c10b0:(a0_2.toList == ([]:List UInt8))=false:=beq_eq_false_iff_ne.mpr c10
     have c10b1:(a0_2.toList != ([]:List UInt8))=true:=bne_iff_ne.mpr c10
     have H':=U.mk H
     clear H
     have hcz12_0:w3.cell? ⟨gb101,0,none⟩ = some (.int .i64 a0_0):=(qj BK101.out 0).trans rfl
     have hcz12_1:w3.cell? ⟨gb101,1,none⟩ = some (.int .i64 a0_1):=(qj BK101.out 1).trans rfl
     have hcz12_2:w3.cell? ⟨gb101,2,none⟩ = some (.string a0_2):=(qj BK101.out 2).trans rfl
     have hcz12_3:w3.cell? ⟨gb101,3,none⟩ = some (.string a0_3):=(qj BK101.out 3).trans rfl
     have hfz12_0:=qz BK101.out 0
     have hfz12_1:=qz BK101.out 1
     have hfz12_2:=qz BK101.out 2
     have hfz12_3:=qz BK101.out 3
     go_wp2
     repeat(go_quiet (fail);try go_wp2)
     go_meet
     case rel=>exact⟨_,(true),(by first|rfl|(simp;done)|(simp[*];done)|(generalize ByteArray.toList _=l_;cases l_ <;> first|rfl|(simp;done))),H',⟨by first|omega|exact Nat.le_refl _⟩,⟨by(with_reducible repeat(first|refine qw ?_ _|refine qx ?_|refine qv ?_ _));exact BK101.out⟩,⟨by repeat(first|(with_reducible first|exact HB.out|apply G|apply J|apply qq|refine qk ?_ GE101.out)|exact HB.out)⟩⟩
 case rest =>
  clear HC2
  try clear c1
  try clear c2
  try clear p2
  try clear c4
  try clear c4b0
  try clear c4b1
  try clear c5
  try clear c5b0
  try clear c5b1
  try clear c8
  try clear c8b0
  try clear c8b1
  try clear c10
  try clear c10b0
  try clear c10b1
  try clear hcz11_0
  try clear hcz11_1
  try clear hcz11_2
  try clear hcz11_3
  try clear hcz12_0
  try clear hcz12_1
  try clear hcz12_2
  try clear hcz12_3
  try clear hcz6_0
  try clear hcz6_1
  try clear hcz6_2
  try clear hcz6_3
  try clear hcz7_0
  try clear hcz7_1
  try clear hcz7_2
  try clear hcz7_3
  try clear hcz9_0
  try clear hcz9_1
  try clear hcz9_2
  try clear hcz9_3
  try clear hfz11_0
  try clear hfz11_1
  try clear hfz11_2
  try clear hfz11_3
  try clear hfz12_0
  try clear hfz12_1
  try clear hfz12_2
  try clear hfz12_3
  try clear hfz6_0
  try clear hfz6_1
  try clear hfz6_2
  try clear hfz6_3
  try clear hfz7_0
  try clear hfz7_1
  try clear hfz7_2
  try clear hfz7_3
  try clear hfz9_0
  try clear hfz9_1
  try clear hfz9_2
  try clear hfz9_3
  obtain⟨kq,x27_1,rfl,HA,HJ1,BK101,HB⟩:=hcut
  cases kq with
  | zero=>exact absurd HA.out (by simp[qqx.j0])
  | succ kj1 =>
   have H:=HA.out
   clear HA
   simp only[qqx.j0] at H
   by_cases c13:x27_1=true
   ·subst c13
    have H1:(some false)=some r:=by rw[if_pos rfl] at H;exact H
    clear H
    have H:=H1
    clear H1
    obtain rfl:=Option.some.inj H
    go_wp2
    repeat(go_quiet (fail);try go_wp2)
    go_ret
    exact⟨by first|rfl|(simp[*,jv,jk] <;> rfl),by repeat(first|(with_reducible first|exact HB.out|apply G|apply J|apply qq|refine qk ?_ GE101.out)|exact HB.out)⟩
   ·replace c13:=jq9.mpr c13
    subst c13
    have H1:(if a0_0=1 then(if a0_1=0 then(some true) else(some (a0_1 == 1))) else(if a0_0=2 then(qqx.j1 kj1 a0_0 (a0_0 == 2) a0_0 a0_1 a0_2 a0_3) else(qqx.j1 kj1 a0_0 (a0_0 == 5) a0_0 a0_1 a0_2 a0_3)))=some r:=by rw[if_neg (show ¬ (false=true) by decide)] at H;exact H
    clear H
    have H:=H1
    clear H1
    by_cases c14:a0_0=1
    ·rw[if_pos c14] at H
     have c14b0:(a0_0 == 1)=true:=beq_iff_eq.mpr c14
     have c14b1:(a0_0 != 1)=false:=bne_eq_false_iff_eq.mpr c14
     clear c14
     by_cases c15:a0_1=0
     ·rw[if_pos c15] at H
      have c15b0:(a0_1 == 0)=true:=beq_iff_eq.mpr c15
      have c15b1:(a0_1 != 0)=false:=bne_eq_false_iff_eq.mpr c15
      clear c15
      obtain rfl:=Option.some.inj H
      have hcz16_0:wc.cell? ⟨gb101,0,none⟩ = some (.int .i64 a0_0):=(qj BK101.out 0).trans rfl
      have hcz16_1:wc.cell? ⟨gb101,1,none⟩ = some (.int .i64 a0_1):=(qj BK101.out 1).trans rfl
      have hcz16_2:wc.cell? ⟨gb101,2,none⟩ = some (.string a0_2):=(qj BK101.out 2).trans rfl
      have hcz16_3:wc.cell? ⟨gb101,3,none⟩ = some (.string a0_3):=(qj BK101.out 3).trans rfl
      have hfz16_0:=qz BK101.out 0
      have hfz16_1:=qz BK101.out 1
      have hfz16_2:=qz BK101.out 2
      have hfz16_3:=qz BK101.out 3
      go_wp2
      repeat(go_quiet (fail);try go_wp2)
      go_ret
      exact⟨by first|rfl|(simp[*,jv,jk] <;> rfl),by repeat(first|(with_reducible first|exact HB.out|apply G|apply J|apply qq|refine qk ?_ GE101.out)|exact HB.out)⟩
     ·rw[if_neg c15] at H
      have c15b0:(a0_1 == 0)=false:=beq_eq_false_iff_ne.mpr c15
      have c15b1:(a0_1 != 0)=true:=bne_iff_ne.mpr c15
      obtain rfl:=Option.some.inj H
      have hcz17_0:wc.cell? ⟨gb101,0,none⟩ = some (.int .i64 a0_0):=(qj BK101.out 0).trans rfl
      have hcz17_1:wc.cell? ⟨gb101,1,none⟩ = some (.int .i64 a0_1):=(qj BK101.out 1).trans rfl
      have hcz17_2:wc.cell? ⟨gb101,2,none⟩ = some (.string a0_2):=(qj BK101.out 2).trans rfl
      have hcz17_3:wc.cell? ⟨gb101,3,none⟩ = some (.string a0_3):=(qj BK101.out 3).trans rfl
      have hfz17_0:=qz BK101.out 0
      have hfz17_1:=qz BK101.out 1
      have hfz17_2:=qz BK101.out 2
      have hfz17_3:=qz BK101.out 3
      go_wp2
      repeat(go_quiet (fail);try go_wp2)
      go_ret
      exact⟨by first|rfl|(simp[*,jv,jk] <;> rfl),by repeat(first|(with_reducible first|exact HB.out|apply G|apply J|apply qq|refine qk ?_ GE101.out)|exact HB.out)⟩
    ·rw[if_neg c14] at H
     have c14b0:(a0_0 == 1)=false:=beq_eq_false_iff_ne.mpr c14
     have c14b1:(a0_0 != 1)=true:=bne_iff_ne.mpr c14
     have HC18:=U.mk H
     clear H
     have hcz19_0:wc.cell? ⟨gb101,0,none⟩ = some (.int .i64 a0_0):=(qj BK101.out 0).trans rfl
     have hcz19_1:wc.cell? ⟨gb101,1,none⟩ = some (.int .i64 a0_1):=(qj BK101.out 1).trans rfl
     have hcz19_2:wc.cell? ⟨gb101,2,none⟩ = some (.string a0_2):=(qj BK101.out 2).trans rfl
     have hcz19_3:wc.cell? ⟨gb101,3,none⟩ = some (.string a0_3):=(qj BK101.out 3).trans rfl
     have hfz19_0:=qz BK101.out 0
     have hfz19_1:=qz BK101.out 1
     have hfz19_2:=qz BK101.out 2
     have hfz19_3:=qz BK101.out 3
     go_upto_if 40 with (fail)
     repeat(go_quiet (fail);go_upto_if 40 with (fail))
     go_cut [40] (fun v40 wc=>∃ (kq:Nat) (x40_17:Bool),v40=.bool x40_17∧U (qqx.j1 kq a0_0 x40_17 a0_0 a0_1 a0_2 a0_3=some r)∧U (kq≤kj1)∧U (wc.heap[gb101]? = some (.cells #[.int .i64 a0_0,.int .i64 a0_1,.string a0_2,.string a0_3] 34 (0,0)))∧U (Below w.heap.size w wc))
     case first =>
      have H:=HC18.out
      clear HC18
      by_cases c20:a0_0=2
      ·rw[if_pos c20] at H
       have c20b0:(a0_0 == 2)=true:=beq_iff_eq.mpr c20
       have c20b1:(a0_0 != 2)=false:=bne_eq_false_iff_eq.mpr c20
       clear c20
       (first|rw[c20b0]|(simp only[i64_w,i32_w];rw[c20b0])|skip)
       have H':=U.mk H
       clear H
       go_wp2
       repeat(go_quiet (fail);try go_wp2)
       go_meet
       case rel=>exact⟨_,((a0_0 == 2)),(by first|rfl|(simp;done)|(simp[*];done)|(generalize ByteArray.toList _=l_;cases l_ <;> first|rfl|(simp;done))),H',⟨by have:=HJ1.out;first|omega|exact Nat.le_refl _⟩,⟨by(with_reducible repeat(first|refine qw ?_ _|refine qx ?_|refine qv ?_ _));exact BK101.out⟩,⟨by repeat(first|(with_reducible first|exact HB.out|apply G|apply J|apply qq|refine qk ?_ GE101.out)|exact HB.out)⟩⟩
      ·rw[if_neg c20] at H
       have c20b0:(a0_0 == 2)=false:=beq_eq_false_iff_ne.mpr c20
       have c20b1:(a0_0 != 2)=true:=bne_iff_ne.mpr c20
       (first|rw[c20b0]|(simp only[i64_w,i32_w];rw[c20b0])|skip)
       have H':=U.mk H
       clear H
       go_wp2
       repeat(go_quiet (fail);try go_wp2)
       go_meet
       case rel=>exact⟨_,((a0_0 == 5)),(by first|rfl|(simp;done)|(simp[*];done)|(generalize ByteArray.toList _=l_;cases l_ <;> first|rfl|(simp;done))),H',⟨by have:=HJ1.out;first|omega|exact Nat.le_refl _⟩,⟨by(with_reducible repeat(first|refine qw ?_ _|refine qx ?_|refine qv ?_ _));exact BK101.out⟩,⟨by repeat(first|(with_reducible first|exact HB.out|apply G|apply J|apply qq|refine qk ?_ GE101.out)|exact HB.out)⟩⟩
     case rest =>
      clear HC18
      try clear c1
      try clear c2
      try clear p2
      try clear c4
      try clear c4b0
      try clear c4b1
      try clear c5
      try clear c5b0
      try clear c5b1
      try clear c8
      try clear c8b0
      try clear c8b1
      try clear c10
      try clear c10b0
      try clear c10b1
      try clear c13
      try clear c14
      try clear c14b0
      try clear c14b1
      try clear c15
      try clear c15b0
      try clear c15b1
      try clear c20
      try clear c20b0
      try clear c20b1
      try clear hcz11_0
      try clear hcz11_1
      try clear hcz11_2
      try clear hcz11_3
      try clear hcz12_0
      try clear hcz12_1
      try clear hcz12_2
      try clear hcz12_3
      try clear hcz16_0
      try clear hcz16_1
      try clear hcz16_2
      try clear hcz16_3
      try clear hcz17_0
      try clear hcz17_1
      try clear hcz17_2
      try clear hcz17_3
      try clear hcz19_0
      try clear hcz19_1
      try clear hcz19_2
      try clear hcz19_3
      try clear hcz6_0
      try clear hcz6_1
      try clear hcz6_2
      try clear hcz6_3
      try clear hcz7_0
      try clear hcz7_1
      try clear hcz7_2
      try clear hcz7_3
      try clear hcz9_0
      try clear hcz9_1
      try clear hcz9_2
      try clear hcz9_3
      try clear hfz11_0
      try clear hfz11_1
      try clear hfz11_2
      try clear hfz11_3
      try clear hfz12_0
      try clear hfz12_1
      try clear hfz12_2
      try clear hfz12_3
      try clear hfz16_0
      try clear hfz16_1
      try clear hfz16_2
      try clear hfz16_3
      try clear hfz17_0
      try clear hfz17_1
      try clear hfz17_2
      try clear hfz17_3
      try clear hfz19_0
      try clear hfz19_1
      try clear hfz19_2
      try clear hfz19_3
      try clear hfz6_0
      try clear hfz6_1
      try clear hfz6_2
      try clear hfz6_3
      try clear hfz7_0
      try clear hfz7_1
      try clear hfz7_2
      try clear hfz7_3
      try clear hfz9_0
      try clear hfz9_1
      try clear hfz9_2
      try clear hfz9_3
      try clear p2
      obtain⟨kq,x40_17,rfl,HA,HJ17,BK101,HB⟩:=hcut
      cases kq with
      | zero=>exact absurd HA.out (by simp[qqx.j1])
      | succ kj17 =>
       have H:=HA.out
       clear HA
       simp only[qqx.j1] at H
       by_cases c21:x40_17=true
       ·subst c21
        have H1:(some true)=some r:=by rw[if_pos rfl] at H;exact H
        clear H
        have H:=H1
        clear H1
        obtain rfl:=Option.some.inj H
        go_wp2
        repeat(go_quiet (fail);try go_wp2)
        go_ret
        exact⟨by first|rfl|(simp[*,jv,jk] <;> rfl),by repeat(first|(with_reducible first|exact HB.out|apply G|apply J|apply qq|refine qk ?_ GE101.out)|exact HB.out)⟩
       ·replace c21:=jq9.mpr c21
        subst c21
        have H1:(if a0_0=3 then(if a0_1=0 then(if (a0_2.size:Int)≤200 then((qkw.f kj17 a0_2).bind fun t102=>(some t102)) else(some false)) else(some false)) else(if a0_0=4 then(if a0_1=0 then((qzq.f kj17 a0_3).bind fun t103=>(if t103=true then(if (a0_2.size:Int) ≥ 1 then(if (a0_2.size:Int)≤200 then((qkw.f kj17 a0_2).bind fun t104=>(some t104)) else(some false)) else(some false)) else(some false))) else(some false)) else(if a0_0=6 then(if a0_1 < 0 then(some false) else((qkv.f kj17 32).bind fun t105=>(if (wrap64 (Int.tdiv a0_1 64)) > (wrap64 (t105 - 1)) then(some false) else(if (Int.tmod a0_1 64) > 32 then(some false) else((qzk.f kj17 a0_0 a0_1 a0_2 a0_3).bind fun bt106=>(if bt106.2=0 then(none) else(some ((Int.tmod bt106.1 bt106.2) == 0)))))))) else(if a0_0=7 then(if a0_1 ≥ (-100000000000) then(some (decide (a0_1≤100000000000))) else(some false)) else(some false)))))=some r:=by rw[if_neg (show ¬ (false=true) by decide)] at H;exact H
        clear H
        have H:=H1
        clear H1
        by_cases c22:a0_0=3
        ·rw[if_pos c22] at H
         have c22b0:(a0_0 == 3)=true:=beq_iff_eq.mpr c22
         have c22b1:(a0_0 != 3)=false:=bne_eq_false_iff_eq.mpr c22
         clear c22
         by_cases c23:a0_1=0
         ·rw[if_pos c23] at H
          have c23b0:(a0_1 == 0)=true:=beq_iff_eq.mpr c23
          have c23b1:(a0_1 != 0)=false:=bne_eq_false_iff_eq.mpr c23
          clear c23
          by_cases c24:(a0_2.size:Int)≤200
          ·rw[if_pos c24] at H
           have c24b0:decide ((a0_2.size:Int)≤200)=true:=decide_eq_true c24
           have c24b1:decide (a0_2.size≤200)=true:=decide_eq_true (by omega)
           clear c24
           replace H:=jq8.mp H
           obtain⟨t102,A250,H⟩:=H
           replace H:(some t102)=some r:=H
           have A25:=U.mk A250
           clear A250
           obtain rfl:=Option.some.inj H
           have hcz26_0:wc.cell? ⟨gb101,0,none⟩ = some (.int .i64 a0_0):=(qj BK101.out 0).trans rfl
           have hcz26_1:wc.cell? ⟨gb101,1,none⟩ = some (.int .i64 a0_1):=(qj BK101.out 1).trans rfl
           have hcz26_2:wc.cell? ⟨gb101,2,none⟩ = some (.string a0_2):=(qj BK101.out 2).trans rfl
           have hcz26_3:wc.cell? ⟨gb101,3,none⟩ = some (.string a0_3):=(qj BK101.out 3).trans rfl
           have hfz26_0:=qz BK101.out 0
           have hfz26_1:=qz BK101.out 1
           have hfz26_2:=qz BK101.out 2
           have hfz26_3:=qz BK101.out 3
           go_wp2_with (first|(go_at_call 72;(with_reducible refine(qkw.calls kj17 a0_2 t102 _ A25.out).mono ?_);rintro e w' ⟨rfl,⟨nd,rfl⟩⟩;(try first|exact⟨rfl,_,World.drewN_drewN _ _ _⟩|exact⟨rfl,_,Eq.trans (World.drewN_drewN _ _ _) (congrArg (World.drewN _) (Nat.add_assoc _ _ _))⟩)))
           repeat(go_quiet (first|(go_at_call 72;(with_reducible refine(qkw.calls kj17 a0_2 t102 _ A25.out).mono ?_);rintro e w' ⟨rfl,⟨nd,rfl⟩⟩;(try first|exact⟨rfl,_,World.drewN_drewN _ _ _⟩|exact⟨rfl,_,Eq.trans (World.drewN_drewN _ _ _) (congrArg (World.drewN _) (Nat.add_assoc _ _ _))⟩)));try go_wp2_with (first|(go_at_call 72;(with_reducible refine(qkw.calls kj17 a0_2 t102 _ A25.out).mono ?_);rintro e w' ⟨rfl,⟨nd,rfl⟩⟩;(try first|exact⟨rfl,_,World.drewN_drewN _ _ _⟩|exact⟨rfl,_,Eq.trans (World.drewN_drewN _ _ _) (congrArg (World.drewN _) (Nat.add_assoc _ _ _))⟩))))
           go_ret
           exact⟨by first|rfl|(simp[*,jv,jk] <;> rfl),by repeat(first|(with_reducible first|exact HB.out|apply G|apply J|apply qq|refine qk ?_ GE101.out)|exact HB.out)⟩
          ·rw[if_neg c24] at H
           have c24b0:decide ((a0_2.size:Int)≤200)=false:=decide_eq_false c24
           have c24b1:decide (a0_2.size≤200)=false:=decide_eq_false (by omega)
           clear c24
           obtain rfl:=Option.some.inj H
           have hcz27_0:wc.cell? ⟨gb101,0,none⟩ = some (.int .i64 a0_0):=(qj BK101.out 0).trans rfl
           have hcz27_1:wc.cell? ⟨gb101,1,none⟩ = some (.int .i64 a0_1):=(qj BK101.out 1).trans rfl
           have hcz27_2:wc.cell? ⟨gb101,2,none⟩ = some (.string a0_2):=(qj BK101.out 2).trans rfl
           have hcz27_3:wc.cell? ⟨gb101,3,none⟩ = some (.string a0_3):=(qj BK101.out 3).trans rfl
           have hfz27_0:=qz BK101.out 0
           have hfz27_1:=qz BK101.out 1
           have hfz27_2:=qz BK101.out 2
           have hfz27_3:=qz BK101.out 3
           go_wp2
           repeat(go_quiet (fail);try go_wp2)
           go_ret
           exact⟨by first|rfl|(simp[*,jv,jk] <;> rfl),by repeat(first|(with_reducible first|exact HB.out|apply G|apply J|apply qq|refine qk ?_ GE101.out)|exact HB.out)⟩
         ·rw[if_neg c23] at H
          have c23b0:(a0_1 == 0)=false:=beq_eq_false_iff_ne.mpr c23
          have c23b1:(a0_1 != 0)=true:=bne_iff_ne.mpr c23
          obtain rfl:=Option.some.inj H
          have hcz28_0:wc.cell? ⟨gb101,0,none⟩ = some (.int .i64 a0_0):=(qj BK101.out 0).trans rfl
          have hcz28_1:wc.cell? ⟨gb101,1,none⟩ = some (.int .i64 a0_1):=(qj BK101.out 1).trans rfl
          have hcz28_2:wc.cell? ⟨gb101,2,none⟩ = some (.string a0_2):=(qj BK101.out 2).trans rfl
          have hcz28_3:wc.cell? ⟨gb101,3,none⟩ = some (.string a0_3):=(qj BK101.out 3).trans rfl
          have hfz28_0:=qz BK101.out 0
          have hfz28_1:=qz BK101.out 1
          have hfz28_2:=qz BK101.out 2
          have hfz28_3:=qz BK101.out 3
          go_wp2
          repeat(go_quiet (fail);try go_wp2)
          go_ret
          exact⟨by first|rfl|(simp[*,jv,jk] <;> rfl),by repeat(first|(with_reducible first|exact HB.out|apply G|apply J|apply qq|refine qk ?_ GE101.out)|exact HB.out)⟩
        ·rw[if_neg c22] at H
         have c22b0:(a0_0 == 3)=false:=beq_eq_false_iff_ne.mpr c22
         have c22b1:(a0_0 != 3)=true:=bne_iff_ne.mpr c22
         by_cases c29:a0_0=4
         ·rw[if_pos c29] at H
          have c29b0:(a0_0 == 4)=true:=beq_iff_eq.mpr c29
          have c29b1:(a0_0 != 4)=false:=bne_eq_false_iff_eq.mpr c29
          clear c29
          by_cases c30:a0_1=0
          ·rw[if_pos c30] at H
           have c30b0:(a0_1 == 0)=true:=beq_iff_eq.mpr c30
           have c30b1:(a0_1 != 0)=false:=bne_eq_false_iff_eq.mpr c30
           clear c30
           replace H:=jq8.mp H
           obtain⟨t103,A310,H⟩:=H
           try dsimp only at H
           have A31:=U.mk A310
           clear A310
           by_cases c32:t103=true
           ·subst c32
            have H1:(if (a0_2.size:Int) ≥ 1 then(if (a0_2.size:Int)≤200 then((qkw.f kj17 a0_2).bind fun t104=>(some t104)) else(some false)) else(some false))=some r:=by rw[if_pos rfl] at H;exact H
            clear H
            have H:=H1
            clear H1
            by_cases c33:(a0_2.size:Int) ≥ 1
            ·rw[if_pos c33] at H
             have c33b0:decide (1≤(a0_2.size:Int))=true:=decide_eq_true c33
             have c33b1:decide (1≤a0_2.size)=true:=decide_eq_true (by omega)
             clear c33
             by_cases c34:(a0_2.size:Int)≤200
             ·rw[if_pos c34] at H
              have c34b0:decide ((a0_2.size:Int)≤200)=true:=decide_eq_true c34
              have c34b1:decide (a0_2.size≤200)=true:=decide_eq_true (by omega)
              clear c34
              replace H:=jq8.mp H
              obtain⟨t104,A350,H⟩:=H
              replace H:(some t104)=some r:=H
              have A35:=U.mk A350
              clear A350
              obtain rfl:=Option.some.inj H
              have hcz36_0:wc.cell? ⟨gb101,0,none⟩ = some (.int .i64 a0_0):=(qj BK101.out 0).trans rfl
              have hcz36_1:wc.cell? ⟨gb101,1,none⟩ = some (.int .i64 a0_1):=(qj BK101.out 1).trans rfl
              have hcz36_2:wc.cell? ⟨gb101,2,none⟩ = some (.string a0_2):=(qj BK101.out 2).trans rfl
              have hcz36_3:wc.cell? ⟨gb101,3,none⟩ = some (.string a0_3):=(qj BK101.out 3).trans rfl
              have hfz36_0:=qz BK101.out 0
              have hfz36_1:=qz BK101.out 1
              have hfz36_2:=qz BK101.out 2
              have hfz36_3:=qz BK101.out 3
              go_wp2_with (first|(go_at_call 73;(with_reducible refine(qzq.calls kj17 a0_3 true _ A31.out).mono ?_);rintro e w' ⟨rfl,⟨nd,rfl⟩⟩;(try first|exact⟨rfl,_,World.drewN_drewN _ _ _⟩|exact⟨rfl,_,Eq.trans (World.drewN_drewN _ _ _) (congrArg (World.drewN _) (Nat.add_assoc _ _ _))⟩))|(go_at_call 72;(with_reducible refine(qkw.calls kj17 a0_2 t104 _ A35.out).mono ?_);rintro e w' ⟨rfl,⟨nd,rfl⟩⟩;(try first|exact⟨rfl,_,World.drewN_drewN _ _ _⟩|exact⟨rfl,_,Eq.trans (World.drewN_drewN _ _ _) (congrArg (World.drewN _) (Nat.add_assoc _ _ _))⟩)))
              repeat(go_quiet (first|(go_at_call 73;(with_reducible refine(qzq.calls kj17 a0_3 true _ A31.out).mono ?_);rintro e w' ⟨rfl,⟨nd,rfl⟩⟩;(try first|exact⟨rfl,_,World.drewN_drewN _ _ _⟩|exact⟨rfl,_,Eq.trans (World.drewN_drewN _ _ _) (congrArg (World.drewN _) (Nat.add_assoc _ _ _))⟩))|(go_at_call 72;(with_reducible refine(qkw.calls kj17 a0_2 t104 _ A35.out).mono ?_);rintro e w' ⟨rfl,⟨nd,rfl⟩⟩;(try first|exact⟨rfl,_,World.drewN_drewN _ _ _⟩|exact⟨rfl,_,Eq.trans (World.drewN_drewN _ _ _) (congrArg (World.drewN _) (Nat.add_assoc _ _ _))⟩)));try go_wp2_with (first|(go_at_call 73;(with_reducible refine(qzq.calls kj17 a0_3 true _ A31.out).mono ?_);rintro e w' ⟨rfl,⟨nd,rfl⟩⟩;(try first|exact⟨rfl,_,World.drewN_drewN _ _ _⟩|exact⟨rfl,_,Eq.trans (World.drewN_drewN _ _ _) (congrArg (World.drewN _) (Nat.add_assoc _ _ _))⟩))|(go_at_call 72;(with_reducible refine(qkw.calls kj17 a0_2 t104 _ A35.out).mono ?_);rintro e w' ⟨rfl,⟨nd,rfl⟩⟩;(try first|exact⟨rfl,_,World.drewN_drewN _ _ _⟩|exact⟨rfl,_,Eq.trans (World.drewN_drewN _ _ _) (congrArg (World.drewN _) (Nat.add_assoc _ _ _))⟩))))
              go_ret
              exact⟨by first|rfl|(simp[*,jv,jk] <;> rfl),by repeat(first|(with_reducible first|exact HB.out|apply G|apply J|apply qq|refine qk ?_ GE101.out)|exact HB.out)⟩
             ·rw[if_neg c34] at H
              have c34b0:decide ((a0_2.size:Int)≤200)=false:=decide_eq_false c34
              have c34b1:decide (a0_2.size≤200)=false:=decide_eq_false (by omega)
              clear c34
              obtain rfl:=Option.some.inj H
              have hcz37_0:wc.cell? ⟨gb101,0,none⟩ = some (.int .i64 a0_0):=(qj BK101.out 0).trans rfl
              have hcz37_1:wc.cell? ⟨gb101,1,none⟩ = some (.int .i64 a0_1):=(qj BK101.out 1).trans rfl
              have hcz37_2:wc.cell? ⟨gb101,2,none⟩ = some (.string a0_2):=(qj BK101.out 2).trans rfl
              have hcz37_3:wc.cell? ⟨gb101,3,none⟩ = some (.string a0_3):=(qj BK101.out 3).trans rfl
              have hfz37_0:=qz BK101.out 0
              have hfz37_1:=qz BK101.out 1
              have hfz37_2:=qz BK101.out 2
              have hfz37_3:=qz BK101.out 3
              go_wp2_with (first|(go_at_call 73;(with_reducible refine(qzq.calls kj17 a0_3 true _ A31.out).mono ?_);rintro e w' ⟨rfl,⟨nd,rfl⟩⟩;(try first|exact⟨rfl,_,World.drewN_drewN _ _ _⟩|exact⟨rfl,_,Eq.trans (World.drewN_drewN _ _ _) (congrArg (World.drewN _) (Nat.add_assoc _ _ _))⟩)))
              repeat(go_quiet (first|(go_at_call 73;(with_reducible refine(qzq.calls kj17 a0_3 true _ A31.out).mono ?_);rintro e w' ⟨rfl,⟨nd,rfl⟩⟩;(try first|exact⟨rfl,_,World.drewN_drewN _ _ _⟩|exact⟨rfl,_,Eq.trans (World.drewN_drewN _ _ _) (congrArg (World.drewN _) (Nat.add_assoc _ _ _))⟩)));try go_wp2_with (first|(go_at_call 73;(with_reducible refine(qzq.calls kj17 a0_3 true _ A31.out).mono ?_);rintro e w' ⟨rfl,⟨nd,rfl⟩⟩;(try first|exact⟨rfl,_,World.drewN_drewN _ _ _⟩|exact⟨rfl,_,Eq.trans (World.drewN_drewN _ _ _) (congrArg (World.drewN _) (Nat.add_assoc _ _ _))⟩))))
              go_ret
              exact⟨by first|rfl|(simp[*,jv,jk] <;> rfl),by repeat(first|(with_reducible first|exact HB.out|apply G|apply J|apply qq|refine qk ?_ GE101.out)|exact HB.out)⟩
            ·rw[if_neg c33] at H
             have c33b0:decide (1≤(a0_2.size:Int))=false:=decide_eq_false c33
             have c33b1:decide (1≤a0_2.size)=false:=decide_eq_false (by omega)
             clear c33
             obtain rfl:=Option.some.inj H
             have hcz38_0:wc.cell? ⟨gb101,0,none⟩ = some (.int .i64 a0_0):=(qj BK101.out 0).trans rfl
             have hcz38_1:wc.cell? ⟨gb101,1,none⟩ = some (.int .i64 a0_1):=(qj BK101.out 1).trans rfl
             have hcz38_2:wc.cell? ⟨gb101,2,none⟩ = some (.string a0_2):=(qj BK101.out 2).trans rfl
             have hcz38_3:wc.cell? ⟨gb101,3,none⟩ = some (.string a0_3):=(qj BK101.out 3).trans rfl
             have hfz38_0:=qz BK101.out 0
             have hfz38_1:=qz BK101.out 1
             have hfz38_2:=qz BK101.out 2
             have hfz38_3:=qz BK101.out 3
             go_wp2_with (first|(go_at_call 73;(with_reducible refine(qzq.calls kj17 a0_3 true _ A31.out).mono ?_);rintro e w' ⟨rfl,⟨nd,rfl⟩⟩;(try first|exact⟨rfl,_,World.drewN_drewN _ _ _⟩|exact⟨rfl,_,Eq.trans (World.drewN_drewN _ _ _) (congrArg (World.drewN _) (Nat.add_assoc _ _ _))⟩)))
             repeat(go_quiet (first|(go_at_call 73;(with_reducible refine(qzq.calls kj17 a0_3 true _ A31.out).mono ?_);rintro e w' ⟨rfl,⟨nd,rfl⟩⟩;(try first|exact⟨rfl,_,World.drewN_drewN _ _ _⟩|exact⟨rfl,_,Eq.trans (World.drewN_drewN _ _ _) (congrArg (World.drewN _) (Nat.add_assoc _ _ _))⟩)));try go_wp2_with (first|(go_at_call 73;(with_reducible refine(qzq.calls kj17 a0_3 true _ A31.out).mono ?_);rintro e w' ⟨rfl,⟨nd,rfl⟩⟩;(try first|exact⟨rfl,_,World.drewN_drewN _ _ _⟩|exact⟨rfl,_,Eq.trans (World.drewN_drewN _ _ _) (congrArg (World.drewN _) (Nat.add_assoc _ _ _))⟩))))
             go_ret
             exact⟨by first|rfl|(simp[*,jv,jk] <;> rfl),by repeat(first|(with_reducible first|exact HB.out|apply G|apply J|apply qq|refine qk ?_ GE101.out)|exact HB.out)⟩
           ·replace c32:=jq9.mpr c32
            subst c32
            have H1:(some false)=some r:=by rw[if_neg (show ¬ (false=true) by decide)] at H;exact H
            clear H
            have H:=H1
            clear H1
            obtain rfl:=Option.some.inj H
            have hcz39_0:wc.cell? ⟨gb101,0,none⟩ = some (.int .i64 a0_0):=(qj BK101.out 0).trans rfl
            have hcz39_1:wc.cell? ⟨gb101,1,none⟩ = some (.int .i64 a0_1):=(qj BK101.out 1).trans rfl
            have hcz39_2:wc.cell? ⟨gb101,2,none⟩ = some (.string a0_2):=(qj BK101.out 2).trans rfl
            have hcz39_3:wc.cell? ⟨gb101,3,none⟩ = some (.string a0_3):=(qj BK101.out 3).trans rfl
            have hfz39_0:=qz BK101.out 0
            have hfz39_1:=qz BK101.out 1
            have hfz39_2:=qz BK101.out 2
            have hfz39_3:=qz BK101.out 3
            go_wp2_with (first|(go_at_call 73;(with_reducible refine(qzq.calls kj17 a0_3 false _ A31.out).mono ?_);rintro e w' ⟨rfl,⟨nd,rfl⟩⟩;(try first|exact⟨rfl,_,World.drewN_drewN _ _ _⟩|exact⟨rfl,_,Eq.trans (World.drewN_drewN _ _ _) (congrArg (World.drewN _) (Nat.add_assoc _ _ _))⟩)))
            repeat(go_quiet (first|(go_at_call 73;(with_reducible refine(qzq.calls kj17 a0_3 false _ A31.out).mono ?_);rintro e w' ⟨rfl,⟨nd,rfl⟩⟩;(try first|exact⟨rfl,_,World.drewN_drewN _ _ _⟩|exact⟨rfl,_,Eq.trans (World.drewN_drewN _ _ _) (congrArg (World.drewN _) (Nat.add_assoc _ _ _))⟩)));try go_wp2_with (first|(go_at_call 73;(with_reducible refine(qzq.calls kj17 a0_3 false _ A31.out).mono ?_);rintro e w' ⟨rfl,⟨nd,rfl⟩⟩;(try first|exact⟨rfl,_,World.drewN_drewN _ _ _⟩|exact⟨rfl,_,Eq.trans (World.drewN_drewN _ _ _) (congrArg (World.drewN _) (Nat.add_assoc _ _ _))⟩))))
            go_ret
            exact⟨by first|rfl|(simp[*,jv,jk] <;> rfl),by repeat(first|(with_reducible first|exact HB.out|apply G|apply J|apply qq|refine qk ?_ GE101.out)|exact HB.out)⟩
          ·rw[if_neg c30] at H
           have c30b0:(a0_1 == 0)=false:=beq_eq_false_iff_ne.mpr c30
           have c30b1:(a0_1 != 0)=true:=bne_iff_ne.mpr c30
           obtain rfl:=Option.some.inj H
           have hcz40_0:wc.cell? ⟨gb101,0,none⟩ = some (.int .i64 a0_0):=(qj BK101.out 0).trans rfl
           have hcz40_1:wc.cell? ⟨gb101,1,none⟩ = some (.int .i64 a0_1):=(qj BK101.out 1).trans rfl
           have hcz40_2:wc.cell? ⟨gb101,2,none⟩ = some (.string a0_2):=(qj BK101.out 2).trans rfl
           have hcz40_3:wc.cell? ⟨gb101,3,none⟩ = some (.string a0_3):=(qj BK101.out 3).trans rfl
           have hfz40_0:=qz BK101.out 0
           have hfz40_1:=qz BK101.out 1
           have hfz40_2:=qz BK101.out 2
           have hfz40_3:=qz BK101.out 3
           go_wp2
           repeat(go_quiet (fail);try go_wp2)
           go_ret
           exact⟨by first|rfl|(simp[*,jv,jk] <;> rfl),by repeat(first|(with_reducible first|exact HB.out|apply G|apply J|apply qq|refine qk ?_ GE101.out)|exact HB.out)⟩
         ·rw[if_neg c29] at H
          have c29b0:(a0_0 == 4)=false:=beq_eq_false_iff_ne.mpr c29
          have c29b1:(a0_0 != 4)=true:=bne_iff_ne.mpr c29
          by_cases c41:a0_0=6
          ·rw[if_pos c41] at H
           have c41b0:(a0_0 == 6)=true:=beq_iff_eq.mpr c41
           have c41b1:(a0_0 != 6)=false:=bne_eq_false_iff_eq.mpr c41
           clear c41
           by_cases c42:a0_1 < 0
           ·rw[if_pos c42] at H
            have c42b0:decide (a0_1 < 0)=true:=decide_eq_true c42
            clear c42
            obtain rfl:=Option.some.inj H
            have hcz43_0:wc.cell? ⟨gb101,0,none⟩ = some (.int .i64 a0_0):=(qj BK101.out 0).trans rfl
            have hcz43_1:wc.cell? ⟨gb101,1,none⟩ = some (.int .i64 a0_1):=(qj BK101.out 1).trans rfl
            have hcz43_2:wc.cell? ⟨gb101,2,none⟩ = some (.string a0_2):=(qj BK101.out 2).trans rfl
            have hcz43_3:wc.cell? ⟨gb101,3,none⟩ = some (.string a0_3):=(qj BK101.out 3).trans rfl
            have hfz43_0:=qz BK101.out 0
            have hfz43_1:=qz BK101.out 1
            have hfz43_2:=qz BK101.out 2
            have hfz43_3:=qz BK101.out 3
            go_wp2
            repeat(go_quiet (fail);try go_wp2)
            go_ret
            exact⟨by first|rfl|(simp[*,jv,jk] <;> rfl),by repeat(first|(with_reducible first|exact HB.out|apply G|apply J|apply qq|refine qk ?_ GE101.out)|exact HB.out)⟩
           ·rw[if_neg c42] at H
            have c42b0:decide (a0_1 < 0)=false:=decide_eq_false c42
            clear c42
            replace H:=jq8.mp H
            obtain⟨t105,A440,H⟩:=H
            try dsimp only at H
            have A44:=U.mk A440
            clear A440
            by_cases c45:(wrap64 (Int.tdiv a0_1 64)) > (wrap64 (t105 - 1))
            ·rw[if_pos c45] at H
             have c45b0:decide ((wrap64 (t105 - 1)) < (wrap64 (Int.tdiv a0_1 64)))=true:=decide_eq_true c45
             clear c45
             obtain rfl:=Option.some.inj H
             have hcz46_0:wc.cell? ⟨gb101,0,none⟩ = some (.int .i64 a0_0):=(qj BK101.out 0).trans rfl
             have hcz46_1:wc.cell? ⟨gb101,1,none⟩ = some (.int .i64 a0_1):=(qj BK101.out 1).trans rfl
             have hcz46_2:wc.cell? ⟨gb101,2,none⟩ = some (.string a0_2):=(qj BK101.out 2).trans rfl
             have hcz46_3:wc.cell? ⟨gb101,3,none⟩ = some (.string a0_3):=(qj BK101.out 3).trans rfl
             have hfz46_0:=qz BK101.out 0
             have hfz46_1:=qz BK101.out 1
             have hfz46_2:=qz BK101.out 2
             have hfz46_3:=qz BK101.out 3
             go_wp2_with (first|(go_at_call 74;(with_reducible refine(qkv.calls kj17 32 t105 _ A44.out).mono ?_);rintro e w' ⟨rfl,⟨nd,rfl⟩⟩;(try first|exact⟨rfl,_,World.drewN_drewN _ _ _⟩|exact⟨rfl,_,Eq.trans (World.drewN_drewN _ _ _) (congrArg (World.drewN _) (Nat.add_assoc _ _ _))⟩)))
             repeat(go_quiet (first|(go_at_call 74;(with_reducible refine(qkv.calls kj17 32 t105 _ A44.out).mono ?_);rintro e w' ⟨rfl,⟨nd,rfl⟩⟩;(try first|exact⟨rfl,_,World.drewN_drewN _ _ _⟩|exact⟨rfl,_,Eq.trans (World.drewN_drewN _ _ _) (congrArg (World.drewN _) (Nat.add_assoc _ _ _))⟩)));try go_wp2_with (first|(go_at_call 74;(with_reducible refine(qkv.calls kj17 32 t105 _ A44.out).mono ?_);rintro e w' ⟨rfl,⟨nd,rfl⟩⟩;(try first|exact⟨rfl,_,World.drewN_drewN _ _ _⟩|exact⟨rfl,_,Eq.trans (World.drewN_drewN _ _ _) (congrArg (World.drewN _) (Nat.add_assoc _ _ _))⟩))))
             go_ret
             exact⟨by first|rfl|(simp[*,jv,jk] <;> rfl),by repeat(first|(with_reducible first|exact HB.out|apply G|apply J|apply qq|refine qk ?_ GE101.out)|exact HB.out)⟩
            ·rw[if_neg c45] at H
             have c45b0:decide ((wrap64 (t105 - 1)) < (wrap64 (Int.tdiv a0_1 64)))=false:=decide_eq_false c45
             clear c45
             by_cases c47:(Int.tmod a0_1 64) > 32
             ·rw[if_pos c47] at H
              have c47b0:decide (32 < (Int.tmod a0_1 64))=true:=decide_eq_true c47
              clear c47
              obtain rfl:=Option.some.inj H
              have hcz48_0:wc.cell? ⟨gb101,0,none⟩ = some (.int .i64 a0_0):=(qj BK101.out 0).trans rfl
              have hcz48_1:wc.cell? ⟨gb101,1,none⟩ = some (.int .i64 a0_1):=(qj BK101.out 1).trans rfl
              have hcz48_2:wc.cell? ⟨gb101,2,none⟩ = some (.string a0_2):=(qj BK101.out 2).trans rfl
              have hcz48_3:wc.cell? ⟨gb101,3,none⟩ = some (.string a0_3):=(qj BK101.out 3).trans rfl
              have hfz48_0:=qz BK101.out 0
              have hfz48_1:=qz BK101.out 1
              have hfz48_2:=qz BK101.out 2
              have hfz48_3:=qz BK101.out 3
              go_wp2_with (first|(go_at_call 74;(with_reducible refine(qkv.calls kj17 32 t105 _ A44.out).mono ?_);rintro e w' ⟨rfl,⟨nd,rfl⟩⟩;(try first|exact⟨rfl,_,World.drewN_drewN _ _ _⟩|exact⟨rfl,_,Eq.trans (World.drewN_drewN _ _ _) (congrArg (World.drewN _) (Nat.add_assoc _ _ _))⟩)))
              repeat(go_quiet (first|(go_at_call 74;(with_reducible refine(qkv.calls kj17 32 t105 _ A44.out).mono ?_);rintro e w' ⟨rfl,⟨nd,rfl⟩⟩;(try first|exact⟨rfl,_,World.drewN_drewN _ _ _⟩|exact⟨rfl,_,Eq.trans (World.drewN_drewN _ _ _) (congrArg (World.drewN _) (Nat.add_assoc _ _ _))⟩)));try go_wp2_with (first|(go_at_call 74;(with_reducible refine(qkv.calls kj17 32 t105 _ A44.out).mono ?_);rintro e w' ⟨rfl,⟨nd,rfl⟩⟩;(try first|exact⟨rfl,_,World.drewN_drewN _ _ _⟩|exact⟨rfl,_,Eq.trans (World.drewN_drewN _ _ _) (congrArg (World.drewN _) (Nat.add_assoc _ _ _))⟩))))
              go_ret
              exact⟨by first|rfl|(simp[*,jv,jk] <;> rfl),by repeat(first|(with_reducible first|exact HB.out|apply G|apply J|apply qq|refine qk ?_ GE101.out)|exact HB.out)⟩
             ·rw[if_neg c47] at H
              have c47b0:decide (32 < (Int.tmod a0_1 64))=false:=decide_eq_false c47
              clear c47
              replace H:=jq8.mp H
              obtain⟨⟨t106,t107⟩,A490,H⟩:=H
              try dsimp only at H
              have A49:=U.mk A490
              clear A490
              by_cases c50:t107=0
              ·rw[if_pos c50] at H
               exact absurd H (by simp)
              ·rw[if_neg c50] at H
               have c50b0:(t107 == 0)=false:=beq_eq_false_iff_ne.mpr c50
               have c50b1:(t107 != 0)=true:=bne_iff_ne.mpr c50
               obtain rfl:=Option.some.inj H
               have hcz51_0:wc.cell? ⟨gb101,0,none⟩ = some (.int .i64 a0_0):=(qj BK101.out 0).trans rfl
               have hcz51_1:wc.cell? ⟨gb101,1,none⟩ = some (.int .i64 a0_1):=(qj BK101.out 1).trans rfl
               have hcz51_2:wc.cell? ⟨gb101,2,none⟩ = some (.string a0_2):=(qj BK101.out 2).trans rfl
               have hcz51_3:wc.cell? ⟨gb101,3,none⟩ = some (.string a0_3):=(qj BK101.out 3).trans rfl
               have hfz51_0:=qz BK101.out 0
               have hfz51_1:=qz BK101.out 1
               have hfz51_2:=qz BK101.out 2
               have hfz51_3:=qz BK101.out 3
               go_wp2_with (first|(go_at_call 74;(with_reducible refine(qkv.calls kj17 32 t105 _ A44.out).mono ?_);rintro e w' ⟨rfl,⟨nd,rfl⟩⟩;(try first|exact⟨rfl,_,World.drewN_drewN _ _ _⟩|exact⟨rfl,_,Eq.trans (World.drewN_drewN _ _ _) (congrArg (World.drewN _) (Nat.add_assoc _ _ _))⟩))|(go_at_call 71;(with_reducible refine(qzk.calls kj17 a0_0 a0_1 a0_2 a0_3 t106 t107 _ A49.out).mono ?_);rintro e w52 ⟨rfl,hb⟩;replace BK101:=U.mk (kv (g:=gb101) (o:=.cells #[.int .i64 a0_0,.int .i64 a0_1,.string a0_2,.string a0_3] 34 (0,0)) (by solve_by_elim only[BK101.out,qw,qx,qv]) hb);replace HB:=U.mk (zz (by solve_by_elim (maxDepth:=20) only[HB.out,G,J,qq,qk,GE101.out]) hb);(try clear hb)))
               repeat(go_quiet (first|(go_at_call 74;(with_reducible refine(qkv.calls kj17 32 t105 _ A44.out).mono ?_);rintro e w' ⟨rfl,⟨nd,rfl⟩⟩;(try first|exact⟨rfl,_,World.drewN_drewN _ _ _⟩|exact⟨rfl,_,Eq.trans (World.drewN_drewN _ _ _) (congrArg (World.drewN _) (Nat.add_assoc _ _ _))⟩))|(go_at_call 71;(with_reducible refine(qzk.calls kj17 a0_0 a0_1 a0_2 a0_3 t106 t107 _ A49.out).mono ?_);rintro e w52 ⟨rfl,hb⟩;replace BK101:=U.mk (kv (g:=gb101) (o:=.cells #[.int .i64 a0_0,.int .i64 a0_1,.string a0_2,.string a0_3] 34 (0,0)) (by solve_by_elim only[BK101.out,qw,qx,qv]) hb);replace HB:=U.mk (zz (by solve_by_elim (maxDepth:=20) only[HB.out,G,J,qq,qk,GE101.out]) hb);(try clear hb)));try go_wp2_with (first|(go_at_call 74;(with_reducible refine(qkv.calls kj17 32 t105 _ A44.out).mono ?_);rintro e w' ⟨rfl,⟨nd,rfl⟩⟩;(try first|exact⟨rfl,_,World.drewN_drewN _ _ _⟩|exact⟨rfl,_,Eq.trans (World.drewN_drewN _ _ _) (congrArg (World.drewN _) (Nat.add_assoc _ _ _))⟩))|(go_at_call 71;(with_reducible refine(qzk.calls kj17 a0_0 a0_1 a0_2 a0_3 t106 t107 _ A49.out).mono ?_);rintro e w52 ⟨rfl,hb⟩;have n0_:=U.mk (kv (g:=gb101) (o:=.cells #[.int .i64 a0_0,.int .i64 a0_1,.string a0_2,.string a0_3] 34 (0,0)) (by solve_by_elim only[BK101.out,qw,qx,qv]) hb);have n1_:=U.mk (zz (by solve_by_elim (maxDepth:=20) only[HB.out,G,J,qq,qk,GE101.out]) hb);clear BK101;clear HB;have BK101:=n0_;have HB:=n1_;clear n0_ n1_;(try clear hb);(try clear hb2);(try clear hk);(try clear hi))))
               go_ret
               exact⟨by first|rfl|(simp[*,jv,jk] <;> rfl),by repeat(first|(with_reducible first|exact HB.out|apply G|apply J|apply qq|refine qk ?_ GE101.out)|exact HB.out)⟩
          ·rw[if_neg c41] at H
           have c41b0:(a0_0 == 6)=false:=beq_eq_false_iff_ne.mpr c41
           have c41b1:(a0_0 != 6)=true:=bne_iff_ne.mpr c41
           by_cases c53:a0_0=7
           ·rw[if_pos c53] at H
            have c53b0:(a0_0 == 7)=true:=beq_iff_eq.mpr c53
            have c53b1:(a0_0 != 7)=false:=bne_eq_false_iff_eq.mpr c53
            clear c53
            by_cases c54:a0_1 ≥ (-100000000000)
            ·rw[if_pos c54] at H
             have c54b0:decide ((-100000000000)≤a0_1)=true:=decide_eq_true c54
             clear c54
             obtain rfl:=Option.some.inj H
             have hcz55_0:wc.cell? ⟨gb101,0,none⟩ = some (.int .i64 a0_0):=(qj BK101.out 0).trans rfl
             have hcz55_1:wc.cell? ⟨gb101,1,none⟩ = some (.int .i64 a0_1):=(qj BK101.out 1).trans rfl
             have hcz55_2:wc.cell? ⟨gb101,2,none⟩ = some (.string a0_2):=(qj BK101.out 2).trans rfl
             have hcz55_3:wc.cell? ⟨gb101,3,none⟩ = some (.string a0_3):=(qj BK101.out 3).trans rfl
             have hfz55_0:=qz BK101.out 0
             have hfz55_1:=qz BK101.out 1
             have hfz55_2:=qz BK101.out 2
             have hfz55_3:=qz BK101.out 3
             go_wp2
             repeat(go_quiet (fail);try go_wp2)
             go_ret
             exact⟨by first|rfl|(simp[*,jv,jk] <;> rfl),by repeat(first|(with_reducible first|exact HB.out|apply G|apply J|apply qq|refine qk ?_ GE101.out)|exact HB.out)⟩
            ·rw[if_neg c54] at H
             have c54b0:decide ((-100000000000)≤a0_1)=false:=decide_eq_false c54
             clear c54
             obtain rfl:=Option.some.inj H
             have hcz56_0:wc.cell? ⟨gb101,0,none⟩ = some (.int .i64 a0_0):=(qj BK101.out 0).trans rfl
             have hcz56_1:wc.cell? ⟨gb101,1,none⟩ = some (.int .i64 a0_1):=(qj BK101.out 1).trans rfl
             have hcz56_2:wc.cell? ⟨gb101,2,none⟩ = some (.string a0_2):=(qj BK101.out 2).trans rfl
             have hcz56_3:wc.cell? ⟨gb101,3,none⟩ = some (.string a0_3):=(qj BK101.out 3).trans rfl
             have hfz56_0:=qz BK101.out 0
             have hfz56_1:=qz BK101.out 1
             have hfz56_2:=qz BK101.out 2
             have hfz56_3:=qz BK101.out 3
             go_wp2
             repeat(go_quiet (fail);try go_wp2)
             go_ret
             exact⟨by first|rfl|(simp[*,jv,jk] <;> rfl),by repeat(first|(with_reducible first|exact HB.out|apply G|apply J|apply qq|refine qk ?_ GE101.out)|exact HB.out)⟩
           ·rw[if_neg c53] at H
            have c53b0:(a0_0 == 7)=false:=beq_eq_false_iff_ne.mpr c53
            have c53b1:(a0_0 != 7)=true:=bne_iff_ne.mpr c53
            obtain rfl:=Option.some.inj H
            go_wp2
            repeat(go_quiet (fail);try go_wp2)
            go_ret
            exact⟨by first|rfl|(simp[*,jv,jk] <;> rfl),by repeat(first|(with_reducible first|exact HB.out|apply G|apply J|apply qq|refine qk ?_ GE101.out)|exact HB.out)⟩
end Go.Proofs.Ytccbjchlcelkgaa.Pr
namespace Go.Proofs.Ytccbjchlcelkgaa.Pr
open Go.RowKit Go.Proofs.YtccbjchlcelkgaaW.PrintWords Go.Proofs.YtccbjchlcelkgaaW.PrintLast Go.Proofs.YtccbjchlcelkgaaW.PrintMore
attribute [local go_sem] max2_int min2_int max_two min_two max_three min_three max_four min_four
set_option linter.unusedVariables false
set_option linter.unusedSimpArgs false
def qzv.f (k:Nat) (a0_0:Int) (a0_1:Int) (a0_2:ByteArray) (a0_3:ByteArray) (a1_0:Int) (a1_1:Int) (a1_2:ByteArray) (a1_3:ByteArray):Option (Int):=(qzw.f a0_0 a1_0).bind fun t103=>(if t103=0 then((qzw.f a0_1 a1_1).bind fun t104=>(if t104=0 then((qzx.f k a0_3 a1_3).bind fun t105=>(if t105=0 then((qzx.f k a0_2 a1_2).bind fun t106=>(some t106)) else(some t105))) else(some t104))) else(some t103))
theorem qzv.calls (k:Nat) (a0_0:Int) (a0_1:Int) (a0_2:ByteArray) (a0_3:ByteArray) (a1_0:Int) (a1_1:Int) (a1_2:ByteArray) (a1_3:ByteArray) (r:Int) (w:World) (h:qzv.f k a0_0 a0_1 a0_2 a0_3 a1_0 a1_1 a1_2 a1_3=some r) :
  Calls Try.prog 97 #[.agg #[.int .i64 a0_0,.int .i64 a0_1,.string a0_2,.string a0_3],.agg #[.int .i64 a1_0,.int .i64 a1_1,.string a1_2,.string a1_3]] w fun e w'=>e=.returned (.int .i64 r)∧Below w.heap.size w w':=by
 have hu34:=Try.underlying34
 have HB:=U.mk (Below.refl w.heap.size w)
 unfold qzv.f at h
 have H:=h
 clear h
 replace H:=jq8.mp H
 obtain⟨t103,A30,H⟩:=H
 try dsimp only at H
 have A3:=U.mk A30
 clear A30
 by_cases c4:t103=0
 ·rw[if_pos c4] at H
  have c4b0:(t103 == 0)=true:=beq_iff_eq.mpr c4
  have c4b1:(t103 != 0)=false:=bne_eq_false_iff_eq.mpr c4
  clear c4
  replace H:=jq8.mp H
  obtain⟨t104,A50,H⟩:=H
  try dsimp only at H
  have A5:=U.mk A50
  clear A50
  by_cases c6:t104=0
  ·rw[if_pos c6] at H
   have c6b0:(t104 == 0)=true:=beq_iff_eq.mpr c6
   have c6b1:(t104 != 0)=false:=bne_eq_false_iff_eq.mpr c6
   clear c6
   replace H:=jq8.mp H
   obtain⟨t105,A70,H⟩:=H
   try dsimp only at H
   have A7:=U.mk A70
   clear A70
   by_cases c8:t105=0
   ·rw[if_pos c8] at H
    have c8b0:(t105 == 0)=true:=beq_iff_eq.mpr c8
    have c8b1:(t105 != 0)=false:=bne_eq_false_iff_eq.mpr c8
    clear c8
    replace H:=jq8.mp H
    obtain⟨t106,A90,H⟩:=H
    replace H:(some t106)=some r:=H
    have A9:=U.mk A90
    clear A90
    obtain rfl:=Option.some.inj H
    go_enter Try.func97,Try.ntmps97
    go_wp2_with (first|((with_reducible refine gate_dst (N:=2) rfl ?_);refine box_event ?hg (N:=2) ?hd (cs:=#[.int .i64 a0_0,.int .i64 a0_1,.string a0_2,.string a0_3]) (t:=34) ?hr ?_;(case hd=>rfl);(case hg=>rfl);(case hr=>first|(go_simp;done)|(go_simp;rfl));intro gb101 hg w10 hbox hb;have BK101:=U.mk (hbox);have GW101:=U.mk ((by rw[hg];exact(zj (by solve_by_elim only[HB.out,G,J,qq])):w.heap.size≤gb101));have GE101:=U.mk ((by rw[hg];exact(zj (by solve_by_elim only[HB.out,G,J,qq])):w.heap.size≤gb101));replace HB:=U.mk (zz (by solve_by_elim only[HB.out,G,J,qq]) hb);clear hb hbox hg)|((with_reducible refine gate_dst (N:=3) rfl ?_);refine box_event ?hg (N:=3) ?hd (cs:=#[.int .i64 a1_0,.int .i64 a1_1,.string a1_2,.string a1_3]) (t:=34) ?hr ?_;(case hd=>rfl);(case hg=>rfl);(case hr=>first|(go_simp;done)|(go_simp;rfl));intro gb102 hg w11 hbox hb;have BK102:=U.mk (hbox);have GW102:=U.mk ((by rw[hg];exact(zj (by solve_by_elim (maxDepth:=20) only[HB.out,G,J,qq,qk,GE101.out])):w.heap.size≤gb102));have GE102:=U.mk ((by rw[hg];exact(zj (by solve_by_elim (maxDepth:=20) only[HB.out,G,J,qq,qk,GE101.out])):w.heap.size≤gb102));replace HB:=U.mk (zz (by solve_by_elim (maxDepth:=20) only[HB.out,G,J,qq,qk,GE101.out]) hb);have NB101_102:=U.mk ((by rw[hg];exact Nat.ne_of_lt (blk_lt (g:=gb101) (o:=.cells #[.int .i64 a0_0,.int .i64 a0_1,.string a0_2,.string a0_3] 34 (0,0)) (by solve_by_elim only[BK101.out,qw,qx,qv])):gb101≠gb102));have NB102_101:=U.mk ((by rw[hg];exact Nat.ne_of_gt (blk_lt (g:=gb101) (o:=.cells #[.int .i64 a0_0,.int .i64 a0_1,.string a0_2,.string a0_3] 34 (0,0)) (by solve_by_elim only[BK101.out,qw,qx,qv])):gb102≠gb101));replace BK101:=U.mk (kv (g:=gb101) (o:=.cells #[.int .i64 a0_0,.int .i64 a0_1,.string a0_2,.string a0_3] 34 (0,0)) (by solve_by_elim only[BK101.out,qw,qx,qv]) hb);clear hb hbox hg;have hnb12:=NB101_102.out;have hnc12:=NB102_101.out;have hcz13_0:w11.cell? ⟨gb101,0,none⟩ = some (.int .i64 a0_0):=(qj BK101.out 0).trans rfl;have hcz13_1:w11.cell? ⟨gb101,1,none⟩ = some (.int .i64 a0_1):=(qj BK101.out 1).trans rfl;have hcz13_2:w11.cell? ⟨gb101,2,none⟩ = some (.string a0_2):=(qj BK101.out 2).trans rfl;have hcz13_3:w11.cell? ⟨gb101,3,none⟩ = some (.string a0_3):=(qj BK101.out 3).trans rfl;have hfz13_0:=qz BK101.out 0;have hfz13_1:=qz BK101.out 1;have hfz13_2:=qz BK101.out 2;have hfz13_3:=qz BK101.out 3;have hcz14_0:w11.cell? ⟨gb102,0,none⟩ = some (.int .i64 a1_0):=(qj BK102.out 0).trans rfl;have hcz14_1:w11.cell? ⟨gb102,1,none⟩ = some (.int .i64 a1_1):=(qj BK102.out 1).trans rfl;have hcz14_2:w11.cell? ⟨gb102,2,none⟩ = some (.string a1_2):=(qj BK102.out 2).trans rfl;have hcz14_3:w11.cell? ⟨gb102,3,none⟩ = some (.string a1_3):=(qj BK102.out 3).trans rfl;have hfz14_0:=qz BK102.out 0;have hfz14_1:=qz BK102.out 1;have hfz14_2:=qz BK102.out 2;have hfz14_3:=qz BK102.out 3)|((with_reducible refine jw (f:=143) rfl ?_);refine goesL_ (some 12) rfl rfl Try.func143 (by kernel_rfl) rfl #[.int .i64 a0_0,.int .i64 a1_0] rfl (by(try simp only[jq0,jq1,jq2]);first|done|rfl|(simp only[jq3,jq4];rfl)) ?_;(with_reducible refine(qzw.calls a0_0 a1_0 t103 _ A3.out).mono ?_);rintro e w' ⟨rfl,⟨nd,rfl⟩⟩;refine⟨_,rfl,?_⟩)|((with_reducible refine jw (f:=143) rfl ?_);refine goesL_ (some 20) rfl rfl Try.func143 (by kernel_rfl) rfl #[.int .i64 a0_1,.int .i64 a1_1] rfl (by(try simp only[jq0,jq1,jq2]);first|done|rfl|(simp only[jq3,jq4];rfl)) ?_;(with_reducible refine(qzw.calls a0_1 a1_1 t104 _ A5.out).mono ?_);rintro e w' ⟨rfl,⟨nd,rfl⟩⟩;refine⟨_,rfl,?_⟩)|((with_reducible refine jw (f:=98) rfl ?_);refine goesL_ (some 28) rfl rfl Try.func98 (by kernel_rfl) rfl #[.string a0_3,.string a1_3] rfl (by(try simp only[jq0,jq1,jq2]);first|done|rfl|(simp only[jq3,jq4];rfl)) ?_;(with_reducible refine(qzx.calls k a0_3 a1_3 t105 _ A7.out).mono ?_);rintro e w' ⟨rfl,⟨nd,rfl⟩⟩;refine⟨_,rfl,?_⟩)|((with_reducible refine jw (f:=98) rfl ?_);refine goesL_ (some 36) rfl rfl Try.func98 (by kernel_rfl) rfl #[.string a0_2,.string a1_2] rfl (by(try simp only[jq0,jq1,jq2]);first|done|rfl|(simp only[jq3,jq4];rfl)) ?_;(with_reducible refine(qzx.calls k a0_2 a1_2 t106 _ A9.out).mono ?_);rintro e w' ⟨rfl,⟨nd,rfl⟩⟩;refine⟨_,rfl,?_⟩))
    go_ret
    exact⟨by first|rfl|(simp[*,jv,jk] <;> rfl),by repeat(first|(with_reducible first|exact HB.out|apply G|apply J|apply qq|refine qk ?_ GE101.out|refine qk ?_ GE102.out)|exact HB.out)⟩
   ·rw[if_neg c8] at H
    have c8b0:(t105 == 0)=false:=beq_eq_false_iff_ne.mpr c8
    have c8b1:(t105 != 0)=true:=bne_iff_ne.mpr c8
    obtain rfl:=Option.some.inj H
    go_enter Try.func97,Try.ntmps97
    go_wp2_with (first|((with_reducible refine gate_dst (N:=2) rfl ?_);refine box_event ?hg (N:=2) ?hd (cs:=#[.int .i64 a0_0,.int .i64 a0_1,.string a0_2,.string a0_3]) (t:=34) ?hr ?_;(case hd=>rfl);(case hg=>rfl);(case hr=>first|(go_simp;done)|(go_simp;rfl));intro gb101 hg w15 hbox hb;have BK101:=U.mk (hbox);have GW101:=U.mk ((by rw[hg];exact(zj (by solve_by_elim only[HB.out,G,J,qq])):w.heap.size≤gb101));have GE101:=U.mk ((by rw[hg];exact(zj (by solve_by_elim only[HB.out,G,J,qq])):w.heap.size≤gb101));replace HB:=U.mk (zz (by solve_by_elim only[HB.out,G,J,qq]) hb);clear hb hbox hg)|((with_reducible refine gate_dst (N:=3) rfl ?_);refine box_event ?hg (N:=3) ?hd (cs:=#[.int .i64 a1_0,.int .i64 a1_1,.string a1_2,.string a1_3]) (t:=34) ?hr ?_;(case hd=>rfl);(case hg=>rfl);(case hr=>first|(go_simp;done)|(go_simp;rfl));intro gb102 hg w16 hbox hb;have BK102:=U.mk (hbox);have GW102:=U.mk ((by rw[hg];exact(zj (by solve_by_elim (maxDepth:=20) only[HB.out,G,J,qq,qk,GE101.out])):w.heap.size≤gb102));have GE102:=U.mk ((by rw[hg];exact(zj (by solve_by_elim (maxDepth:=20) only[HB.out,G,J,qq,qk,GE101.out])):w.heap.size≤gb102));replace HB:=U.mk (zz (by solve_by_elim (maxDepth:=20) only[HB.out,G,J,qq,qk,GE101.out]) hb);have NB101_102:=U.mk ((by rw[hg];exact Nat.ne_of_lt (blk_lt (g:=gb101) (o:=.cells #[.int .i64 a0_0,.int .i64 a0_1,.string a0_2,.string a0_3] 34 (0,0)) (by solve_by_elim only[BK101.out,qw,qx,qv])):gb101≠gb102));have NB102_101:=U.mk ((by rw[hg];exact Nat.ne_of_gt (blk_lt (g:=gb101) (o:=.cells #[.int .i64 a0_0,.int .i64 a0_1,.string a0_2,.string a0_3] 34 (0,0)) (by solve_by_elim only[BK101.out,qw,qx,qv])):gb102≠gb101));replace BK101:=U.mk (kv (g:=gb101) (o:=.cells #[.int .i64 a0_0,.int .i64 a0_1,.string a0_2,.string a0_3] 34 (0,0)) (by solve_by_elim only[BK101.out,qw,qx,qv]) hb);clear hb hbox hg;have hnb17:=NB101_102.out;have hnc17:=NB102_101.out;have hcz18_0:w16.cell? ⟨gb101,0,none⟩ = some (.int .i64 a0_0):=(qj BK101.out 0).trans rfl;have hcz18_1:w16.cell? ⟨gb101,1,none⟩ = some (.int .i64 a0_1):=(qj BK101.out 1).trans rfl;have hcz18_2:w16.cell? ⟨gb101,2,none⟩ = some (.string a0_2):=(qj BK101.out 2).trans rfl;have hcz18_3:w16.cell? ⟨gb101,3,none⟩ = some (.string a0_3):=(qj BK101.out 3).trans rfl;have hfz18_0:=qz BK101.out 0;have hfz18_1:=qz BK101.out 1;have hfz18_2:=qz BK101.out 2;have hfz18_3:=qz BK101.out 3;have hcz19_0:w16.cell? ⟨gb102,0,none⟩ = some (.int .i64 a1_0):=(qj BK102.out 0).trans rfl;have hcz19_1:w16.cell? ⟨gb102,1,none⟩ = some (.int .i64 a1_1):=(qj BK102.out 1).trans rfl;have hcz19_2:w16.cell? ⟨gb102,2,none⟩ = some (.string a1_2):=(qj BK102.out 2).trans rfl;have hcz19_3:w16.cell? ⟨gb102,3,none⟩ = some (.string a1_3):=(qj BK102.out 3).trans rfl;have hfz19_0:=qz BK102.out 0;have hfz19_1:=qz BK102.out 1;have hfz19_2:=qz BK102.out 2;have hfz19_3:=qz BK102.out 3)|((with_reducible refine jw (f:=143) rfl ?_);refine goesL_ (some 12) rfl rfl Try.func143 (by kernel_rfl) rfl #[.int .i64 a0_0,.int .i64 a1_0] rfl (by(try simp only[jq0,jq1,jq2]);first|done|rfl|(simp only[jq3,jq4];rfl)) ?_;(with_reducible refine(qzw.calls a0_0 a1_0 t103 _ A3.out).mono ?_);rintro e w' ⟨rfl,⟨nd,rfl⟩⟩;refine⟨_,rfl,?_⟩)|((with_reducible refine jw (f:=143) rfl ?_);refine goesL_ (some 20) rfl rfl Try.func143 (by kernel_rfl) rfl #[.int .i64 a0_1,.int .i64 a1_1] rfl (by(try simp only[jq0,jq1,jq2]);first|done|rfl|(simp only[jq3,jq4];rfl)) ?_;(with_reducible refine(qzw.calls a0_1 a1_1 t104 _ A5.out).mono ?_);rintro e w' ⟨rfl,⟨nd,rfl⟩⟩;refine⟨_,rfl,?_⟩)|((with_reducible refine jw (f:=98) rfl ?_);refine goesL_ (some 28) rfl rfl Try.func98 (by kernel_rfl) rfl #[.string a0_3,.string a1_3] rfl (by(try simp only[jq0,jq1,jq2]);first|done|rfl|(simp only[jq3,jq4];rfl)) ?_;(with_reducible refine(qzx.calls k a0_3 a1_3 t105 _ A7.out).mono ?_);rintro e w' ⟨rfl,⟨nd,rfl⟩⟩;refine⟨_,rfl,?_⟩))
    go_ret
    exact⟨by first|rfl|(simp[*,jv,jk] <;> rfl),by repeat(first|(with_reducible first|exact HB.out|apply G|apply J|apply qq|refine qk ?_ GE101.out|refine qk ?_ GE102.out)|exact HB.out)⟩
  ·rw[if_neg c6] at H
   have c6b0:(t104 == 0)=false:=beq_eq_false_iff_ne.mpr c6
   have c6b1:(t104 != 0)=true:=bne_iff_ne.mpr c6
   obtain rfl:=Option.some.inj H
   go_enter Try.func97,Try.ntmps97
   go_wp2_with (first|((with_reducible refine gate_dst (N:=2) rfl ?_);refine box_event ?hg (N:=2) ?hd (cs:=#[.int .i64 a0_0,.int .i64 a0_1,.string a0_2,.string a0_3]) (t:=34) ?hr ?_;(case hd=>rfl);(case hg=>rfl);(case hr=>first|(go_simp;done)|(go_simp;rfl));intro gb101 hg w20 hbox hb;have BK101:=U.mk (hbox);have GW101:=U.mk ((by rw[hg];exact(zj (by solve_by_elim only[HB.out,G,J,qq])):w.heap.size≤gb101));have GE101:=U.mk ((by rw[hg];exact(zj (by solve_by_elim only[HB.out,G,J,qq])):w.heap.size≤gb101));replace HB:=U.mk (zz (by solve_by_elim only[HB.out,G,J,qq]) hb);clear hb hbox hg)|((with_reducible refine gate_dst (N:=3) rfl ?_);refine box_event ?hg (N:=3) ?hd (cs:=#[.int .i64 a1_0,.int .i64 a1_1,.string a1_2,.string a1_3]) (t:=34) ?hr ?_;(case hd=>rfl);(case hg=>rfl);(case hr=>first|(go_simp;done)|(go_simp;rfl));intro gb102 hg w21 hbox hb;have BK102:=U.mk (hbox);have GW102:=U.mk ((by rw[hg];exact(zj (by solve_by_elim (maxDepth:=20) only[HB.out,G,J,qq,qk,GE101.out])):w.heap.size≤gb102));have GE102:=U.mk ((by rw[hg];exact(zj (by solve_by_elim (maxDepth:=20) only[HB.out,G,J,qq,qk,GE101.out])):w.heap.size≤gb102));replace HB:=U.mk (zz (by solve_by_elim (maxDepth:=20) only[HB.out,G,J,qq,qk,GE101.out]) hb);have NB101_102:=U.mk ((by rw[hg];exact Nat.ne_of_lt (blk_lt (g:=gb101) (o:=.cells #[.int .i64 a0_0,.int .i64 a0_1,.string a0_2,.string a0_3] 34 (0,0)) (by solve_by_elim only[BK101.out,qw,qx,qv])):gb101≠gb102));have NB102_101:=U.mk ((by rw[hg];exact Nat.ne_of_gt (blk_lt (g:=gb101) (o:=.cells #[.int .i64 a0_0,.int .i64 a0_1,.string a0_2,.string a0_3] 34 (0,0)) (by solve_by_elim only[BK101.out,qw,qx,qv])):gb102≠gb101));replace BK101:=U.mk (kv (g:=gb101) (o:=.cells #[.int .i64 a0_0,.int .i64 a0_1,.string a0_2,.string a0_3] 34 (0,0)) (by solve_by_elim only[BK101.out,qw,qx,qv]) hb);clear hb hbox hg;have hnb22:=NB101_102.out;have hnc22:=NB102_101.out;have hcz23_0:w21.cell? ⟨gb101,0,none⟩ = some (.int .i64 a0_0):=(qj BK101.out 0).trans rfl;have hcz23_1:w21.cell? ⟨gb101,1,none⟩ = some (.int .i64 a0_1):=(qj BK101.out 1).trans rfl;have hcz23_2:w21.cell? ⟨gb101,2,none⟩ = some (.string a0_2):=(qj BK101.out 2).trans rfl;have hcz23_3:w21.cell? ⟨gb101,3,none⟩ = some (.string a0_3):=(qj BK101.out 3).trans rfl;have hfz23_0:=qz BK101.out 0;have hfz23_1:=qz BK101.out 1;have hfz23_2:=qz BK101.out 2;have hfz23_3:=qz BK101.out 3;have hcz24_0:w21.cell? ⟨gb102,0,none⟩ = some (.int .i64 a1_0):=(qj BK102.out 0).trans rfl;have hcz24_1:w21.cell? ⟨gb102,1,none⟩ = some (.int .i64 a1_1):=(qj BK102.out 1).trans rfl;have hcz24_2:w21.cell? ⟨gb102,2,none⟩ = some (.string a1_2):=(qj BK102.out 2).trans rfl;have hcz24_3:w21.cell? ⟨gb102,3,none⟩ = some (.string a1_3):=(qj BK102.out 3).trans rfl;have hfz24_0:=qz BK102.out 0;have hfz24_1:=qz BK102.out 1;have hfz24_2:=qz BK102.out 2;have hfz24_3:=qz BK102.out 3)|((with_reducible refine jw (f:=143) rfl ?_);refine goesL_ (some 12) rfl rfl Try.func143 (by kernel_rfl) rfl #[.int .i64 a0_0,.int .i64 a1_0] rfl (by(try simp only[jq0,jq1,jq2]);first|done|rfl|(simp only[jq3,jq4];rfl)) ?_;(with_reducible refine(qzw.calls a0_0 a1_0 t103 _ A3.out).mono ?_);rintro e w' ⟨rfl,⟨nd,rfl⟩⟩;refine⟨_,rfl,?_⟩)|((with_reducible refine jw (f:=143) rfl ?_);refine goesL_ (some 20) rfl rfl Try.func143 (by kernel_rfl) rfl #[.int .i64 a0_1,.int .i64 a1_1] rfl (by(try simp only[jq0,jq1,jq2]);first|done|rfl|(simp only[jq3,jq4];rfl)) ?_;(with_reducible refine(qzw.calls a0_1 a1_1 t104 _ A5.out).mono ?_);rintro e w' ⟨rfl,⟨nd,rfl⟩⟩;refine⟨_,rfl,?_⟩))
   go_ret
   exact⟨by first|rfl|(simp[*,jv,jk] <;> rfl),by repeat(first|(with_reducible first|exact HB.out|apply G|apply J|apply qq|refine qk ?_ GE101.out|refine qk ?_ GE102.out)|exact HB.out)⟩
 ·rw[if_neg c4] at H
  have c4b0:(t103 == 0)=false:=beq_eq_false_iff_ne.mpr c4
  have c4b1:(t103 != 0)=true:=bne_iff_ne.mpr c4
  obtain rfl:=Option.some.inj H
  go_enter Try.func97,Try.ntmps97
  go_wp2_with (first|((with_reducible refine gate_dst (N:=2) rfl ?_);refine box_event ?hg (N:=2) ?hd (cs:=#[.int .i64 a0_0,.int .i64 a0_1,.string a0_2,.string a0_3]) (t:=34) ?hr ?_;(case hd=>rfl);(case hg=>rfl);(case hr=>first|(go_simp;done)|(go_simp;rfl));intro gb101 hg w25 hbox hb;have BK101:=U.mk (hbox);have GW101:=U.mk ((by rw[hg];exact(zj (by solve_by_elim only[HB.out,G,J,qq])):w.heap.size≤gb101));have GE101:=U.mk ((by rw[hg];exact(zj (by solve_by_elim only[HB.out,G,J,qq])):w.heap.size≤gb101));replace HB:=U.mk (zz (by solve_by_elim only[HB.out,G,J,qq]) hb);clear hb hbox hg)|((with_reducible refine gate_dst (N:=3) rfl ?_);refine box_event ?hg (N:=3) ?hd (cs:=#[.int .i64 a1_0,.int .i64 a1_1,.string a1_2,.string a1_3]) (t:=34) ?hr ?_;(case hd=>rfl);(case hg=>rfl);(case hr=>first|(go_simp;done)|(go_simp;rfl));intro gb102 hg w26 hbox hb;have BK102:=U.mk (hbox);have GW102:=U.mk ((by rw[hg];exact(zj (by solve_by_elim (maxDepth:=20) only[HB.out,G,J,qq,qk,GE101.out])):w.heap.size≤gb102));have GE102:=U.mk ((by rw[hg];exact(zj (by solve_by_elim (maxDepth:=20) only[HB.out,G,J,qq,qk,GE101.out])):w.heap.size≤gb102));replace HB:=U.mk (zz (by solve_by_elim (maxDepth:=20) only[HB.out,G,J,qq,qk,GE101.out]) hb);have NB101_102:=U.mk ((by rw[hg];exact Nat.ne_of_lt (blk_lt (g:=gb101) (o:=.cells #[.int .i64 a0_0,.int .i64 a0_1,.string a0_2,.string a0_3] 34 (0,0)) (by solve_by_elim only[BK101.out,qw,qx,qv])):gb101≠gb102));have NB102_101:=U.mk ((by rw[hg];exact Nat.ne_of_gt (blk_lt (g:=gb101) (o:=.cells #[.int .i64 a0_0,.int .i64 a0_1,.string a0_2,.string a0_3] 34 (0,0)) (by solve_by_elim only[BK101.out,qw,qx,qv])):gb102≠gb101));replace BK101:=U.mk (kv (g:=gb101) (o:=.cells #[.int .i64 a0_0,.int .i64 a0_1,.string a0_2,.string a0_3] 34 (0,0)) (by solve_by_elim only[BK101.out,qw,qx,qv]) hb);clear hb hbox hg;have hnb27:=NB101_102.out;have hnc27:=NB102_101.out;have hcz28_0:w26.cell? ⟨gb101,0,none⟩ = some (.int .i64 a0_0):=(qj BK101.out 0).trans rfl;have hcz28_1:w26.cell? ⟨gb101,1,none⟩ = some (.int .i64 a0_1):=(qj BK101.out 1).trans rfl;have hcz28_2:w26.cell? ⟨gb101,2,none⟩ = some (.string a0_2):=(qj BK101.out 2).trans rfl;have hcz28_3:w26.cell? ⟨gb101,3,none⟩ = some (.string a0_3):=(qj BK101.out 3).trans rfl;have hfz28_0:=qz BK101.out 0;have hfz28_1:=qz BK101.out 1;have hfz28_2:=qz BK101.out 2;have hfz28_3:=qz BK101.out 3;have hcz29_0:w26.cell? ⟨gb102,0,none⟩ = some (.int .i64 a1_0):=(qj BK102.out 0).trans rfl;have hcz29_1:w26.cell? ⟨gb102,1,none⟩ = some (.int .i64 a1_1):=(qj BK102.out 1).trans rfl;have hcz29_2:w26.cell? ⟨gb102,2,none⟩ = some (.string a1_2):=(qj BK102.out 2).trans rfl;have hcz29_3:w26.cell? ⟨gb102,3,none⟩ = some (.string a1_3):=(qj BK102.out 3).trans rfl;have hfz29_0:=qz BK102.out 0;have hfz29_1:=qz BK102.out 1;have hfz29_2:=qz BK102.out 2;have hfz29_3:=qz BK102.out 3)|((with_reducible refine jw (f:=143) rfl ?_);refine goesL_ (some 12) rfl rfl Try.func143 (by kernel_rfl) rfl #[.int .i64 a0_0,.int .i64 a1_0] rfl (by(try simp only[jq0,jq1,jq2]);first|done|rfl|(simp only[jq3,jq4];rfl)) ?_;(with_reducible refine(qzw.calls a0_0 a1_0 t103 _ A3.out).mono ?_);rintro e w' ⟨rfl,⟨nd,rfl⟩⟩;refine⟨_,rfl,?_⟩))
  go_ret
  exact⟨by first|rfl|(simp[*,jv,jk] <;> rfl),by repeat(first|(with_reducible first|exact HB.out|apply G|apply J|apply qq|refine qk ?_ GE101.out|refine qk ?_ GE102.out)|exact HB.out)⟩
end Go.Proofs.Ytccbjchlcelkgaa.Pr
namespace Go.Proofs.Ytccbjchlcelkgaa.Pr
open Go.RowKit Go.Proofs.YtccbjchlcelkgaaW.PrintWords Go.Proofs.YtccbjchlcelkgaaW.PrintLast Go.Proofs.YtccbjchlcelkgaaW.PrintMore
attribute [local go_sem] max2_int min2_int max_two min_two max_three min_three max_four min_four
set_option linter.unusedVariables false
set_option linter.unusedSimpArgs false
mutual
def qkx.l0:Nat→List (S34)→List (S34)→Int→Int→Option ((List (S34)))
 | 0,_,_,_,_=>none
 | k + 1,x3,x8,x9,x10=>if x10 < x9 then(if 0≤x10 then(if x10 < (x8.length:Int) then(qkx.l1 k x3 (x3.length:Int) x8 x9 x10 ((vz x8 x10).f0) ((vz x8 x10).f1) ((vz x8 x10).f2) ((vz x8 x10).f3)) else(none)) else(none)) else(some x3)
def qkx.j2:Nat→List (S34)→Int→List (S34)→Int→Int→Int→Int→ByteArray→ByteArray→Option ((List (S34)))
 | 0,_,_,_,_,_,_,_,_,_=>none
 | k + 1,x3,x6,x8,x9,x10,x103000,x103001,x103002,x103003=>if x6 > 0 then(if 0≤(wrap64 (x6 - 1)) then(if (wrap64 (x6 - 1)) < (x3.length:Int) then((qzv.f k ((vz x3 (wrap64 (x6 - 1))).f0) ((vz x3 (wrap64 (x6 - 1))).f1) ((vz x3 (wrap64 (x6 - 1))).f2) ((vz x3 (wrap64 (x6 - 1))).f3) x103000 x103001 x103002 x103003).bind fun t106=>(qkx.j3 k x3 x6 x8 x9 x10 (t106 == 0) x103000 x103001 x103002 x103003)) else(none)) else(none)) else(qkx.j3 k x3 x6 x8 x9 x10 false x103000 x103001 x103002 x103003)
def qkx.j3:Nat→List (S34)→Int→List (S34)→Int→Int→Bool→Int→Int→ByteArray→ByteArray→Option ((List (S34)))
 | 0,_,_,_,_,_,_,_,_,_,_=>none
 | k + 1,x3,x6,x8,x9,x10,x41,x103000,x103001,x103002,x103003=>if x41=true then(qkx.l0 k x3 x8 x9 (wrap64 (x10 + 1))) else(if x3.length < 2932031007402 then((some (x3 ++ [(⟨x103000,x103001,x103002,x103003⟩ : S34)]:List (S34))).bind fun y107=>(qkx.l2 k y107 x6 (wrap64 ((y107.length:Int) - 1)) x8 x9 x10 x103000 x103001 x103002 x103003)) else(none))
def qkx.l2:Nat→List (S34)→Int→Int→List (S34)→Int→Int→Int→Int→ByteArray→ByteArray→Option ((List (S34)))
 | 0,_,_,_,_,_,_,_,_,_,_=>none
 | k + 1,x3,x6,x7,x8,x9,x10,x103000,x103001,x103002,x103003=>if x7 > x6 then(if 0≤(wrap64 (x7 - 1)) then(if (wrap64 (x7 - 1)) < (x3.length:Int) then(if 0≤x7 then(if x7 < (x3.length:Int) then(qkx.l2 k (x3.set (x7:Int).toNat (⟨(vz x3 (wrap64 (x7 - 1))).f0,(vz x3 (wrap64 (x7 - 1))).f1,(vz x3 (wrap64 (x7 - 1))).f2,(vz x3 (wrap64 (x7 - 1))).f3⟩ : S34)) x6 (wrap64 (x7 - 1)) x8 x9 x10 x103000 x103001 x103002 x103003) else(none)) else(none)) else(none)) else(none)) else(if 0≤x6 then(if x6 < (x3.length:Int) then(qkx.l0 k (x3.set (x6:Int).toNat (⟨x103000,x103001,x103002,x103003⟩ : S34)) x8 x9 (wrap64 (x10 + 1))) else(none)) else(none))
def qkx.l1:Nat→List (S34)→Int→List (S34)→Int→Int→Int→Int→ByteArray→ByteArray→Option ((List (S34)))
 | 0,_,_,_,_,_,_,_,_,_=>none
 | k + 1,x3,x6,x8,x9,x10,x103000,x103001,x103002,x103003=>if x6 > 0 then(if 0≤(wrap64 (x6 - 1)) then(if (wrap64 (x6 - 1)) < (x3.length:Int) then((qzv.f k ((vz x3 (wrap64 (x6 - 1))).f0) ((vz x3 (wrap64 (x6 - 1))).f1) ((vz x3 (wrap64 (x6 - 1))).f2) ((vz x3 (wrap64 (x6 - 1))).f3) x103000 x103001 x103002 x103003).bind fun t104=>(if t104 > 0 then(qkx.l1 k x3 (wrap64 (x6 - 1)) x8 x9 x10 x103000 x103001 x103002 x103003) else(qkx.j2 k x3 x6 x8 x9 x10 x103000 x103001 x103002 x103003))) else(none)) else(none)) else(qkx.j2 k x3 x6 x8 x9 x10 x103000 x103001 x103002 x103003)
end
def qkx.f (k:Nat) (l0:List (S34)):Option ((List (S34))):=qkx.l0 k ([]:List (S34)) l0 (l0.length:Int) 0
def qkx.T6:Bool × List (List Nat × List Nat):=(true,[([],[]),([0],[0]),([1],[1]),([2],[2]),([2],[2]),([4,2],[2,4]),([3,5,2],[2,3,5]),([6,2],[2,6]),([2],[2]),([7,8,2,2],[2,7,8]),([9,2],[2,9]),([2,10],[2,10])])
def qkx.B6:List Nat:=[0,1,3,7,7,23,63,127,7,511,1023,2047]
theorem qkx.tab6:rtab .any (opsOf Try.f96 6)=qkx.T6:=by kernel_rfl
theorem qkx.bits6:waitsOk qkx.T6.2 qkx.B6=true:=by kernel_rfl
def qkx.T8:Bool × List (List Nat × List Nat):=(true,[([],[]),([0],[0]),([1],[1]),([2],[2]),([2],[2]),([4,2],[2,4]),([3,5,2],[2,3,5]),([6,2],[2,6]),([2],[2]),([7,8,2,2],[2,7,8]),([9,2],[2,9]),([2,10],[2,10])])
def qkx.B8:List Nat:=[0,1,3,7,7,23,63,127,7,511,1023,2047]
theorem qkx.tab8:rtab .any (opsOf Try.f96 8)=qkx.T8:=by kernel_rfl
theorem qkx.bits8:waitsOk qkx.T8.2 qkx.B8=true:=by kernel_rfl
theorem qkx.calls (k:Nat) (A0:Option Addr) (c0:Nat) (l0:List (S34)) (r:List (S34)) (w:World) (hr0:Kd.C k34 w A0 l0.length l0) (hc0:l0.length≤c0) (h:qkx.f k l0=some r) :
  Calls Try.prog 96 #[.slice A0 l0.length c0] w fun e w'=>∃ v0_:Value,e=.returned (v0_)∧Kd.R k34 34 w' w.heap.size (fun _=>True) v0_ r∧Below w.heap.size w w':=by
 have hu34:=Try.underlying34
 have HR0:=U.mk hr0
 have HC0:=U.mk hc0
 clear hr0 hc0
 have HB:=U.mk (Below.refl w.heap.size w)
 have H:(qkx.l0 k ([]:List (S34)) l0 (l0.length:Int) 0)=some r:=h
 clear h
 have H':=U.mk H
 clear H
 go_enter Try.func96,Try.ntmps96
 go_wp2
 go_loopg [3,10] k (fun kq v3 v10 w'=>∃ (x3_1:List (S34)) (x10_1:Int),v10=.int .i64 x10_1∧U (qkx.l0 kq x3_1 l0 (l0.length:Int) x10_1=some r)∧U (kq≤k)∧U (Kd.R k34 34 w' w.heap.size (fun _=>True) v3 x3_1)∧U (Below w.heap.size w w'))
 case atStart=>exact⟨(([]:List (S34))),(0),(by first|rfl|(simp;done)|(simp[*];done)),H',⟨Nat.le_refl _⟩,⟨by first|exact Kd.R_nil _ _ _ _ _|exact Kd.N_nil _ _ _ _ _|exact Kd.V_nil _ _ _ _ _|exact Kd.Q_nil _ _ _ _ _|exact Kd.S_nil _ _ _ _ _⟩,⟨by repeat(first|(with_reducible first|exact HB.out|apply G|apply J|apply qq)|exact HB.out)⟩⟩
 case round =>
  clear H'
  obtain⟨x3_1,x10_1,rfl,HA,HK1,HO_3,HB⟩:=hrel
  cases gk with
  | zero=>exact absurd HA.out (by simp[qkx.l0])
  | succ k1 =>
   have H:=HA.out
   clear HA
   simp only[qkx.l0] at H
   by_cases c2:x10_1 < (l0.length:Int)
   ·rw[if_pos c2] at H
    have c2b0:decide (x10_1 < (l0.length:Int))=true:=decide_eq_true c2
    clear c2
    by_cases c3 : 0≤x10_1
    ·rw[if_pos c3] at H
     have c3b0:decide (0≤x10_1)=true:=decide_eq_true c3
     clear c3
     by_cases c4:x10_1 < (l0.length:Int)
     ·rw[if_pos c4] at H
      have c4b0:decide (x10_1 < (l0.length:Int))=true:=decide_eq_true c4
      clear c4
      have HC5:=U.mk H
      clear H
      have p101 : 0≤(x10_1:Int):=of_decide_eq_true (by assumption)
      have q101:x10_1 < (l0.length:Int):=of_decide_eq_true (by assumption)
      obtain⟨ad101,e101,hx101_0,hx101_1,hx101_2,hx101_3⟩:=at_T34 HR0.out x10_1 p101 q101
      cases e101
      replace hx101_0:=(HB.out.cell (World.block_lt_of_cell? w _ hx101_0)).trans hx101_0
      replace hx101_1:=(HB.out.cell (World.block_lt_of_cell? w _ hx101_1)).trans hx101_1
      replace hx101_2:=(HB.out.cell (World.block_lt_of_cell? w _ hx101_2)).trans hx101_2
      replace hx101_3:=(HB.out.cell (World.block_lt_of_cell? w _ hx101_3)).trans hx101_3
      replace p101:=eq_true p101
      replace q101:=eq_true q101
      go_upto_block 2 with (first|((with_reducible refine gate_dst (N:=5) rfl ?_);refine box_event ?hg (N:=5) ?hd (cs:=#[.int .i64 0,.int .i64 0,.string (⟨#[]⟩ : ByteArray),.string (⟨#[]⟩ : ByteArray)]) (t:=34) ?hr ?_;(case hd=>rfl);(case hg=>rfl);(case hr=>first|(go_simp;done)|(go_simp;rfl));intro gb102 hg w6 hbox hb;replace HO_3:=U.mk (Kd.R_below (Kd.R_elderB (by solve_by_elim only[HO_3.out,Kd.zv,Kd.zk,Kd.zw]) gb102 (Nat.le_of_eq hg.symm)) hb);have BK102:=U.mk (hbox);have GW102:=U.mk ((by rw[hg];exact(zj (by solve_by_elim only[HB.out,G,J,qq])):w.heap.size≤gb102));have GE102:=U.mk ((by rw[hg];exact(zj (by solve_by_elim only[HB.out,G,J,qq])):w.heap.size≤gb102));replace HB:=U.mk (zz (by solve_by_elim only[HB.out,G,J,qq]) hb);clear hb hbox hg;have hcz7_0:w6.cell? ⟨gb102,0,none⟩ = some (.int .i64 0):=(qj BK102.out 0).trans rfl;have hcz7_1:w6.cell? ⟨gb102,1,none⟩ = some (.int .i64 0):=(qj BK102.out 1).trans rfl;have hcz7_2:w6.cell? ⟨gb102,2,none⟩ = some (.string (⟨#[]⟩ : ByteArray)):=(qj BK102.out 2).trans rfl;have hcz7_3:w6.cell? ⟨gb102,3,none⟩ = some (.string (⟨#[]⟩ : ByteArray)):=(qj BK102.out 3).trans rfl;have hfz7_0:=qz BK102.out 0;have hfz7_1:=qz BK102.out 1;have hfz7_2:=qz BK102.out 2;have hfz7_3:=qz BK102.out 3;obtain⟨Ao8,co8,eo8⟩:=Kd.R_slice HO_3.out;subst eo8))
      (try simp only[Act.put,jq5,jq6,jq7])
      go_cut [6] (fun v6 wc=>∃ (kq:Nat) (x6_4:Int),v6=.int .i64 x6_4∧U (qkx.j2 kq x3_1 x6_4 l0 (l0.length:Int) x10_1 ((vz l0 x10_1).f0) ((vz l0 x10_1).f1) ((vz l0 x10_1).f2) ((vz l0 x10_1).f3)=some r)∧U (kq≤k1)∧U (Kd.R k34 34 wc w.heap.size (fun k_=>k_≠gb102) (.slice Ao8 x3_1.length co8) x3_1)∧U (wc.heap[gb102]? = some (.cells #[.int .i64 ((vz l0 x10_1).f0),.int .i64 ((vz l0 x10_1).f1),.string ((vz l0 x10_1).f2),.string ((vz l0 x10_1).f3)] 34 (0,0)))∧U (Below w.heap.size w wc))
      case first =>
       have H:=HC5.out
       clear HC5
       have H':=U.mk H
       clear H
       go_wp2
       go_loopg [6] k1 (fun kq v6 w'=>∃ (x6_2:Int),v6=.int .i64 x6_2∧U (qkx.l1 kq x3_1 x6_2 l0 (l0.length:Int) x10_1 ((vz l0 x10_1).f0) ((vz l0 x10_1).f1) ((vz l0 x10_1).f2) ((vz l0 x10_1).f3)=some r)∧U (kq≤k1)∧U (Kd.R k34 34 w' w.heap.size (fun k_=>k_≠gb102) (.slice Ao8 x3_1.length co8) x3_1)∧U (w'.heap[gb102]? = some (.cells #[.int .i64 ((vz l0 x10_1).f0),.int .i64 ((vz l0 x10_1).f1),.string ((vz l0 x10_1).f2),.string ((vz l0 x10_1).f3)] 34 (0,0)))∧U (Below w.heap.size w w'))
       case atStart=>exact⟨((x3_1.length:Int)),(by first|rfl|(simp;done)|(simp[*];done)),H',⟨Nat.le_refl _⟩,⟨by(with_reducible repeat(first|apply Kd.zv|apply Kd.zk|apply Kd.zw));exact Kd.R_mono (Kd.R_far (p:=⟨gb102,3,none⟩) (Kd.R_far (p:=⟨gb102,2,none⟩) (Kd.R_far (p:=⟨gb102,1,none⟩) (Kd.R_far (p:=⟨gb102,0,none⟩) (Kd.R_mono HO_3.out (fun k_ hk=>(⟨hk,hk.2⟩ : _∧k_≠gb102))) (fun _ hk=>hk.2) (.int .i64 ((vz l0 x10_1).f0))) (fun _ hk=>hk.2) (.int .i64 ((vz l0 x10_1).f1))) (fun _ hk=>hk.2) (.string ((vz l0 x10_1).f2))) (fun _ hk=>hk.2) (.string ((vz l0 x10_1).f3))) (fun _ hk=>hk.1.2)⟩,⟨by(with_reducible repeat(first|refine qw ?_ _|refine qx ?_|refine qv ?_ _));refine blk_put (cs:=#[.int .i64 ((vz l0 x10_1).f0),.int .i64 ((vz l0 x10_1).f1),.string ((vz l0 x10_1).f2),.string (⟨#[]⟩ : ByteArray)]) ?_ 3 _ rfl;(with_reducible repeat(first|refine qw ?_ _|refine qx ?_|refine qv ?_ _));refine blk_put (cs:=#[.int .i64 ((vz l0 x10_1).f0),.int .i64 ((vz l0 x10_1).f1),.string (⟨#[]⟩ : ByteArray),.string (⟨#[]⟩ : ByteArray)]) ?_ 2 _ rfl;(with_reducible repeat(first|refine qw ?_ _|refine qx ?_|refine qv ?_ _));refine blk_put (cs:=#[.int .i64 ((vz l0 x10_1).f0),.int .i64 0,.string (⟨#[]⟩ : ByteArray),.string (⟨#[]⟩ : ByteArray)]) ?_ 1 _ rfl;(with_reducible repeat(first|refine qw ?_ _|refine qx ?_|refine qv ?_ _));refine blk_put (cs:=#[.int .i64 0,.int .i64 0,.string (⟨#[]⟩ : ByteArray),.string (⟨#[]⟩ : ByteArray)]) ?_ 0 _ rfl;(with_reducible repeat(first|refine qw ?_ _|refine qx ?_|refine qv ?_ _));exact BK102.out⟩,⟨by repeat(first|(with_reducible first|exact HB.out|apply G|apply J|apply qq|refine qk ?_ GE102.out)|exact HB.out)⟩⟩
       case round =>
        clear H'
        try clear p1
        try clear q1
        try clear hx1
        try clear c2
        try clear c2b0
        try clear p2
        try clear c3
        try clear c3b0
        try clear c4
        try clear c4b0
        try clear hcz7_0
        try clear hcz7_1
        try clear hcz7_2
        try clear hcz7_3
        try clear hfz7_0
        try clear hfz7_1
        try clear hfz7_2
        try clear hfz7_3
        try clear hx101_0
        try clear hx101_1
        try clear hx101_2
        try clear hx101_3
        try clear p101
        try clear q101
        obtain⟨x6_2,rfl,HA,HK2,HO_3,BK102,HB⟩:=hrel
        cases gk with
        | zero=>exact absurd HA.out (by simp[qkx.l1])
        | succ k2 =>
         have H:=HA.out
         clear HA
         simp only[qkx.l1] at H
         by_cases c9:x6_2 > 0
         ·rw[if_pos c9] at H
          have c9b0:decide (0 < x6_2)=true:=decide_eq_true c9
          clear c9
          (first|rw[c9b0]|(simp only[i64_w,i32_w];rw[c9b0])|skip)
          obtain⟨ji10,hji10⟩ : ∃ j_:Int,(wrap64 (x6_2 - 1))=j_:=⟨_,rfl⟩
          replace H:(if 0≤(ji10) then(if (ji10) < (x3_1.length:Int) then((qzv.f k2 ((vz x3_1 (ji10)).f0) ((vz x3_1 (ji10)).f1) ((vz x3_1 (ji10)).f2) ((vz x3_1 (ji10)).f3) ((vz l0 x10_1).f0) ((vz l0 x10_1).f1) ((vz l0 x10_1).f2) ((vz l0 x10_1).f3)).bind fun t104=>(if t104 > 0 then(qkx.l1 k2 x3_1 ji10 l0 (l0.length:Int) x10_1 ((vz l0 x10_1).f0) ((vz l0 x10_1).f1) ((vz l0 x10_1).f2) ((vz l0 x10_1).f3)) else(qkx.j2 k2 x3_1 x6_2 l0 (l0.length:Int) x10_1 ((vz l0 x10_1).f0) ((vz l0 x10_1).f1) ((vz l0 x10_1).f2) ((vz l0 x10_1).f3)))) else(none)) else(none))=some r:=by first|(rw[hji10] at H;exact H)|(simp only[hji10] at H ⊢;exact H)
          have hji10w:(IntKind.i64.wrap (x6_2 - 1))=ji10:=(i64_w _).trans hji10
          by_cases c11 : 0≤(ji10)
          ·rw[if_pos c11] at H
           have c11b0:decide (0≤(ji10))=true:=decide_eq_true c11
           clear c11
           by_cases c12:(ji10) < (x3_1.length:Int)
           ·rw[if_pos c12] at H
            have c12b0:decide ((ji10) < (x3_1.length:Int))=true:=decide_eq_true c12
            clear c12
            replace H:=jq8.mp H
            obtain⟨t104,A130,H⟩:=H
            try dsimp only at H
            have A13:=U.mk A130
            clear A130
            by_cases c14:t104 > 0
            ·rw[if_pos c14] at H
             have c14b0:decide (0 < t104)=true:=decide_eq_true c14
             clear c14
             have H':=U.mk H
             clear H
             try go_wp2
             replace HO_3:=U.mk (Kd.zw HO_3.out)
             replace BK102:=U.mk (qx BK102.out)
             replace HB:=U.mk (qq HB.out)
             have p103 : 0≤((ji10):Int):=of_decide_eq_true (by assumption)
             have q103:(ji10) < (x3_1.length:Int):=of_decide_eq_true (by assumption)
             obtain⟨ad103,e103,hx103_0,hx103_1,hx103_2,hx103_3⟩:=at_T34 (Kd.R_reads' HO_3.out).2.2 (ji10) p103 q103
             cases e103
             replace p103:=eq_true p103
             replace q103:=eq_true q103
             refine start_ (n:=12) (S:=fun w'=>w'.cell? ⟨gb102,0,none⟩ = some (.int .i64 ((vz l0 x10_1).f0))∧w'.cell? ⟨gb102,1,none⟩ = some (.int .i64 ((vz l0 x10_1).f1))∧w'.cell? ⟨gb102,2,none⟩ = some (.string ((vz l0 x10_1).f2))∧w'.cell? ⟨gb102,3,none⟩ = some (.string ((vz l0 x10_1).f3))∧w'.cell? (ad103.add (((ji10)).toNat * 4))=some (.int .i64 ((vz x3_1 (ji10)).f0))∧w'.cell? ⟨(ad103.add (((ji10)).toNat * 4)).block,(ad103.add (((ji10)).toNat * 4)).off + 1,none⟩ = some (.int .i64 ((vz x3_1 (ji10)).f1))∧w'.cell? ⟨(ad103.add (((ji10)).toNat * 4)).block,(ad103.add (((ji10)).toNat * 4)).off + 2,none⟩ = some (.string ((vz x3_1 (ji10)).f2))∧w'.cell? ⟨(ad103.add (((ji10)).toNat * 4)).block,(ad103.add (((ji10)).toNat * 4)).off + 3,none⟩ = some (.string ((vz x3_1 (ji10)).f3))) (ds:=[]) #[Y,Y,Y,Y,Y,Y,Y,Y,Y,Y,Y,Y] (by kernel_rfl) rfl rfl ⟨(qj BK102.out 0).trans rfl,(qj BK102.out 1).trans rfl,(qj BK102.out 2).trans rfl,(qj BK102.out 3).trans rfl,hx103_0,hx103_1,hx103_2,hx103_3⟩ (fun hHeld=>?_);refine with_tabW qkx.tab6 qkx.bits6 (fun HT_ HW_=>?_)
             generalize wr.drew=w15 at HO_3 BK102 HB hx103_0 hx103_1 hx103_2 hx103_3 hHeld ⊢
             refine pure_ (i:=0) (N:=some 16) (v:=?_) (a':=?_) #[Z,Y,Y,Y,Y,Y,Y,Y,Y,Y,Y,Y] rfl rfl (any_of HT_.out (by kernel_rfl)) (fun _ _ _ h=>h) (Or.inl ⟨by rfl,?_⟩) ?_ ?_
             rotate_left
             ·intro w'
              go_simp
              with_reducible rfl
             rotate_left
             ·simp only[Act.put,jq5,jq6,jq7,i64_w,i32_w]
              rfl
             refine pure_ (i:=1) (N:=some 17) (v:=?_) (a':=?_) #[Z,Z,Y,Y,Y,Y,Y,Y,Y,Y,Y,Y] rfl rfl (any_of HT_.out (by kernel_rfl)) (fun _ _ _ h=>h) (Or.inl ⟨by rfl,?_⟩) ?_ ?_
             rotate_left
             ·intro w'
              go_simp
              with_reducible rfl
             rotate_left
             ·simp only[Act.put,jq5,jq6,jq7,i64_w,i32_w]
              rfl
             refine pure_ (i:=2) (N:=some 18) (v:=?_) (a':=?_) #[Z,Z,Z,Y,Y,Y,Y,Y,Y,Y,Y,Y] rfl rfl (any_of HT_.out (by kernel_rfl)) (fun _ _ _ h=>h) (Or.inl ⟨by rfl,?_⟩) ?_ ?_
             rotate_left
             ·intro w'
              go_simp
              with_reducible rfl
             rotate_left
             ·simp only[Act.put,jq5,jq6,jq7,i64_w,i32_w]
              rfl
             refine pure_ (i:=3) (N:=some 19) (v:=?_) (a':=?_) #[Z,Z,Z,Z,Y,Y,Y,Y,Y,Y,Y,Y] rfl rfl (any_of HT_.out (by kernel_rfl)) (fun _ _ _ h=>h) (Or.inl ⟨by rfl,?_⟩) ?_ ?_
             rotate_left
             ·intro w'
              go_simp
              with_reducible rfl
             rotate_left
             ·simp only[Act.put,jq5,jq6,jq7,i64_w,i32_w]
              rfl
             refine pure_ (i:=4) (N:=some 20) (v:=?_) (a':=?_) #[Z,Z,Z,Z,Z,Y,Y,Y,Y,Y,Y,Y] rfl rfl (any_of HT_.out (by kernel_rfl)) (fun _ _ _ h=>h) (Or.inl ⟨by rfl,?_⟩) ?_ ?_
             rotate_left
             ·intro w'
              go_simp
              with_reducible rfl
             rotate_left
             ·simp only[Act.put,jq5,jq6,jq7,i64_w,i32_w]
              rfl
             refine pure_ (i:=5) (N:=some 21) (v:=?_) (a':=?_) #[Z,Z,Z,Z,Z,Z,Y,Y,Y,Y,Y,Y] rfl rfl (any_of HT_.out (by kernel_rfl)) (fun _ _ _ h=>h) (Or.inl ⟨by rfl,?_⟩) ?_ ?_
             rotate_left
             ·intro w'
              go_simp
              with_reducible rfl
             rotate_left
             ·simp only[Act.put,jq5,jq6,jq7,i64_w,i32_w]
              rfl
             refine pure_ (i:=6) (N:=some 22) (v:=?_) (a':=?_) #[Z,Z,Z,Z,Z,Z,Z,Y,Y,Y,Y,Y] rfl rfl (any_of HT_.out (by kernel_rfl)) (fun _ _ _ h=>h) (Or.inl ⟨by rfl,?_⟩) ?_ ?_
             rotate_left
             ·intro w'
              go_simp
              with_reducible rfl
             rotate_left
             ·simp only[Act.put,jq5,jq6,jq7,i64_w,i32_w]
              rfl
             refine take_ (i:=7) (N:=some 23) (v:=?_) (a':=?_) #[Z,Z,Z,Z,Z,Z,Z,Z,Y,Y,Y,Y] rfl rfl (take_ofW HT_.out HW_.out (by kernel_rfl)) (fun _ _ _ h=>h) (Or.inl ⟨by rfl,?_⟩) hHeld ?_ ?_
             rotate_left
             ·rintro w' ⟨s0,s1,s2,s3,s4,s5,s6,s7⟩
              go_simp
              with_reducible rfl
             rotate_left
             ·simp only[Act.put,jq5,jq6,jq7,i64_w,i32_w]
              rfl
             refine take_ (i:=8) (N:=some 24) (v:=?_) (a':=?_) #[Z,Z,Z,Z,Z,Z,Z,Z,Z,Y,Y,Y] rfl rfl (take_ofW HT_.out HW_.out (by kernel_rfl)) (fun _ _ _ h=>h) (Or.inl ⟨by rfl,?_⟩) hHeld ?_ ?_
             rotate_left
             ·rintro w' ⟨s0,s1,s2,s3,s4,s5,s6,s7⟩
              go_simp
              with_reducible rfl
             rotate_left
             ·simp only[Act.put,jq5,jq6,jq7,i64_w,i32_w]
              rfl
             refine one_ (i:=9) (N:=some 25) #[Z,Z,Z,Z,Z,Z,Z,Z,Z,Z,Y,Y] rfl rfl (one_of HT_.out (by kernel_rfl)) (by decide) (fun K hK=>?_)
             refine goes_ Try.func97 (by kernel_rfl) rfl #[.agg #[.int .i64 ((vz x3_1 (ji10)).f0),.int .i64 ((vz x3_1 (ji10)).f1),.string ((vz x3_1 (ji10)).f2),.string ((vz x3_1 (ji10)).f3)],.agg #[.int .i64 ((vz l0 x10_1).f0),.int .i64 ((vz l0 x10_1).f1),.string ((vz l0 x10_1).f2),.string ((vz l0 x10_1).f3)]] (by rfl) rfl rfl (by(try simp only[jq0,jq1,jq2]);first|done|(simp only[hji10];rfl)|rfl|(simp only[jq3,jq4];rfl)) ?_
             with_reducible refine(qzv.calls k2 ((vz x3_1 (ji10)).f0) ((vz x3_1 (ji10)).f1) ((vz x3_1 (ji10)).f2) ((vz x3_1 (ji10)).f3) ((vz l0 x10_1).f0) ((vz l0 x10_1).f1) ((vz l0 x10_1).f2) ((vz l0 x10_1).f3) t104 _ A13.out).mono ?_
             rintro e w16 ⟨rfl,hb⟩
             have HS4_:=(hb.cell (World.block_lt_of_cell? _ _ (hHeld.2.2.2.2.1))).trans (hHeld.2.2.2.2.1)
             have HS5_:=(hb.cell (World.block_lt_of_cell? _ _ (hHeld.2.2.2.2.2.1))).trans (hHeld.2.2.2.2.2.1)
             have HS6_:=(hb.cell (World.block_lt_of_cell? _ _ (hHeld.2.2.2.2.2.2.1))).trans (hHeld.2.2.2.2.2.2.1)
             have HS7_:=(hb.cell (World.block_lt_of_cell? _ _ (hHeld.2.2.2.2.2.2.2))).trans (hHeld.2.2.2.2.2.2.2)
             refine⟨_,rfl,?_⟩
             replace HO_3:=U.mk (Kd.R_below (by solve_by_elim only[HO_3.out,Kd.zv,Kd.zk,Kd.zw]) hb)
             replace BK102:=U.mk (kv (g:=gb102) (o:=.cells #[.int .i64 ((vz l0 x10_1).f0),.int .i64 ((vz l0 x10_1).f1),.string ((vz l0 x10_1).f2),.string ((vz l0 x10_1).f3)] 34 (0,0)) (by solve_by_elim only[BK102.out,qw,qx,qv]) hb)
             replace HB:=U.mk (zz (by solve_by_elim (maxDepth:=20) only[HB.out,G,J,qq,qk,GE102.out]) hb)
             (try clear hb)
             (try clear hb2)
             (try clear hk)
             (try clear hi)
             refine hK.out _ _ ⟨(qj BK102.out 0).trans rfl,(qj BK102.out 1).trans rfl,(qj BK102.out 2).trans rfl,(qj BK102.out 3).trans rfl,HS4_,HS5_,HS6_,HS7_⟩ (fun hHeld=>?_)
             clear hK K
             refine norm_ (a':=?_) ?_ ?_
             rotate_left
             ·show Act.put _ (some 25) _=_
              simp only[Act.put,jq5,jq6,jq7,i64_w,i32_w]
              rfl
             refine pure_ (i:=10) (N:=some 26) (v:=?_) (a':=?_) #[Z,Z,Z,Z,Z,Z,Z,Z,Z,Z,Z,Y] rfl rfl (any_of HT_.out (by kernel_rfl)) (fun _ _ _ h=>h) (Or.inl ⟨by rfl,?_⟩) ?_ ?_
             rotate_left
             ·intro w'
              go_simp
              with_reducible rfl
             rotate_left
             ·simp only[Act.put,jq5,jq6,jq7,i64_w,i32_w]
              rfl
             refine pure_ (i:=11) (N:=some 27) (v:=?_) (a':=?_) #[Z,Z,Z,Z,Z,Z,Z,Z,Z,Z,Z,Z] rfl rfl (any_of HT_.out (by kernel_rfl)) (fun _ _ _ h=>h) (Or.inl ⟨by rfl,?_⟩) ?_ ?_
             rotate_left
             ·intro w'
              go_simp
              with_reducible rfl
             rotate_left
             ·simp only[Act.put,jq5,jq6,jq7,i64_w,i32_w]
              rfl
             refine done_ (done_of HT_.out (by kernel_rfl)) ?_
             try go_wp2
             go_roundg k2
             case measure=>have:=HK1.out;have:=HK2.out;omega
             case rel=>exact⟨(ji10),(by first|rfl|(simp;done)|(simp only[← hji10] <;> (first|rfl|simp))|(simp[*];done)),H',⟨by have:=HK1.out;have:=HK2.out;omega⟩,⟨by(with_reducible repeat(first|apply Kd.zv|apply Kd.zk|apply Kd.zw));exact HO_3.out⟩,⟨by(with_reducible repeat(first|refine qw ?_ _|refine qx ?_|refine qv ?_ _));exact BK102.out⟩,⟨by repeat(first|(with_reducible first|exact HB.out|apply G|apply J|apply qq|refine qk ?_ GE102.out)|exact HB.out)⟩⟩
            ·rw[if_neg c14] at H
             have c14b0:decide (0 < t104)=false:=decide_eq_false c14
             clear c14
             have H':=U.mk H
             clear H
             try go_wp2
             replace HO_3:=U.mk (Kd.zw HO_3.out)
             replace BK102:=U.mk (qx BK102.out)
             replace HB:=U.mk (qq HB.out)
             have p103 : 0≤((ji10):Int):=of_decide_eq_true (by assumption)
             have q103:(ji10) < (x3_1.length:Int):=of_decide_eq_true (by assumption)
             obtain⟨ad103,e103,hx103_0,hx103_1,hx103_2,hx103_3⟩:=at_T34 (Kd.R_reads' HO_3.out).2.2 (ji10) p103 q103
             cases e103
             replace p103:=eq_true p103
             replace q103:=eq_true q103
             refine start_ (n:=12) (S:=fun w'=>w'.cell? ⟨gb102,0,none⟩ = some (.int .i64 ((vz l0 x10_1).f0))∧w'.cell? ⟨gb102,1,none⟩ = some (.int .i64 ((vz l0 x10_1).f1))∧w'.cell? ⟨gb102,2,none⟩ = some (.string ((vz l0 x10_1).f2))∧w'.cell? ⟨gb102,3,none⟩ = some (.string ((vz l0 x10_1).f3))∧w'.cell? (ad103.add (((ji10)).toNat * 4))=some (.int .i64 ((vz x3_1 (ji10)).f0))∧w'.cell? ⟨(ad103.add (((ji10)).toNat * 4)).block,(ad103.add (((ji10)).toNat * 4)).off + 1,none⟩ = some (.int .i64 ((vz x3_1 (ji10)).f1))∧w'.cell? ⟨(ad103.add (((ji10)).toNat * 4)).block,(ad103.add (((ji10)).toNat * 4)).off + 2,none⟩ = some (.string ((vz x3_1 (ji10)).f2))∧w'.cell? ⟨(ad103.add (((ji10)).toNat * 4)).block,(ad103.add (((ji10)).toNat * 4)).off + 3,none⟩ = some (.string ((vz x3_1 (ji10)).f3))) (ds:=[]) #[Y,Y,Y,Y,Y,Y,Y,Y,Y,Y,Y,Y] (by kernel_rfl) rfl rfl ⟨(qj BK102.out 0).trans rfl,(qj BK102.out 1).trans rfl,(qj BK102.out 2).trans rfl,(qj BK102.out 3).trans rfl,hx103_0,hx103_1,hx103_2,hx103_3⟩ (fun hHeld=>?_);refine with_tabW qkx.tab6 qkx.bits6 (fun HT_ HW_=>?_)
             generalize wr.drew=w17 at HO_3 BK102 HB hx103_0 hx103_1 hx103_2 hx103_3 hHeld ⊢
             refine pure_ (i:=0) (N:=some 16) (v:=?_) (a':=?_) #[Z,Y,Y,Y,Y,Y,Y,Y,Y,Y,Y,Y] rfl rfl (any_of HT_.out (by kernel_rfl)) (fun _ _ _ h=>h) (Or.inl ⟨by rfl,?_⟩) ?_ ?_
             rotate_left
             ·intro w'
              go_simp
              with_reducible rfl
             rotate_left
             ·simp only[Act.put,jq5,jq6,jq7,i64_w,i32_w]
              rfl
             refine pure_ (i:=1) (N:=some 17) (v:=?_) (a':=?_) #[Z,Z,Y,Y,Y,Y,Y,Y,Y,Y,Y,Y] rfl rfl (any_of HT_.out (by kernel_rfl)) (fun _ _ _ h=>h) (Or.inl ⟨by rfl,?_⟩) ?_ ?_
             rotate_left
             ·intro w'
              go_simp
              with_reducible rfl
             rotate_left
             ·simp only[Act.put,jq5,jq6,jq7,i64_w,i32_w]
              rfl
             refine pure_ (i:=2) (N:=some 18) (v:=?_) (a':=?_) #[Z,Z,Z,Y,Y,Y,Y,Y,Y,Y,Y,Y] rfl rfl (any_of HT_.out (by kernel_rfl)) (fun _ _ _ h=>h) (Or.inl ⟨by rfl,?_⟩) ?_ ?_
             rotate_left
             ·intro w'
              go_simp
              with_reducible rfl
             rotate_left
             ·simp only[Act.put,jq5,jq6,jq7,i64_w,i32_w]
              rfl
             refine pure_ (i:=3) (N:=some 19) (v:=?_) (a':=?_) #[Z,Z,Z,Z,Y,Y,Y,Y,Y,Y,Y,Y] rfl rfl (any_of HT_.out (by kernel_rfl)) (fun _ _ _ h=>h) (Or.inl ⟨by rfl,?_⟩) ?_ ?_
             rotate_left
             ·intro w'
              go_simp
              with_reducible rfl
             rotate_left
             ·simp only[Act.put,jq5,jq6,jq7,i64_w,i32_w]
              rfl
             refine pure_ (i:=4) (N:=some 20) (v:=?_) (a':=?_) #[Z,Z,Z,Z,Z,Y,Y,Y,Y,Y,Y,Y] rfl rfl (any_of HT_.out (by kernel_rfl)) (fun _ _ _ h=>h) (Or.inl ⟨by rfl,?_⟩) ?_ ?_
             rotate_left
             ·intro w'
              go_simp
              with_reducible rfl
             rotate_left
             ·simp only[Act.put,jq5,jq6,jq7,i64_w,i32_w]
              rfl
             refine pure_ (i:=5) (N:=some 21) (v:=?_) (a':=?_) #[Z,Z,Z,Z,Z,Z,Y,Y,Y,Y,Y,Y] rfl rfl (any_of HT_.out (by kernel_rfl)) (fun _ _ _ h=>h) (Or.inl ⟨by rfl,?_⟩) ?_ ?_
             rotate_left
             ·intro w'
              go_simp
              with_reducible rfl
             rotate_left
             ·simp only[Act.put,jq5,jq6,jq7,i64_w,i32_w]
              rfl
             refine pure_ (i:=6) (N:=some 22) (v:=?_) (a':=?_) #[Z,Z,Z,Z,Z,Z,Z,Y,Y,Y,Y,Y] rfl rfl (any_of HT_.out (by kernel_rfl)) (fun _ _ _ h=>h) (Or.inl ⟨by rfl,?_⟩) ?_ ?_
             rotate_left
             ·intro w'
              go_simp
              with_reducible rfl
             rotate_left
             ·simp only[Act.put,jq5,jq6,jq7,i64_w,i32_w]
              rfl
             refine take_ (i:=7) (N:=some 23) (v:=?_) (a':=?_) #[Z,Z,Z,Z,Z,Z,Z,Z,Y,Y,Y,Y] rfl rfl (take_ofW HT_.out HW_.out (by kernel_rfl)) (fun _ _ _ h=>h) (Or.inl ⟨by rfl,?_⟩) hHeld ?_ ?_
             rotate_left
             ·rintro w' ⟨s0,s1,s2,s3,s4,s5,s6,s7⟩
              go_simp
              with_reducible rfl
             rotate_left
             ·simp only[Act.put,jq5,jq6,jq7,i64_w,i32_w]
              rfl
             refine take_ (i:=8) (N:=some 24) (v:=?_) (a':=?_) #[Z,Z,Z,Z,Z,Z,Z,Z,Z,Y,Y,Y] rfl rfl (take_ofW HT_.out HW_.out (by kernel_rfl)) (fun _ _ _ h=>h) (Or.inl ⟨by rfl,?_⟩) hHeld ?_ ?_
             rotate_left
             ·rintro w' ⟨s0,s1,s2,s3,s4,s5,s6,s7⟩
              go_simp
              with_reducible rfl
             rotate_left
             ·simp only[Act.put,jq5,jq6,jq7,i64_w,i32_w]
              rfl
             refine one_ (i:=9) (N:=some 25) #[Z,Z,Z,Z,Z,Z,Z,Z,Z,Z,Y,Y] rfl rfl (one_of HT_.out (by kernel_rfl)) (by decide) (fun K hK=>?_)
             refine goes_ Try.func97 (by kernel_rfl) rfl #[.agg #[.int .i64 ((vz x3_1 (ji10)).f0),.int .i64 ((vz x3_1 (ji10)).f1),.string ((vz x3_1 (ji10)).f2),.string ((vz x3_1 (ji10)).f3)],.agg #[.int .i64 ((vz l0 x10_1).f0),.int .i64 ((vz l0 x10_1).f1),.string ((vz l0 x10_1).f2),.string ((vz l0 x10_1).f3)]] (by rfl) rfl rfl (by(try simp only[jq0,jq1,jq2]);first|done|(simp only[hji10];rfl)|rfl|(simp only[jq3,jq4];rfl)) ?_
             with_reducible refine(qzv.calls k2 ((vz x3_1 (ji10)).f0) ((vz x3_1 (ji10)).f1) ((vz x3_1 (ji10)).f2) ((vz x3_1 (ji10)).f3) ((vz l0 x10_1).f0) ((vz l0 x10_1).f1) ((vz l0 x10_1).f2) ((vz l0 x10_1).f3) t104 _ A13.out).mono ?_
             rintro e w18 ⟨rfl,hb⟩
             have HS4_:=(hb.cell (World.block_lt_of_cell? _ _ (hHeld.2.2.2.2.1))).trans (hHeld.2.2.2.2.1)
             have HS5_:=(hb.cell (World.block_lt_of_cell? _ _ (hHeld.2.2.2.2.2.1))).trans (hHeld.2.2.2.2.2.1)
             have HS6_:=(hb.cell (World.block_lt_of_cell? _ _ (hHeld.2.2.2.2.2.2.1))).trans (hHeld.2.2.2.2.2.2.1)
             have HS7_:=(hb.cell (World.block_lt_of_cell? _ _ (hHeld.2.2.2.2.2.2.2))).trans (hHeld.2.2.2.2.2.2.2)
             refine⟨_,rfl,?_⟩
             replace HO_3:=U.mk (Kd.R_below (by solve_by_elim only[HO_3.out,Kd.zv,Kd.zk,Kd.zw]) hb)
             replace BK102:=U.mk (kv (g:=gb102) (o:=.cells #[.int .i64 ((vz l0 x10_1).f0),.int .i64 ((vz l0 x10_1).f1),.string ((vz l0 x10_1).f2),.string ((vz l0 x10_1).f3)] 34 (0,0)) (by solve_by_elim only[BK102.out,qw,qx,qv]) hb)
             replace HB:=U.mk (zz (by solve_by_elim (maxDepth:=20) only[HB.out,G,J,qq,qk,GE102.out]) hb)
             (try clear hb)
             (try clear hb2)
             (try clear hk)
             (try clear hi)
             refine hK.out _ _ ⟨(qj BK102.out 0).trans rfl,(qj BK102.out 1).trans rfl,(qj BK102.out 2).trans rfl,(qj BK102.out 3).trans rfl,HS4_,HS5_,HS6_,HS7_⟩ (fun hHeld=>?_)
             clear hK K
             refine norm_ (a':=?_) ?_ ?_
             rotate_left
             ·show Act.put _ (some 25) _=_
              simp only[Act.put,jq5,jq6,jq7,i64_w,i32_w]
              rfl
             refine pure_ (i:=10) (N:=some 26) (v:=?_) (a':=?_) #[Z,Z,Z,Z,Z,Z,Z,Z,Z,Z,Z,Y] rfl rfl (any_of HT_.out (by kernel_rfl)) (fun _ _ _ h=>h) (Or.inl ⟨by rfl,?_⟩) ?_ ?_
             rotate_left
             ·intro w'
              go_simp
              with_reducible rfl
             rotate_left
             ·simp only[Act.put,jq5,jq6,jq7,i64_w,i32_w]
              rfl
             refine pure_ (i:=11) (N:=some 27) (v:=?_) (a':=?_) #[Z,Z,Z,Z,Z,Z,Z,Z,Z,Z,Z,Z] rfl rfl (any_of HT_.out (by kernel_rfl)) (fun _ _ _ h=>h) (Or.inl ⟨by rfl,?_⟩) ?_ ?_
             rotate_left
             ·intro w'
              go_simp
              with_reducible rfl
             rotate_left
             ·simp only[Act.put,jq5,jq6,jq7,i64_w,i32_w]
              rfl
             refine done_ (done_of HT_.out (by kernel_rfl)) ?_
             try go_wp2
             go_meet
             case rel=>exact⟨_,(x6_2),(by first|rfl|(simp;done)|(simp[*];done)),H',⟨by have:=HK1.out;have:=HK2.out;first|omega|exact Nat.le_refl _⟩,⟨by(with_reducible repeat(first|apply Kd.zv|apply Kd.zk|apply Kd.zw));exact HO_3.out⟩,⟨by(with_reducible repeat(first|refine qw ?_ _|refine qx ?_|refine qv ?_ _));exact BK102.out⟩,⟨by repeat(first|(with_reducible first|exact HB.out|apply G|apply J|apply qq|refine qk ?_ GE102.out)|exact HB.out)⟩⟩
           ·rw[if_neg c12] at H
            exact absurd H (by simp)
          ·rw[if_neg c11] at H
           exact absurd H (by simp)
         ·rw[if_neg c9] at H
          have c9b0:decide (0 < x6_2)=false:=decide_eq_false c9
          clear c9
          (first|rw[c9b0]|(simp only[i64_w,i32_w];rw[c9b0])|skip)
          have H':=U.mk H
          clear H
          try go_wp2
          go_quiet (fail)
          replace HO_3:=U.mk (Kd.zk HO_3.out nq)
          replace BK102:=U.mk (qw BK102.out nq)
          replace HB:=U.mk (J HB.out nq)
          generalize World.drewN wr nq=w19 at HO_3 BK102 HB ⊢
          try go_wp2
          go_meet
          case rel=>exact⟨_,(x6_2),(by first|rfl|(simp;done)|(simp[*];done)),H',⟨by have:=HK1.out;have:=HK2.out;first|omega|exact Nat.le_refl _⟩,⟨by(with_reducible repeat(first|apply Kd.zv|apply Kd.zk|apply Kd.zw));exact HO_3.out⟩,⟨by(with_reducible repeat(first|refine qw ?_ _|refine qx ?_|refine qv ?_ _));exact BK102.out⟩,⟨by repeat(first|(with_reducible first|exact HB.out|apply G|apply J|apply qq|refine qk ?_ GE102.out)|exact HB.out)⟩⟩
      case rest =>
       clear HC5
       try clear c1
       try clear p1
       try clear q1
       try clear hx1
       try clear c2
       try clear c2b0
       try clear p2
       try clear c3
       try clear c3b0
       try clear c4
       try clear c4b0
       try clear p6
       try clear c9
       try clear c9b0
       try clear p10
       try clear q10
       try clear hx10
       try clear c11
       try clear c11b0
       try clear c12
       try clear c12b0
       try clear c14
       try clear c14b0
       try clear hcz7_0
       try clear hcz7_1
       try clear hcz7_2
       try clear hcz7_3
       try clear hfz7_0
       try clear hfz7_1
       try clear hfz7_2
       try clear hfz7_3
       try clear hx101_0
       try clear hx101_1
       try clear hx101_2
       try clear hx101_3
       try clear hx103_0
       try clear hx103_1
       try clear hx103_2
       try clear hx103_3
       try clear p1
       try clear p101
       try clear p103
       try clear p2
       try clear q1
       try clear q101
       try clear q103
       obtain⟨kq,x6_4,rfl,HA,HJ4,HO_3,BK102,HB⟩:=hcut
       cases kq with
       | zero=>exact absurd HA.out (by simp[qkx.j2])
       | succ kj4 =>
        have H:=HA.out
        clear HA
        simp only[qkx.j2] at H
        have HC20:=U.mk H
        clear H
        go_upto_region 8 with (fail)
        go_cut [41] (fun v41 wc=>∃ (kq:Nat) (x41_19:Bool),v41=.bool x41_19∧U (qkx.j3 kq x3_1 x6_4 l0 (l0.length:Int) x10_1 x41_19 ((vz l0 x10_1).f0) ((vz l0 x10_1).f1) ((vz l0 x10_1).f2) ((vz l0 x10_1).f3)=some r)∧U (kq≤kj4)∧U (Kd.R k34 34 wc w.heap.size (fun k_=>k_≠gb102) (.slice Ao8 x3_1.length co8) x3_1)∧U (wc.heap[gb102]? = some (.cells #[.int .i64 ((vz l0 x10_1).f0),.int .i64 ((vz l0 x10_1).f1),.string ((vz l0 x10_1).f2),.string ((vz l0 x10_1).f3)] 34 (0,0)))∧U (Below w.heap.size w wc))
        case first =>
         have H:=HC20.out
         clear HC20
         by_cases c21:x6_4 > 0
         ·rw[if_pos c21] at H
          have c21b0:decide (0 < x6_4)=true:=decide_eq_true c21
          clear c21
          (first|rw[c21b0]|(simp only[i64_w,i32_w];rw[c21b0])|skip)
          obtain⟨ji22,hji22⟩ : ∃ j_:Int,(wrap64 (x6_4 - 1))=j_:=⟨_,rfl⟩
          replace H:(if 0≤(ji22) then(if (ji22) < (x3_1.length:Int) then((qzv.f kj4 ((vz x3_1 (ji22)).f0) ((vz x3_1 (ji22)).f1) ((vz x3_1 (ji22)).f2) ((vz x3_1 (ji22)).f3) ((vz l0 x10_1).f0) ((vz l0 x10_1).f1) ((vz l0 x10_1).f2) ((vz l0 x10_1).f3)).bind fun t106=>(qkx.j3 kj4 x3_1 x6_4 l0 (l0.length:Int) x10_1 (t106 == 0) ((vz l0 x10_1).f0) ((vz l0 x10_1).f1) ((vz l0 x10_1).f2) ((vz l0 x10_1).f3))) else(none)) else(none))=some r:=by first|(rw[hji22] at H;exact H)|(simp only[hji22] at H ⊢;exact H)
          have hji22w:(IntKind.i64.wrap (x6_4 - 1))=ji22:=(i64_w _).trans hji22
          by_cases c23 : 0≤(ji22)
          ·rw[if_pos c23] at H
           have c23b0:decide (0≤(ji22))=true:=decide_eq_true c23
           clear c23
           by_cases c24:(ji22) < (x3_1.length:Int)
           ·rw[if_pos c24] at H
            have c24b0:decide ((ji22) < (x3_1.length:Int))=true:=decide_eq_true c24
            clear c24
            replace H:=jq8.mp H
            obtain⟨t106,A250,H⟩:=H
            try dsimp only at H
            have A25:=U.mk A250
            clear A250
            have H':=U.mk H
            clear H
            try go_wp2
            replace HO_3:=U.mk (Kd.zw HO_3.out)
            replace BK102:=U.mk (qx BK102.out)
            replace HB:=U.mk (qq HB.out)
            have p105 : 0≤((ji22):Int):=of_decide_eq_true (by assumption)
            have q105:(ji22) < (x3_1.length:Int):=of_decide_eq_true (by assumption)
            obtain⟨ad105,e105,hx105_0,hx105_1,hx105_2,hx105_3⟩:=at_T34 (Kd.R_reads' HO_3.out).2.2 (ji22) p105 q105
            cases e105
            replace p105:=eq_true p105
            replace q105:=eq_true q105
            refine start_ (n:=12) (S:=fun w'=>w'.cell? ⟨gb102,0,none⟩ = some (.int .i64 ((vz l0 x10_1).f0))∧w'.cell? ⟨gb102,1,none⟩ = some (.int .i64 ((vz l0 x10_1).f1))∧w'.cell? ⟨gb102,2,none⟩ = some (.string ((vz l0 x10_1).f2))∧w'.cell? ⟨gb102,3,none⟩ = some (.string ((vz l0 x10_1).f3))∧w'.cell? (ad105.add (((ji22)).toNat * 4))=some (.int .i64 ((vz x3_1 (ji22)).f0))∧w'.cell? ⟨(ad105.add (((ji22)).toNat * 4)).block,(ad105.add (((ji22)).toNat * 4)).off + 1,none⟩ = some (.int .i64 ((vz x3_1 (ji22)).f1))∧w'.cell? ⟨(ad105.add (((ji22)).toNat * 4)).block,(ad105.add (((ji22)).toNat * 4)).off + 2,none⟩ = some (.string ((vz x3_1 (ji22)).f2))∧w'.cell? ⟨(ad105.add (((ji22)).toNat * 4)).block,(ad105.add (((ji22)).toNat * 4)).off + 3,none⟩ = some (.string ((vz x3_1 (ji22)).f3))) (ds:=[]) #[Y,Y,Y,Y,Y,Y,Y,Y,Y,Y,Y,Y] (by kernel_rfl) rfl rfl ⟨(qj BK102.out 0).trans rfl,(qj BK102.out 1).trans rfl,(qj BK102.out 2).trans rfl,(qj BK102.out 3).trans rfl,hx105_0,hx105_1,hx105_2,hx105_3⟩ (fun hHeld=>?_);refine with_tabW qkx.tab8 qkx.bits8 (fun HT_ HW_=>?_)
            generalize wc.drew=w26 at HO_3 BK102 HB hx105_0 hx105_1 hx105_2 hx105_3 hHeld ⊢
            refine pure_ (i:=0) (N:=some 30) (v:=?_) (a':=?_) #[Z,Y,Y,Y,Y,Y,Y,Y,Y,Y,Y,Y] rfl rfl (any_of HT_.out (by kernel_rfl)) (fun _ _ _ h=>h) (Or.inl ⟨by rfl,?_⟩) ?_ ?_
            rotate_left
            ·intro w'
             go_simp
             with_reducible rfl
            rotate_left
            ·simp only[Act.put,jq5,jq6,jq7,i64_w,i32_w]
             rfl
            refine pure_ (i:=1) (N:=some 31) (v:=?_) (a':=?_) #[Z,Z,Y,Y,Y,Y,Y,Y,Y,Y,Y,Y] rfl rfl (any_of HT_.out (by kernel_rfl)) (fun _ _ _ h=>h) (Or.inl ⟨by rfl,?_⟩) ?_ ?_
            rotate_left
            ·intro w'
             go_simp
             with_reducible rfl
            rotate_left
            ·simp only[Act.put,jq5,jq6,jq7,i64_w,i32_w]
             rfl
            refine pure_ (i:=2) (N:=some 32) (v:=?_) (a':=?_) #[Z,Z,Z,Y,Y,Y,Y,Y,Y,Y,Y,Y] rfl rfl (any_of HT_.out (by kernel_rfl)) (fun _ _ _ h=>h) (Or.inl ⟨by rfl,?_⟩) ?_ ?_
            rotate_left
            ·intro w'
             go_simp
             with_reducible rfl
            rotate_left
            ·simp only[Act.put,jq5,jq6,jq7,i64_w,i32_w]
             rfl
            refine pure_ (i:=3) (N:=some 33) (v:=?_) (a':=?_) #[Z,Z,Z,Z,Y,Y,Y,Y,Y,Y,Y,Y] rfl rfl (any_of HT_.out (by kernel_rfl)) (fun _ _ _ h=>h) (Or.inl ⟨by rfl,?_⟩) ?_ ?_
            rotate_left
            ·intro w'
             go_simp
             with_reducible rfl
            rotate_left
            ·simp only[Act.put,jq5,jq6,jq7,i64_w,i32_w]
             rfl
            refine pure_ (i:=4) (N:=some 34) (v:=?_) (a':=?_) #[Z,Z,Z,Z,Z,Y,Y,Y,Y,Y,Y,Y] rfl rfl (any_of HT_.out (by kernel_rfl)) (fun _ _ _ h=>h) (Or.inl ⟨by rfl,?_⟩) ?_ ?_
            rotate_left
            ·intro w'
             go_simp
             with_reducible rfl
            rotate_left
            ·simp only[Act.put,jq5,jq6,jq7,i64_w,i32_w]
             rfl
            refine pure_ (i:=5) (N:=some 35) (v:=?_) (a':=?_) #[Z,Z,Z,Z,Z,Z,Y,Y,Y,Y,Y,Y] rfl rfl (any_of HT_.out (by kernel_rfl)) (fun _ _ _ h=>h) (Or.inl ⟨by rfl,?_⟩) ?_ ?_
            rotate_left
            ·intro w'
             go_simp
             with_reducible rfl
            rotate_left
            ·simp only[Act.put,jq5,jq6,jq7,i64_w,i32_w]
             rfl
            refine pure_ (i:=6) (N:=some 36) (v:=?_) (a':=?_) #[Z,Z,Z,Z,Z,Z,Z,Y,Y,Y,Y,Y] rfl rfl (any_of HT_.out (by kernel_rfl)) (fun _ _ _ h=>h) (Or.inl ⟨by rfl,?_⟩) ?_ ?_
            rotate_left
            ·intro w'
             go_simp
             with_reducible rfl
            rotate_left
            ·simp only[Act.put,jq5,jq6,jq7,i64_w,i32_w]
             rfl
            refine take_ (i:=7) (N:=some 37) (v:=?_) (a':=?_) #[Z,Z,Z,Z,Z,Z,Z,Z,Y,Y,Y,Y] rfl rfl (take_ofW HT_.out HW_.out (by kernel_rfl)) (fun _ _ _ h=>h) (Or.inl ⟨by rfl,?_⟩) hHeld ?_ ?_
            rotate_left
            ·rintro w' ⟨s0,s1,s2,s3,s4,s5,s6,s7⟩
             go_simp
             with_reducible rfl
            rotate_left
            ·simp only[Act.put,jq5,jq6,jq7,i64_w,i32_w]
             rfl
            refine take_ (i:=8) (N:=some 38) (v:=?_) (a':=?_) #[Z,Z,Z,Z,Z,Z,Z,Z,Z,Y,Y,Y] rfl rfl (take_ofW HT_.out HW_.out (by kernel_rfl)) (fun _ _ _ h=>h) (Or.inl ⟨by rfl,?_⟩) hHeld ?_ ?_
            rotate_left
            ·rintro w' ⟨s0,s1,s2,s3,s4,s5,s6,s7⟩
             go_simp
             with_reducible rfl
            rotate_left
            ·simp only[Act.put,jq5,jq6,jq7,i64_w,i32_w]
             rfl
            refine one_ (i:=9) (N:=some 39) #[Z,Z,Z,Z,Z,Z,Z,Z,Z,Z,Y,Y] rfl rfl (one_of HT_.out (by kernel_rfl)) (by decide) (fun K hK=>?_)
            refine goes_ Try.func97 (by kernel_rfl) rfl #[.agg #[.int .i64 ((vz x3_1 (ji22)).f0),.int .i64 ((vz x3_1 (ji22)).f1),.string ((vz x3_1 (ji22)).f2),.string ((vz x3_1 (ji22)).f3)],.agg #[.int .i64 ((vz l0 x10_1).f0),.int .i64 ((vz l0 x10_1).f1),.string ((vz l0 x10_1).f2),.string ((vz l0 x10_1).f3)]] (by rfl) rfl rfl (by(try simp only[jq0,jq1,jq2]);first|done|(simp only[hji22];rfl)|rfl|(simp only[jq3,jq4];rfl)) ?_
            with_reducible refine(qzv.calls kj4 ((vz x3_1 (ji22)).f0) ((vz x3_1 (ji22)).f1) ((vz x3_1 (ji22)).f2) ((vz x3_1 (ji22)).f3) ((vz l0 x10_1).f0) ((vz l0 x10_1).f1) ((vz l0 x10_1).f2) ((vz l0 x10_1).f3) t106 _ A25.out).mono ?_
            rintro e w27 ⟨rfl,hb⟩
            have HS4_:=(hb.cell (World.block_lt_of_cell? _ _ (hHeld.2.2.2.2.1))).trans (hHeld.2.2.2.2.1)
            have HS5_:=(hb.cell (World.block_lt_of_cell? _ _ (hHeld.2.2.2.2.2.1))).trans (hHeld.2.2.2.2.2.1)
            have HS6_:=(hb.cell (World.block_lt_of_cell? _ _ (hHeld.2.2.2.2.2.2.1))).trans (hHeld.2.2.2.2.2.2.1)
            have HS7_:=(hb.cell (World.block_lt_of_cell? _ _ (hHeld.2.2.2.2.2.2.2))).trans (hHeld.2.2.2.2.2.2.2)
            refine⟨_,rfl,?_⟩
            replace HO_3:=U.mk (Kd.R_below (by solve_by_elim only[HO_3.out,Kd.zv,Kd.zk,Kd.zw]) hb)
            replace BK102:=U.mk (kv (g:=gb102) (o:=.cells #[.int .i64 ((vz l0 x10_1).f0),.int .i64 ((vz l0 x10_1).f1),.string ((vz l0 x10_1).f2),.string ((vz l0 x10_1).f3)] 34 (0,0)) (by solve_by_elim only[BK102.out,qw,qx,qv]) hb)
            replace HB:=U.mk (zz (by solve_by_elim (maxDepth:=20) only[HB.out,G,J,qq,qk,GE102.out]) hb)
            (try clear hb)
            (try clear hb2)
            (try clear hk)
            (try clear hi)
            refine hK.out _ _ ⟨(qj BK102.out 0).trans rfl,(qj BK102.out 1).trans rfl,(qj BK102.out 2).trans rfl,(qj BK102.out 3).trans rfl,HS4_,HS5_,HS6_,HS7_⟩ (fun hHeld=>?_)
            clear hK K
            refine norm_ (a':=?_) ?_ ?_
            rotate_left
            ·show Act.put _ (some 39) _=_
             simp only[Act.put,jq5,jq6,jq7,i64_w,i32_w]
             rfl
            refine pure_ (i:=10) (N:=some 40) (v:=?_) (a':=?_) #[Z,Z,Z,Z,Z,Z,Z,Z,Z,Z,Z,Y] rfl rfl (any_of HT_.out (by kernel_rfl)) (fun _ _ _ h=>h) (Or.inl ⟨by rfl,?_⟩) ?_ ?_
            rotate_left
            ·intro w'
             go_simp
             with_reducible rfl
            rotate_left
            ·simp only[Act.put,jq5,jq6,jq7,i64_w,i32_w]
             rfl
            refine pure_ (i:=11) (N:=some 41) (v:=?_) (a':=?_) #[Z,Z,Z,Z,Z,Z,Z,Z,Z,Z,Z,Z] rfl rfl (any_of HT_.out (by kernel_rfl)) (fun _ _ _ h=>h) (Or.inl ⟨by rfl,?_⟩) ?_ ?_
            rotate_left
            ·intro w'
             go_simp
             with_reducible rfl
            rotate_left
            ·simp only[Act.put,jq5,jq6,jq7,i64_w,i32_w]
             rfl
            refine done_ (done_of HT_.out (by kernel_rfl)) ?_
            try go_wp2
            go_meet
            case rel=>exact⟨_,((t106 == 0)),(by first|rfl|(simp;done)|(simp[*];done)),H',⟨by have:=HK1.out;have:=HJ4.out;first|omega|exact Nat.le_refl _⟩,⟨by(with_reducible repeat(first|apply Kd.zv|apply Kd.zk|apply Kd.zw));exact HO_3.out⟩,⟨by(with_reducible repeat(first|refine qw ?_ _|refine qx ?_|refine qv ?_ _));exact BK102.out⟩,⟨by repeat(first|(with_reducible first|exact HB.out|apply G|apply J|apply qq|refine qk ?_ GE102.out)|exact HB.out)⟩⟩
           ·rw[if_neg c24] at H
            exact absurd H (by simp)
          ·rw[if_neg c23] at H
           exact absurd H (by simp)
         ·rw[if_neg c21] at H
          have c21b0:decide (0 < x6_4)=false:=decide_eq_false c21
          clear c21
          (first|rw[c21b0]|(simp only[i64_w,i32_w];rw[c21b0])|skip)
          have H':=U.mk H
          clear H
          try go_wp2
          go_quiet (fail)
          replace HO_3:=U.mk (Kd.zk HO_3.out nq)
          replace BK102:=U.mk (qw BK102.out nq)
          replace HB:=U.mk (J HB.out nq)
          generalize World.drewN wc nq=w28 at HO_3 BK102 HB ⊢
          try go_wp2
          go_meet
          case rel=>exact⟨_,(false),(by first|rfl|(simp;done)|(simp[*];done)),H',⟨by have:=HK1.out;have:=HJ4.out;first|omega|exact Nat.le_refl _⟩,⟨by(with_reducible repeat(first|apply Kd.zv|apply Kd.zk|apply Kd.zw));exact HO_3.out⟩,⟨by(with_reducible repeat(first|refine qw ?_ _|refine qx ?_|refine qv ?_ _));exact BK102.out⟩,⟨by repeat(first|(with_reducible first|exact HB.out|apply G|apply J|apply qq|refine qk ?_ GE102.out)|exact HB.out)⟩⟩
        case rest =>
         clear HC20
         try clear c1
         try clear p1
         try clear q1
         try clear hx1
         try clear c2
         try clear c2b0
         try clear p2
         try clear c3
         try clear c3b0
         try clear c4
         try clear c4b0
         try clear p6
         try clear c9
         try clear c9b0
         try clear p10
         try clear q10
         try clear hx10
         try clear c11
         try clear c11b0
         try clear c12
         try clear c12b0
         try clear c14
         try clear c14b0
         try clear c21
         try clear c21b0
         try clear c23
         try clear c23b0
         try clear c24
         try clear c24b0
         try clear hcz7_0
         try clear hcz7_1
         try clear hcz7_2
         try clear hcz7_3
         try clear hfz7_0
         try clear hfz7_1
         try clear hfz7_2
         try clear hfz7_3
         try clear hx101_0
         try clear hx101_1
         try clear hx101_2
         try clear hx101_3
         try clear hx103_0
         try clear hx103_1
         try clear hx103_2
         try clear hx103_3
         try clear hx105_0
         try clear hx105_1
         try clear hx105_2
         try clear hx105_3
         try clear p1
         try clear p10
         try clear p101
         try clear p103
         try clear p105
         try clear p2
         try clear p6
         try clear q1
         try clear q10
         try clear q101
         try clear q103
         try clear q105
         obtain⟨kq,x41_19,rfl,HA,HJ19,HO_3,BK102,HB⟩:=hcut
         cases kq with
         | zero=>exact absurd HA.out (by simp[qkx.j3])
         | succ kj19 =>
          have H:=HA.out
          clear HA
          simp only[qkx.j3] at H
          by_cases c29:x41_19=true
          ·subst c29
           have H1:(qkx.l0 kj19 x3_1 l0 (l0.length:Int) (wrap64 (x10_1 + 1)))=some r:=by rw[if_pos rfl] at H;exact H
           clear H
           have H:=H1
           clear H1
           have H':=U.mk H
           clear H
           go_wp2
           go_roundg kj19
           case measure=>have:=HK1.out;have:=HJ4.out;have:=HJ19.out;omega
           case rel=>exact⟨(x3_1),(wrap64 (x10_1 + 1)),(by first|rfl|(simp;done)|(simp[*];done)),H',⟨by have:=HK1.out;have:=HJ4.out;have:=HJ19.out;omega⟩,⟨by(with_reducible repeat(first|apply Kd.zv|apply Kd.zk|apply Kd.zw));exact Kd.R_mono HO_3.out (fun _ hk=>trivial)⟩,⟨by repeat(first|(with_reducible first|exact HB.out|apply G|apply J|apply qq|refine qk ?_ GE102.out)|exact HB.out)⟩⟩
          ·replace c29:=jq9.mpr c29
           subst c29
           have H1:(if x3_1.length < 2932031007402 then((some (x3_1 ++ [(⟨((vz l0 x10_1).f0),((vz l0 x10_1).f1),((vz l0 x10_1).f2),((vz l0 x10_1).f3)⟩ : S34)]:List (S34))).bind fun y107=>(qkx.l2 kj19 y107 x6_4 (wrap64 ((y107.length:Int) - 1)) l0 (l0.length:Int) x10_1 ((vz l0 x10_1).f0) ((vz l0 x10_1).f1) ((vz l0 x10_1).f2) ((vz l0 x10_1).f3))) else(none))=some r:=by rw[if_neg (show ¬ (false=true) by decide)] at H;exact H
           clear H
           have H:=H1
           clear H1
           by_cases c30:x3_1.length < 2932031007402
           ·rw[if_pos c30] at H
            have LMc30:=U.mk c30
            clear c30
            obtain⟨y107,hy107⟩ : ∃ y_:List (S34),y_=(x3_1 ++ [(⟨((vz l0 x10_1).f0),((vz l0 x10_1).f1),((vz l0 x10_1).f2),((vz l0 x10_1).f3)⟩ : S34)]):=⟨_,rfl⟩
            replace H:(qkx.l2 kj19 y107 x6_4 (wrap64 ((y107.length:Int) - 1)) l0 (l0.length:Int) x10_1 ((vz l0 x10_1).f0) ((vz l0 x10_1).f1) ((vz l0 x10_1).f2) ((vz l0 x10_1).f3))=some r:=by first|(rw[hy107];with_reducible exact H)|(have H2_:=(Option.bind_some _ _).symm.trans H;rw[hy107];with_reducible exact H2_)|(have H2_:=(Option.bind_some _ _).symm.trans H;with_reducible exact H2_)|with_reducible exact H|(rw[hy107];exact H)|exact H
            have Ny107:=U.mk hy107
            clear hy107
            have H':=U.mk H
            clear H
            have hcz31_0:wc.cell? ⟨gb102,0,none⟩ = some (.int .i64 ((vz l0 x10_1).f0)):=(qj BK102.out 0).trans rfl
            have hcz31_1:wc.cell? ⟨gb102,1,none⟩ = some (.int .i64 ((vz l0 x10_1).f1)):=(qj BK102.out 1).trans rfl
            have hcz31_2:wc.cell? ⟨gb102,2,none⟩ = some (.string ((vz l0 x10_1).f2)):=(qj BK102.out 2).trans rfl
            have hcz31_3:wc.cell? ⟨gb102,3,none⟩ = some (.string ((vz l0 x10_1).f3)):=(qj BK102.out 3).trans rfl
            have hfz31_0:=qz BK102.out 0
            have hfz31_1:=qz BK102.out 1
            have hfz31_2:=qz BK102.out 2
            have hfz31_3:=qz BK102.out 3
            go_wp2_with (first|((with_reducible refine gate_builtin (b:=.append) (xs:=#[.tmp 42,.tmp 44]) rfl ?_);at_builtin;refine Kd.R_append k34 (w0:=w) w.heap.size rfl (.tmp 42) (.tmp 44) 54 34 (.agg #[(.int .i64 0),(.int .i64 0),(.string ⟨#[]⟩),(.string ⟨#[]⟩)]) 48 rfl Try.underlying54 info34 rfl (by decide) (by omega) (.slice Ao8 x3_1.length co8) x3_1 (⟨((vz l0 x10_1).f0),((vz l0 x10_1).f1),((vz l0 x10_1).f2),((vz l0 x10_1).f3)⟩ : S34) [.int .i64 ((vz l0 x10_1).f0),.int .i64 ((vz l0 x10_1).f1),.string ((vz l0 x10_1).f2),.string ((vz l0 x10_1).f3)] (fun k_=>k_≠gb102) (fun _=>False) rfl rfl ?aP (fun _ hk=>hk.elim) ?aF ?aO ?aB ?aS ?aL ?_;(case aP=>exact k34_mkM _ _ _ (⟨((vz l0 x10_1).f0),((vz l0 x10_1).f1),((vz l0 x10_1).f2),((vz l0 x10_1).f3)⟩ : S34));(case aB=>exact(by solve_by_elim (maxDepth:=20) only[HB.out,G,J,qq,qk,GE102.out]));(case aF=>exact(fun k_ hk=>Kd.freshB (g:=gb102) (o:=.cells #[.int .i64 ((vz l0 x10_1).f0),.int .i64 ((vz l0 x10_1).f1),.string ((vz l0 x10_1).f2),.string ((vz l0 x10_1).f3)] 34 (0,0)) (by solve_by_elim only[BK102.out,qw,qx,qv]) k_ hk));(case aO=>exact(by solve_by_elim only[HO_3.out,Kd.zv,Kd.zk,Kd.zw]));(case aS=>exact(zj (by solve_by_elim (maxDepth:=20) only[HB.out,G,J,qq,qk,GE102.out])));(case aL=>have:=LMc30.out;omega);intro v108 w32 ho hb hg hat;rw[← Ny107.out] at ho;replace BK102:=U.mk (blk_grown (g:=gb102) (o:=.cells #[.int .i64 ((vz l0 x10_1).f0),.int .i64 ((vz l0 x10_1).f1),.string ((vz l0 x10_1).f2),.string ((vz l0 x10_1).f3)] 34 (0,0)) (by solve_by_elim only[BK102.out,qw,qx,qv]) hg (Kd.R_away HO_3.out (fun _ hk=>hk)));replace HB:=U.mk (hb);have HO109:=U.mk (ho);clear HO_3;clear ho hb hg hat;obtain⟨Ao33,co33,eo33⟩:=Kd.R_slice HO109.out;subst eo33))
            go_loopg [7] kj19 (fun kq v7 w'=>∃ (x3_4:List (S34)) (x7_4:Int) (x103000_4:Int) (x103001_4:Int) (x103002_4:ByteArray) (x103003_4:ByteArray),v7=.int .i64 x7_4∧U (qkx.l2 kq x3_4 x6_4 x7_4 l0 (l0.length:Int) x10_1 x103000_4 x103001_4 x103002_4 x103003_4=some r)∧U (kq≤kj19)∧U (Kd.R k34 34 w' w.heap.size (fun k_=>k_≠gb102) (.slice Ao33 y107.length co33) x3_4)∧U (w'.heap[gb102]? = some (.cells #[.int .i64 x103000_4,.int .i64 x103001_4,.string x103002_4,.string x103003_4] 34 (0,0)))∧U (Below w.heap.size w w'))
            case atStart=>exact⟨(y107),(wrap64 ((y107.length:Int) - 1)),(((vz l0 x10_1).f0)),(((vz l0 x10_1).f1)),(((vz l0 x10_1).f2)),(((vz l0 x10_1).f3)),(by first|rfl|(simp;done)|(simp[*];done)),H',⟨Nat.le_refl _⟩,⟨by(with_reducible repeat(first|apply Kd.zv|apply Kd.zk|apply Kd.zw));exact HO109.out⟩,⟨by(with_reducible repeat(first|refine qw ?_ _|refine qx ?_|refine qv ?_ _));exact BK102.out⟩,⟨by repeat(first|(with_reducible first|exact HB.out|apply G|apply J|apply qq|refine qk ?_ GE102.out)|exact HB.out)⟩⟩
            case round =>
             clear H'
             try clear c1
             try clear p1
             try clear q1
             try clear hx1
             try clear c2
             try clear c2b0
             try clear p2
             try clear c3
             try clear c3b0
             try clear c4
             try clear c4b0
             try clear p6
             try clear c9
             try clear c9b0
             try clear p10
             try clear q10
             try clear hx10
             try clear c11
             try clear c11b0
             try clear c12
             try clear c12b0
             try clear c14
             try clear c14b0
             try clear c21
             try clear c21b0
             try clear c23
             try clear c23b0
             try clear c24
             try clear c24b0
             try clear c29
             try clear c30
             try clear hcz31_0
             try clear hcz31_1
             try clear hcz31_2
             try clear hcz31_3
             try clear hcz7_0
             try clear hcz7_1
             try clear hcz7_2
             try clear hcz7_3
             try clear hfz31_0
             try clear hfz31_1
             try clear hfz31_2
             try clear hfz31_3
             try clear hfz7_0
             try clear hfz7_1
             try clear hfz7_2
             try clear hfz7_3
             try clear hx101_0
             try clear hx101_1
             try clear hx101_2
             try clear hx101_3
             try clear hx103_0
             try clear hx103_1
             try clear hx103_2
             try clear hx103_3
             try clear hx105_0
             try clear hx105_1
             try clear hx105_2
             try clear hx105_3
             try clear p1
             try clear p10
             try clear p101
             try clear p103
             try clear p105
             try clear p2
             try clear p6
             try clear q1
             try clear q10
             try clear q101
             try clear q103
             try clear q105
             obtain⟨x3_4,x7_4,x103000_4,x103001_4,x103002_4,x103003_4,rfl,HA,HK4,HO_3,BK102,HB⟩:=hrel
             have hl3_4:=(Kd.R_reads' HO_3.out).1
             rw[hl3_4] at HO_3
             (try simp only[hl3_4])
             (try simp only[hl3_4] at BK102)
             cases gk with
             | zero=>exact absurd HA.out (by simp[qkx.l2])
             | succ k4 =>
              have H:=HA.out
              clear HA
              simp only[qkx.l2] at H
              by_cases c34:x7_4 > x6_4
              ·rw[if_pos c34] at H
               have c34b0:decide (x6_4 < x7_4)=true:=decide_eq_true c34
               clear c34
               obtain⟨ji35,hji35⟩ : ∃ j_:Int,(wrap64 (x7_4 - 1))=j_:=⟨_,rfl⟩
               replace H:(if 0≤(ji35) then(if (ji35) < (x3_4.length:Int) then(if 0≤x7_4 then(if x7_4 < (x3_4.length:Int) then(qkx.l2 k4 (x3_4.set (x7_4:Int).toNat (⟨(vz x3_4 (ji35)).f0,(vz x3_4 (ji35)).f1,(vz x3_4 (ji35)).f2,(vz x3_4 (ji35)).f3⟩ : S34)) x6_4 ji35 l0 (l0.length:Int) x10_1 x103000_4 x103001_4 x103002_4 x103003_4) else(none)) else(none)) else(none)) else(none))=some r:=by first|(rw[hji35] at H;exact H)|(simp only[hji35] at H ⊢;exact H)
               have hji35w:(IntKind.i64.wrap (x7_4 - 1))=ji35:=(i64_w _).trans hji35
               by_cases c36 : 0≤(ji35)
               ·rw[if_pos c36] at H
                have c36b0:decide (0≤(ji35))=true:=decide_eq_true c36
                clear c36
                by_cases c37:(ji35) < (x3_4.length:Int)
                ·rw[if_pos c37] at H
                 have c37b0:decide ((ji35) < (x3_4.length:Int))=true:=decide_eq_true c37
                 clear c37
                 by_cases c38 : 0≤x7_4
                 ·rw[if_pos c38] at H
                  have c38b0:decide (0≤x7_4)=true:=decide_eq_true c38
                  clear c38
                  by_cases c39:x7_4 < (x3_4.length:Int)
                  ·rw[if_pos c39] at H
                   have c39b0:decide (x7_4 < (x3_4.length:Int))=true:=decide_eq_true c39
                   clear c39
                   obtain⟨y111,hy111⟩ : ∃ y_:List (S34),y_=(x3_4.set (x7_4:Int).toNat (⟨(vz x3_4 (ji35)).f0,(vz x3_4 (ji35)).f1,(vz x3_4 (ji35)).f2,(vz x3_4 (ji35)).f3⟩ : S34)):=⟨_,rfl⟩
                   replace H:(qkx.l2 k4 y111 x6_4 ji35 l0 (l0.length:Int) x10_1 x103000_4 x103001_4 x103002_4 x103003_4)=some r:=by first|(rw[hy111];with_reducible exact H)|(have H2_:=(Option.bind_some _ _).symm.trans H;rw[hy111];with_reducible exact H2_)|(have H2_:=(Option.bind_some _ _).symm.trans H;with_reducible exact H2_)|with_reducible exact H|(rw[hy111];exact H)|exact H
                   have Ny111:=U.mk hy111
                   clear hy111
                   have H':=U.mk H
                   clear H
                   have p110 : 0≤((ji35):Int):=of_decide_eq_true (by assumption)
                   have q110:(ji35) < (x3_4.length:Int):=of_decide_eq_true (by assumption)
                   obtain⟨ad110,e110,hx110_0,hx110_1,hx110_2,hx110_3⟩:=at_T34 (Kd.R_reads' HO_3.out).2.2 (ji35) p110 q110
                   cases e110
                   replace p110:=eq_true p110
                   replace q110:=eq_true q110
                   have p40 : 0≤(x7_4:Int):=of_decide_eq_true (by assumption)
                   have q40:(x7_4:Int) < ((x3_4.length:Int):Int):=of_decide_eq_true (by assumption)
                   obtain⟨go40,co40,eo40,gb40,gl40,cl40,HG40⟩:=Kd.R_form HO_3.out (by omega)
                   (first|cases eo40|(injection eo40 with ea_ en_ ec_;(first|subst ea_|(injection ea_ with ea_;subst ea_));subst ec_;clear en_))
                   have GB40:=U.mk gb40
                   have GG40:=U.mk HG40
                   clear gb40 gl40 HG40
                   (first|simp only[add_plain] at hx110_0|skip)
                   (first|simp only[add_plain] at hx110_1|skip)
                   (first|simp only[add_plain] at hx110_2|skip)
                   (first|simp only[add_plain] at hx110_3|skip)
                   obtain⟨ce40,hcl40,hM40,hcc40,hfr40⟩:=Kd.R_elem HO_3.out z34 (x7_4:Int) p40 q40
                   obtain rfl:=k34_openM hM40
                   have hx40_0:wr.cell? ⟨go40,(x7_4:Int).toNat * 4,none⟩ = some (.int .i64 ((vz x3_4 x7_4).f0)):=hcc40 0 _ rfl
                   have hx40_1:wr.cell? ⟨go40,(x7_4:Int).toNat * 4 + 1,none⟩ = some (.int .i64 ((vz x3_4 x7_4).f1)):=hcc40 1 _ rfl
                   have hx40_2:wr.cell? ⟨go40,(x7_4:Int).toNat * 4 + 2,none⟩ = some (.string ((vz x3_4 x7_4).f2)):=hcc40 2 _ rfl
                   have hx40_3:wr.cell? ⟨go40,(x7_4:Int).toNat * 4 + 3,none⟩ = some (.string ((vz x3_4 x7_4).f3)):=hcc40 3 _ rfl
                   have hf40_0:wr.frozen? ⟨go40,(x7_4:Int).toNat * 4,none⟩ = false:=hfr40 0
                   have hf40_1:wr.frozen? ⟨go40,(x7_4:Int).toNat * 4 + 1,none⟩ = false:=hfr40 1
                   have hf40_2:wr.frozen? ⟨go40,(x7_4:Int).toNat * 4 + 2,none⟩ = false:=hfr40 2
                   have hf40_3:wr.frozen? ⟨go40,(x7_4:Int).toNat * 4 + 3,none⟩ = false:=hfr40 3
                   clear hcl40 hcc40 hfr40;(try clear hM40)
                   replace p40:=eq_true p40
                   replace q40:=eq_true q40
                   have HX41:=U.mk (show Kd.R k34 34 wr w.heap.size (fun k_=>k_≠gb102) (.slice (some ⟨go40,0,none⟩) x3_4.length co33) x3_4 from(by solve_by_elim only[HO_3.out,Kd.zv,Kd.zk,Kd.zw]))
                   obtain⟨ce41,hcl41,hM41,hcc41,hfr41⟩:=Kd.R_elem HX41.out z34 (x7_4:Int) (of_decide_eq_true (by assumption)) (by have h_:(x7_4:Int) < ((x3_4.length:Int):Int):=of_decide_eq_true (by assumption);first|exact h_|(have e_:=(Kd.R_reads' HO_3.out).1;omega)|simpa using h_)
                   obtain rfl:=k34_openM hM41
                   have HP41:=Kd.R_seg HX41.out (x7_4:Int) (of_decide_eq_true (by assumption)) (by have h_:(x7_4:Int) < ((x3_4.length:Int):Int):=of_decide_eq_true (by assumption);first|exact h_|(have e_:=(Kd.R_reads' HO_3.out).1;omega)|simpa using h_) (seg:=[.int .i64 ((vz x3_4 (ji35)).f0),.int .i64 ((vz x3_4 (ji35)).f1),.string ((vz x3_4 (ji35)).f2),.string ((vz x3_4 (ji35)).f3)]) (j:=0) hcl41 hcc41 (show 4≤4 from by decide) (x':=(⟨(vz x3_4 (ji35)).f0,(vz x3_4 (ji35)).f1,(vz x3_4 (ji35)).f2,(vz x3_4 (ji35)).f3⟩ : S34)) (k34_mkM _ _ _ (⟨(vz x3_4 (ji35)).f0,(vz x3_4 (ji35)).f1,(vz x3_4 (ji35)).f2,(vz x3_4 (ji35)).f3⟩ : S34) ) (fun _ hk=>hk)
                   have hx41_0:=hcc41 0 _ rfl
                   (try simp only[show(k34).sz=4 from rfl,Nat.mul_one,Nat.add_zero] at hx41_0)
                   have hf41_0:=hfr41 0
                   (try simp only[show(k34).sz=4 from rfl,Nat.mul_one,Nat.add_zero] at hf41_0)
                   have hx41_1:=hcc41 1 _ rfl
                   (try simp only[show(k34).sz=4 from rfl,Nat.mul_one,Nat.add_zero] at hx41_1)
                   have hf41_1:=hfr41 1
                   (try simp only[show(k34).sz=4 from rfl,Nat.mul_one,Nat.add_zero] at hf41_1)
                   have hx41_2:=hcc41 2 _ rfl
                   (try simp only[show(k34).sz=4 from rfl,Nat.mul_one,Nat.add_zero] at hx41_2)
                   have hf41_2:=hfr41 2
                   (try simp only[show(k34).sz=4 from rfl,Nat.mul_one,Nat.add_zero] at hf41_2)
                   have hx41_3:=hcc41 3 _ rfl
                   (try simp only[show(k34).sz=4 from rfl,Nat.mul_one,Nat.add_zero] at hx41_3)
                   have hf41_3:=hfr41 3
                   (try simp only[show(k34).sz=4 from rfl,Nat.mul_one,Nat.add_zero] at hf41_3)
                   clear hcl41 hcc41 hfr41;(try clear hM41)
                   go_wp2_with (first|((with_reducible refine jx (t:=34) (p:=61) rfl ?_);refine kz (t:=34) (p:=61) (v:=?vo_w42) (w1:=((((wr.setCell ⟨go40,(x7_4:Int).toNat * 4,none⟩ (.int .i64 ((vz x3_4 (ji35)).f0))).setCell ⟨go40,(x7_4:Int).toNat * 4 + 1,none⟩ (.int .i64 ((vz x3_4 (ji35)).f1))).setCell ⟨go40,(x7_4:Int).toNat * 4 + 2,none⟩ (.string ((vz x3_4 (ji35)).f2))).setCell ⟨go40,(x7_4:Int).toNat * 4 + 3,none⟩ (.string ((vz x3_4 (ji35)).f3)))) ?hg ?ho ?hn ?hr ?_;(case ho=>rfl);(case hg=>rfl);(case hn=>rfl);(case hr=>first|(go_simp;done)|(go_simp;rfl));intro w42 hw;have hg:wr.grownBy w42 (some go40):=(by rw[hw];exact HP41.2);have hp_:Kd.R k34 34 w42 w.heap.size (fun k_=>k_≠gb102) (.slice (some ⟨go40,0,none⟩) x3_4.length co33) y111:=(by rw[hw,Ny111.out];exact HP41.1);clear HP41;replace BK102:=U.mk (blk_grown (g:=gb102) (o:=.cells #[.int .i64 x103000_4,.int .i64 x103001_4,.string x103002_4,.string x103003_4] 34 (0,0)) (by solve_by_elim only[BK102.out,qw,qx,qv]) hg (Kd.R_away HO_3.out (fun _ hk=>hk)));replace HO_3:=U.mk (hp_);replace HB:=U.mk ((by rw[hw];exact qk (qk (qk (qk (HB.out) GB40.out) GB40.out) GB40.out) GB40.out:Below w.heap.size w w42));clear hg hw hp_))
                   (try simp only[← hl3_4])
                   go_roundg k4
                   case measure=>have:=HK1.out;have:=HJ4.out;have:=HJ19.out;have:=HK4.out;omega
                   case rel=>exact⟨(y111),(ji35),(x103000_4),(x103001_4),(x103002_4),(x103003_4),(by first|rfl|(simp;done)|(simp only[← hji35] <;> (first|rfl|simp))|(simp[*];done)),H',⟨by have:=HK1.out;have:=HJ4.out;have:=HJ19.out;have:=HK4.out;omega⟩,⟨by(try simp only[hl3_4]);(with_reducible repeat(first|apply Kd.zv|apply Kd.zk|apply Kd.zw));exact HO_3.out⟩,⟨by(try simp only[hl3_4]);(with_reducible repeat(first|refine qw ?_ _|refine qx ?_|refine qv ?_ _));exact BK102.out⟩,⟨by repeat(first|(with_reducible first|exact HB.out|apply G|apply J|apply qq|refine qk ?_ GE102.out)|exact HB.out)⟩⟩
                  ·rw[if_neg c39] at H
                   exact absurd H (by simp)
                 ·rw[if_neg c38] at H
                  exact absurd H (by simp)
                ·rw[if_neg c37] at H
                 exact absurd H (by simp)
               ·rw[if_neg c36] at H
                exact absurd H (by simp)
              ·rw[if_neg c34] at H
               have c34b0:decide (x6_4 < x7_4)=false:=decide_eq_false c34
               clear c34
               by_cases c43 : 0≤x6_4
               ·rw[if_pos c43] at H
                have c43b0:decide (0≤x6_4)=true:=decide_eq_true c43
                clear c43
                by_cases c44:x6_4 < (x3_4.length:Int)
                ·rw[if_pos c44] at H
                 have c44b0:decide (x6_4 < (x3_4.length:Int))=true:=decide_eq_true c44
                 clear c44
                 obtain⟨y112,hy112⟩ : ∃ y_:List (S34),y_=(x3_4.set (x6_4:Int).toNat (⟨x103000_4,x103001_4,x103002_4,x103003_4⟩ : S34)):=⟨_,rfl⟩
                 replace H:(qkx.l0 k4 y112 l0 (l0.length:Int) (wrap64 (x10_1 + 1)))=some r:=by first|(rw[hy112];with_reducible exact H)|(have H2_:=(Option.bind_some _ _).symm.trans H;rw[hy112];with_reducible exact H2_)|(have H2_:=(Option.bind_some _ _).symm.trans H;with_reducible exact H2_)|with_reducible exact H|(rw[hy112];exact H)|exact H
                 have Ny112:=U.mk hy112
                 clear hy112
                 have H':=U.mk H
                 clear H
                 have hcz46_0:wr.cell? ⟨gb102,0,none⟩ = some (.int .i64 x103000_4):=(qj BK102.out 0).trans rfl
                 have hcz46_1:wr.cell? ⟨gb102,1,none⟩ = some (.int .i64 x103001_4):=(qj BK102.out 1).trans rfl
                 have hcz46_2:wr.cell? ⟨gb102,2,none⟩ = some (.string x103002_4):=(qj BK102.out 2).trans rfl
                 have hcz46_3:wr.cell? ⟨gb102,3,none⟩ = some (.string x103003_4):=(qj BK102.out 3).trans rfl
                 have hfz46_0:=qz BK102.out 0
                 have hfz46_1:=qz BK102.out 1
                 have hfz46_2:=qz BK102.out 2
                 have hfz46_3:=qz BK102.out 3
                 have p45 : 0≤(x6_4:Int):=of_decide_eq_true (by assumption)
                 have q45:(x6_4:Int) < ((x3_4.length:Int):Int):=of_decide_eq_true (by assumption)
                 obtain⟨go45,co45,eo45,gb45,gl45,cl45,HG45⟩:=Kd.R_form HO_3.out (by omega)
                 (first|cases eo45|(injection eo45 with ea_ en_ ec_;(first|subst ea_|(injection ea_ with ea_;subst ea_));subst ec_;clear en_))
                 have GB45:=U.mk gb45
                 have GG45:=U.mk HG45
                 clear gb45 gl45 HG45
                 obtain⟨ce45,hcl45,hM45,hcc45,hfr45⟩:=Kd.R_elem HO_3.out z34 (x6_4:Int) p45 q45
                 obtain rfl:=k34_openM hM45
                 have hx45_0:wr.cell? ⟨go45,(x6_4:Int).toNat * 4,none⟩ = some (.int .i64 ((vz x3_4 x6_4).f0)):=hcc45 0 _ rfl
                 have hx45_1:wr.cell? ⟨go45,(x6_4:Int).toNat * 4 + 1,none⟩ = some (.int .i64 ((vz x3_4 x6_4).f1)):=hcc45 1 _ rfl
                 have hx45_2:wr.cell? ⟨go45,(x6_4:Int).toNat * 4 + 2,none⟩ = some (.string ((vz x3_4 x6_4).f2)):=hcc45 2 _ rfl
                 have hx45_3:wr.cell? ⟨go45,(x6_4:Int).toNat * 4 + 3,none⟩ = some (.string ((vz x3_4 x6_4).f3)):=hcc45 3 _ rfl
                 have hf45_0:wr.frozen? ⟨go45,(x6_4:Int).toNat * 4,none⟩ = false:=hfr45 0
                 have hf45_1:wr.frozen? ⟨go45,(x6_4:Int).toNat * 4 + 1,none⟩ = false:=hfr45 1
                 have hf45_2:wr.frozen? ⟨go45,(x6_4:Int).toNat * 4 + 2,none⟩ = false:=hfr45 2
                 have hf45_3:wr.frozen? ⟨go45,(x6_4:Int).toNat * 4 + 3,none⟩ = false:=hfr45 3
                 clear hcl45 hcc45 hfr45;(try clear hM45)
                 replace p45:=eq_true p45
                 replace q45:=eq_true q45
                 have HX47:=U.mk (show Kd.R k34 34 wr w.heap.size (fun k_=>k_≠gb102) (.slice (some ⟨go45,0,none⟩) x3_4.length co33) x3_4 from(by solve_by_elim only[HO_3.out,Kd.zv,Kd.zk,Kd.zw]))
                 obtain⟨ce47,hcl47,hM47,hcc47,hfr47⟩:=Kd.R_elem HX47.out z34 (x6_4:Int) (of_decide_eq_true (by assumption)) (by have h_:(x6_4:Int) < ((x3_4.length:Int):Int):=of_decide_eq_true (by assumption);first|exact h_|(have e_:=(Kd.R_reads' HO_3.out).1;omega)|simpa using h_)
                 obtain rfl:=k34_openM hM47
                 have HP47:=Kd.R_seg HX47.out (x6_4:Int) (of_decide_eq_true (by assumption)) (by have h_:(x6_4:Int) < ((x3_4.length:Int):Int):=of_decide_eq_true (by assumption);first|exact h_|(have e_:=(Kd.R_reads' HO_3.out).1;omega)|simpa using h_) (seg:=[.int .i64 x103000_4,.int .i64 x103001_4,.string x103002_4,.string x103003_4]) (j:=0) hcl47 hcc47 (show 4≤4 from by decide) (x':=(⟨x103000_4,x103001_4,x103002_4,x103003_4⟩ : S34)) (k34_mkM _ _ _ (⟨x103000_4,x103001_4,x103002_4,x103003_4⟩ : S34) ) (fun _ hk=>hk)
                 have hx47_0:=hcc47 0 _ rfl
                 (try simp only[show(k34).sz=4 from rfl,Nat.mul_one,Nat.add_zero] at hx47_0)
                 have hf47_0:=hfr47 0
                 (try simp only[show(k34).sz=4 from rfl,Nat.mul_one,Nat.add_zero] at hf47_0)
                 have hx47_1:=hcc47 1 _ rfl
                 (try simp only[show(k34).sz=4 from rfl,Nat.mul_one,Nat.add_zero] at hx47_1)
                 have hf47_1:=hfr47 1
                 (try simp only[show(k34).sz=4 from rfl,Nat.mul_one,Nat.add_zero] at hf47_1)
                 have hx47_2:=hcc47 2 _ rfl
                 (try simp only[show(k34).sz=4 from rfl,Nat.mul_one,Nat.add_zero] at hx47_2)
                 have hf47_2:=hfr47 2
                 (try simp only[show(k34).sz=4 from rfl,Nat.mul_one,Nat.add_zero] at hf47_2)
                 have hx47_3:=hcc47 3 _ rfl
                 (try simp only[show(k34).sz=4 from rfl,Nat.mul_one,Nat.add_zero] at hx47_3)
                 have hf47_3:=hfr47 3
                 (try simp only[show(k34).sz=4 from rfl,Nat.mul_one,Nat.add_zero] at hf47_3)
                 clear hcl47 hcc47 hfr47;(try clear hM47)
                 go_wp2_with (first|((with_reducible refine jx (t:=34) (p:=65) rfl ?_);refine kz (t:=34) (p:=65) (v:=?vo_w48) (w1:=((((wr.setCell ⟨go45,(x6_4:Int).toNat * 4,none⟩ (.int .i64 x103000_4)).setCell ⟨go45,(x6_4:Int).toNat * 4 + 1,none⟩ (.int .i64 x103001_4)).setCell ⟨go45,(x6_4:Int).toNat * 4 + 2,none⟩ (.string x103002_4)).setCell ⟨go45,(x6_4:Int).toNat * 4 + 3,none⟩ (.string x103003_4))) ?hg ?ho ?hn ?hr ?_;(case ho=>rfl);(case hg=>rfl);(case hn=>rfl);(case hr=>first|(go_simp;done)|(go_simp;rfl));intro w48 hw;have hg:wr.grownBy w48 (some go45):=(by rw[hw];exact HP47.2);have hp_:Kd.R k34 34 w48 w.heap.size (fun k_=>k_≠gb102) (.slice (some ⟨go45,0,none⟩) x3_4.length co33) y112:=(by rw[hw,Ny112.out];exact HP47.1);clear HP47;replace BK102:=U.mk (blk_grown (g:=gb102) (o:=.cells #[.int .i64 x103000_4,.int .i64 x103001_4,.string x103002_4,.string x103003_4] 34 (0,0)) (by solve_by_elim only[BK102.out,qw,qx,qv]) hg (Kd.R_away HO_3.out (fun _ hk=>hk)));replace HO_3:=U.mk (hp_);replace HB:=U.mk ((by rw[hw];exact qk (qk (qk (qk (HB.out) GB45.out) GB45.out) GB45.out) GB45.out:Below w.heap.size w w48));clear hg hw hp_))
                 (try simp only[← hl3_4])
                 go_roundg k4
                 case measure=>have:=HK1.out;have:=HJ4.out;have:=HJ19.out;have:=HK4.out;omega
                 case rel=>exact⟨(y112),(wrap64 (x10_1 + 1)),(by first|rfl|(simp;done)|(simp[*];done)),H',⟨by have:=HK1.out;have:=HJ4.out;have:=HJ19.out;have:=HK4.out;omega⟩,⟨by(try simp only[hl3_4]);(with_reducible repeat(first|apply Kd.zv|apply Kd.zk|apply Kd.zw));exact Kd.R_mono HO_3.out (fun _ hk=>trivial)⟩,⟨by repeat(first|(with_reducible first|exact HB.out|apply G|apply J|apply qq|refine qk ?_ GE102.out)|exact HB.out)⟩⟩
                ·rw[if_neg c44] at H
                 exact absurd H (by simp)
               ·rw[if_neg c43] at H
                exact absurd H (by simp)
           ·rw[if_neg c30] at H
            exact absurd H (by simp)
     ·rw[if_neg c4] at H
      exact absurd H (by simp)
    ·rw[if_neg c3] at H
     exact absurd H (by simp)
   ·rw[if_neg c2] at H
    have c2b0:decide (x10_1 < (l0.length:Int))=false:=decide_eq_false c2
    clear c2
    obtain rfl:=Option.some.inj H
    go_wp2
    go_ret
    exact⟨_,by first|rfl|(simp[*,jv,jk] <;> rfl),by(with_reducible repeat(first|apply Kd.zv|apply Kd.zk|apply Kd.zw));exact HO_3.out,by repeat(first|(with_reducible first|exact HB.out|apply G|apply J|apply qq)|exact HB.out)⟩
end Go.Proofs.Ytccbjchlcelkgaa.Pr
namespace Go.Proofs.Ytccbjchlcelkgaa.Pr
open Go.RowKit Go.Proofs.YtccbjchlcelkgaaW.PrintWords Go.Proofs.YtccbjchlcelkgaaW.PrintLast Go.Proofs.YtccbjchlcelkgaaW.PrintMore
attribute [local go_sem] max2_int min2_int max_two min_two max_three min_three max_four min_four
set_option linter.unusedVariables false
set_option linter.unusedSimpArgs false
def qzj.l0:Nat→List (S34)→List (S34)→Int→Int→Option (Int × Int × Int × ByteArray × ByteArray × (List (S34)) × List ByteArray)
 | 0,_,_,_,_=>none
 | k + 1,x0,x10,x11,x12=>if x12 < x11 then(if 0≤x12 then(if x12 < (x10.length:Int) then((qqx.f k ((vz x10 x12).f0) ((vz x10 x12).f1) ((vz x10 x12).f2) ((vz x10 x12).f3)).bind fun t104=>(if t104=true then(qzj.l0 k x0 x10 x11 (wrap64 (x12 + 1))) else(some (0,0,0,(⟨#[]⟩ : ByteArray),(⟨#[]⟩ : ByteArray),([]:List (S34)),([]:List ByteArray))))) else(none)) else(none)) else((qkx.f k x0).bind fun t105=>(if (t105.length:Int) > 50 then(some (0,0,0,(⟨#[]⟩ : ByteArray),(⟨#[]⟩ : ByteArray),([]:List (S34)),([]:List ByteArray))) else(some (2,0,0,(⟨#[]⟩ : ByteArray),(⟨#[]⟩ : ByteArray),t105,([]:List ByteArray)))))
def qzj.f (k:Nat) (l0:List (S34)):Option (Int × Int × Int × ByteArray × ByteArray × (List (S34)) × List ByteArray):=if (l0.length:Int) > 1000 then(some (0,0,0,(⟨#[]⟩ : ByteArray),(⟨#[]⟩ : ByteArray),([]:List (S34)),([]:List ByteArray))) else(qzj.l0 k l0 l0 (l0.length:Int) 0)
theorem qzj.calls (k:Nat) (A0:Option Addr) (c0:Nat) (l0:List (S34)) (r1:Int) (r2:Int) (r3:Int) (r4:ByteArray) (r5:ByteArray) (r6:List (S34)) (r7:List ByteArray) (w:World) (hr0:Kd.C k34 w A0 l0.length l0) (hc0:l0.length≤c0) (h:qzj.f k l0=some (r1,r2,r3,r4,r5,r6,r7)) :
  Calls Try.prog 39 #[.slice A0 l0.length c0] w fun e w'=>∃ v5_ v6_:Value,e=.returned (.agg #[.int .i64 r1,.int .i64 r2,.int .i64 r3,.string r4,.string r5,v5_,v6_])∧Kd.R k34 34 w' w.heap.size (fun _=>True) v5_ r6∧Kd.R Kd.string 9 w' w.heap.size (fun _=>True) v6_ r7∧Below w.heap.size w w':=by
 have hu58:=Try.underlying58
 have hu34:=Try.underlying34
 have HR0:=U.mk hr0
 have HC0:=U.mk hc0
 clear hr0 hc0
 have HB:=U.mk (Below.refl w.heap.size w)
 unfold qzj.f at h
 have H:=h
 clear h
 by_cases c2:(l0.length:Int) > 1000
 ·rw[if_pos c2] at H
  have c2b0:decide (1000 < (l0.length:Int))=true:=decide_eq_true c2
  have c2b1:decide (1000 < l0.length)=true:=decide_eq_true (by omega)
  clear c2
  simp only[Option.some.injEq,Prod.mk.injEq] at H
  obtain⟨rfl,rfl,rfl,rfl,rfl,rfl,rfl⟩:=H
  go_enter Try.func39,Try.ntmps39
  go_wp2_with (first|((with_reducible refine gate_dst (N:=2) rfl ?_);refine box_event ?hg (N:=2) ?hd (cs:=#[.int .i64 0,.int .i64 0,.int .i64 0,.string (⟨#[]⟩ : ByteArray),.string (⟨#[]⟩ : ByteArray),.slice none 0 0,.slice none 0 0]) (t:=58) ?hr ?_;(case hd=>rfl);(case hg=>rfl);(case hr=>first|(go_simp;done)|(go_simp;rfl));intro gb101 hg w3 hbox hb;have BK101:=U.mk (hbox);have GW101:=U.mk ((by rw[hg];exact(zj (by solve_by_elim only[HB.out,G,J,qq])):w.heap.size≤gb101));have GE101:=U.mk ((by rw[hg];exact(zj (by solve_by_elim only[HB.out,G,J,qq])):w.heap.size≤gb101));replace HB:=U.mk (zz (by solve_by_elim only[HB.out,G,J,qq]) hb);clear hb hbox hg;have hcz4_0:w3.cell? ⟨gb101,0,none⟩ = some (.int .i64 0):=(qj BK101.out 0).trans rfl;have hcz4_1:w3.cell? ⟨gb101,1,none⟩ = some (.int .i64 0):=(qj BK101.out 1).trans rfl;have hcz4_2:w3.cell? ⟨gb101,2,none⟩ = some (.int .i64 0):=(qj BK101.out 2).trans rfl;have hcz4_3:w3.cell? ⟨gb101,3,none⟩ = some (.string (⟨#[]⟩ : ByteArray)):=(qj BK101.out 3).trans rfl;have hcz4_4:w3.cell? ⟨gb101,4,none⟩ = some (.string (⟨#[]⟩ : ByteArray)):=(qj BK101.out 4).trans rfl;have hcz4_5:w3.cell? ⟨gb101,5,none⟩ = some (.slice none 0 0):=(qj BK101.out 5).trans rfl;have hcz4_6:w3.cell? ⟨gb101,6,none⟩ = some (.slice none 0 0):=(qj BK101.out 6).trans rfl;have hfz4_0:=qz BK101.out 0;have hfz4_1:=qz BK101.out 1;have hfz4_2:=qz BK101.out 2;have hfz4_3:=qz BK101.out 3;have hfz4_4:=qz BK101.out 4;have hfz4_5:=qz BK101.out 5;have hfz4_6:=qz BK101.out 6))
  refine bodyPost_ret (results_cell_row rfl _ _ gb101 58 #[.int .i64 0,.int .i64 0,.int .i64 0,.string (⟨#[]⟩ : ByteArray),.string (⟨#[]⟩ : ByteArray),.slice none 0 0,.slice none 0 0] (0,0) _ rfl (by(with_reducible repeat(first|refine qw ?_ _|refine qx ?_|refine qv ?_ _));refine blk_put (cs:=#[.int .i64 0,.int .i64 0,.int .i64 0,.string (⟨#[]⟩ : ByteArray),.string (⟨#[]⟩ : ByteArray),.slice none 0 0,.slice none 0 0]) ?_ 6 _ rfl;(with_reducible repeat(first|refine qw ?_ _|refine qx ?_|refine qv ?_ _));refine blk_put (cs:=#[.int .i64 0,.int .i64 0,.int .i64 0,.string (⟨#[]⟩ : ByteArray),.string (⟨#[]⟩ : ByteArray),.slice none 0 0,.slice none 0 0]) ?_ 5 _ rfl;(with_reducible repeat(first|refine qw ?_ _|refine qx ?_|refine qv ?_ _));refine blk_put (cs:=#[.int .i64 0,.int .i64 0,.int .i64 0,.string (⟨#[]⟩ : ByteArray),.string (⟨#[]⟩ : ByteArray),.slice none 0 0,.slice none 0 0]) ?_ 4 _ rfl;(with_reducible repeat(first|refine qw ?_ _|refine qx ?_|refine qv ?_ _));refine blk_put (cs:=#[.int .i64 0,.int .i64 0,.int .i64 0,.string (⟨#[]⟩ : ByteArray),.string (⟨#[]⟩ : ByteArray),.slice none 0 0,.slice none 0 0]) ?_ 3 _ rfl;(with_reducible repeat(first|refine qw ?_ _|refine qx ?_|refine qv ?_ _));refine blk_put (cs:=#[.int .i64 0,.int .i64 0,.int .i64 0,.string (⟨#[]⟩ : ByteArray),.string (⟨#[]⟩ : ByteArray),.slice none 0 0,.slice none 0 0]) ?_ 2 _ rfl;(with_reducible repeat(first|refine qw ?_ _|refine qx ?_|refine qv ?_ _));refine blk_put (cs:=#[.int .i64 0,.int .i64 0,.int .i64 0,.string (⟨#[]⟩ : ByteArray),.string (⟨#[]⟩ : ByteArray),.slice none 0 0,.slice none 0 0]) ?_ 1 _ rfl;(with_reducible repeat(first|refine qw ?_ _|refine qx ?_|refine qv ?_ _));refine blk_put (cs:=#[.int .i64 0,.int .i64 0,.int .i64 0,.string (⟨#[]⟩ : ByteArray),.string (⟨#[]⟩ : ByteArray),.slice none 0 0,.slice none 0 0]) ?_ 0 _ rfl;(with_reducible repeat(first|refine qw ?_ _|refine qx ?_|refine qv ?_ _));exact BK101.out) Try.underlying58 rfl (by kernel_rfl)) rfl ?_
  exact⟨_,_,by first|rfl|(simp[*,jv,jk] <;> rfl),by first|exact Kd.R_nil _ _ _ _ _|exact Kd.N_nil _ _ _ _ _|exact Kd.V_nil _ _ _ _ _|exact Kd.Q_nil _ _ _ _ _|exact Kd.S_nil _ _ _ _ _,by first|exact Kd.R_nil _ _ _ _ _|exact Kd.N_nil _ _ _ _ _|exact Kd.V_nil _ _ _ _ _|exact Kd.Q_nil _ _ _ _ _|exact Kd.S_nil _ _ _ _ _,by repeat(first|(with_reducible first|exact HB.out|apply G|apply J|apply qq|refine qk ?_ GE101.out)|exact HB.out)⟩
 ·rw[if_neg c2] at H
  have c2b0:decide (1000 < (l0.length:Int))=false:=decide_eq_false c2
  have c2b1:decide (1000 < l0.length)=false:=decide_eq_false (by omega)
  clear c2
  have H':=U.mk H
  clear H
  go_enter Try.func39,Try.ntmps39
  go_wp2_with (first|((with_reducible refine gate_dst (N:=2) rfl ?_);refine box_event ?hg (N:=2) ?hd (cs:=#[.int .i64 0,.int .i64 0,.int .i64 0,.string (⟨#[]⟩ : ByteArray),.string (⟨#[]⟩ : ByteArray),.slice none 0 0,.slice none 0 0]) (t:=58) ?hr ?_;(case hd=>rfl);(case hg=>rfl);(case hr=>first|(go_simp;done)|(go_simp;rfl));intro gb101 hg w5 hbox hb;have BK101:=U.mk (hbox);have GW101:=U.mk ((by rw[hg];exact(zj (by solve_by_elim only[HB.out,G,J,qq])):w.heap.size≤gb101));have GE101:=U.mk ((by rw[hg];exact(zj (by solve_by_elim only[HB.out,G,J,qq])):w.heap.size≤gb101));replace HB:=U.mk (zz (by solve_by_elim only[HB.out,G,J,qq]) hb);clear hb hbox hg))
  go_loopg [12] k (fun kq v12 w'=>∃ (x12_1:Int) (x102000_1:Int) (x102001_1:Int) (x102002_1:Int) (x102003_1:ByteArray) (x102004_1:ByteArray),v12=.int .i64 x12_1∧U (qzj.l0 kq l0 l0 (l0.length:Int) x12_1=some (r1,r2,r3,r4,r5,r6,r7))∧U (kq≤k)∧U (w'.heap[gb101]? = some (.cells #[.int .i64 x102000_1,.int .i64 x102001_1,.int .i64 x102002_1,.string x102003_1,.string x102004_1,(.slice none 0 0),(.slice none 0 0)] 58 (0,0)))∧U (Below w.heap.size w w'))
  case atStart=>exact⟨(0),(0),(0),(0),((⟨#[]⟩ : ByteArray)),((⟨#[]⟩ : ByteArray)),(by first|rfl|(simp;done)|(simp[*];done)),H',⟨Nat.le_refl _⟩,⟨by(with_reducible repeat(first|refine qw ?_ _|refine qx ?_|refine qv ?_ _));exact BK101.out⟩,⟨by repeat(first|(with_reducible first|exact HB.out|apply G|apply J|apply qq|refine qk ?_ GE101.out)|exact HB.out)⟩⟩
  case round =>
   clear H'
   try clear c2
   try clear c2b0
   try clear c2b1
   try clear p2
   try clear c3
   try clear hcz4_0
   try clear hcz4_1
   try clear hcz4_2
   try clear hcz4_3
   try clear hcz4_4
   try clear hcz4_5
   try clear hcz4_6
   try clear hfz4_0
   try clear hfz4_1
   try clear hfz4_2
   try clear hfz4_3
   try clear hfz4_4
   try clear hfz4_5
   try clear hfz4_6
   obtain⟨x12_1,x102000_1,x102001_1,x102002_1,x102003_1,x102004_1,rfl,HA,HK1,BK101,HB⟩:=hrel
   cases gk with
   | zero=>exact absurd HA.out (by simp[qzj.l0])
   | succ k1 =>
    have H:=HA.out
    clear HA
    simp only[qzj.l0] at H
    by_cases c6:x12_1 < (l0.length:Int)
    ·rw[if_pos c6] at H
     have c6b0:decide (x12_1 < (l0.length:Int))=true:=decide_eq_true c6
     clear c6
     by_cases c7 : 0≤x12_1
     ·rw[if_pos c7] at H
      have c7b0:decide (0≤x12_1)=true:=decide_eq_true c7
      clear c7
      by_cases c8:x12_1 < (l0.length:Int)
      ·rw[if_pos c8] at H
       have c8b0:decide (x12_1 < (l0.length:Int))=true:=decide_eq_true c8
       clear c8
       replace H:=jq8.mp H
       obtain⟨t104,A90,H⟩:=H
       try dsimp only at H
       have A9:=U.mk A90
       clear A90
       by_cases c10:t104=true
       ·subst c10
        have H1:(qzj.l0 k1 l0 l0 (l0.length:Int) (wrap64 (x12_1 + 1)))=some (r1,r2,r3,r4,r5,r6,r7):=by rw[if_pos rfl] at H;exact H
        clear H
        have H:=H1
        clear H1
        have H':=U.mk H
        clear H
        have p102 : 0≤(x12_1:Int):=of_decide_eq_true (by assumption)
        have q102:x12_1 < (l0.length:Int):=of_decide_eq_true (by assumption)
        obtain⟨ad102,e102,hx102_0,hx102_1,hx102_2,hx102_3⟩:=at_T34 HR0.out x12_1 p102 q102
        cases e102
        replace hx102_0:=(HB.out.cell (World.block_lt_of_cell? w _ hx102_0)).trans hx102_0
        replace hx102_1:=(HB.out.cell (World.block_lt_of_cell? w _ hx102_1)).trans hx102_1
        replace hx102_2:=(HB.out.cell (World.block_lt_of_cell? w _ hx102_2)).trans hx102_2
        replace hx102_3:=(HB.out.cell (World.block_lt_of_cell? w _ hx102_3)).trans hx102_3
        replace p102:=eq_true p102
        replace q102:=eq_true q102
        go_wp2_with (first|((with_reducible refine gate_dst (N:=4) rfl ?_);refine box_event ?hg (N:=4) ?hd (cs:=#[.int .i64 0,.int .i64 0,.string (⟨#[]⟩ : ByteArray),.string (⟨#[]⟩ : ByteArray)]) (t:=34) ?hr ?_;(case hd=>rfl);(case hg=>rfl);(case hr=>first|(go_simp;done)|(go_simp;rfl));intro gb103 hg w11 hbox hb;have BK103:=U.mk (hbox);have GW103:=U.mk ((by rw[hg];exact(zj (by solve_by_elim (maxDepth:=20) only[HB.out,G,J,qq,qk,GE101.out])):w.heap.size≤gb103));have GE103:=U.mk ((by rw[hg];exact(zj (by solve_by_elim (maxDepth:=20) only[HB.out,G,J,qq,qk,GE101.out])):w.heap.size≤gb103));replace HB:=U.mk (zz (by solve_by_elim (maxDepth:=20) only[HB.out,G,J,qq,qk,GE101.out]) hb);have NB101_103:=U.mk ((by rw[hg];exact Nat.ne_of_lt (blk_lt (g:=gb101) (o:=.cells #[.int .i64 x102000_1,.int .i64 x102001_1,.int .i64 x102002_1,.string x102003_1,.string x102004_1,.slice none 0 0,.slice none 0 0] 58 (0,0)) (by solve_by_elim only[BK101.out,qw,qx,qv])):gb101≠gb103));have NB103_101:=U.mk ((by rw[hg];exact Nat.ne_of_gt (blk_lt (g:=gb101) (o:=.cells #[.int .i64 x102000_1,.int .i64 x102001_1,.int .i64 x102002_1,.string x102003_1,.string x102004_1,.slice none 0 0,.slice none 0 0] 58 (0,0)) (by solve_by_elim only[BK101.out,qw,qx,qv])):gb103≠gb101));replace BK101:=U.mk (kv (g:=gb101) (o:=.cells #[.int .i64 x102000_1,.int .i64 x102001_1,.int .i64 x102002_1,.string x102003_1,.string x102004_1,.slice none 0 0,.slice none 0 0] 58 (0,0)) (by solve_by_elim only[BK101.out,qw,qx,qv]) hb);clear hb hbox hg;have hnb12:=NB103_101.out;have hnc12:=NB101_103.out;have hcz13_0:w11.cell? ⟨gb103,0,none⟩ = some (.int .i64 0):=(qj BK103.out 0).trans rfl;have hcz13_1:w11.cell? ⟨gb103,1,none⟩ = some (.int .i64 0):=(qj BK103.out 1).trans rfl;have hcz13_2:w11.cell? ⟨gb103,2,none⟩ = some (.string (⟨#[]⟩ : ByteArray)):=(qj BK103.out 2).trans rfl;have hcz13_3:w11.cell? ⟨gb103,3,none⟩ = some (.string (⟨#[]⟩ : ByteArray)):=(qj BK103.out 3).trans rfl;have hfz13_0:=qz BK103.out 0;have hfz13_1:=qz BK103.out 1;have hfz13_2:=qz BK103.out 2;have hfz13_3:=qz BK103.out 3)|((with_reducible refine jw (f:=25) rfl ?_);refine goesL_ (some 17) rfl rfl Try.func25 (by kernel_rfl) rfl #[.agg #[.int .i64 ((vz l0 x12_1).f0),.int .i64 ((vz l0 x12_1).f1),.string ((vz l0 x12_1).f2),.string ((vz l0 x12_1).f3)]] rfl (by(try simp only[jq0,jq1,jq2]);first|done|rfl|(simp only[jq3,jq4];rfl)) ?_;(with_reducible refine(qqx.calls k1 ((vz l0 x12_1).f0) ((vz l0 x12_1).f1) ((vz l0 x12_1).f2) ((vz l0 x12_1).f3) true _ A9.out).mono ?_);rintro e w14 ⟨rfl,hb⟩;refine⟨_,rfl,?_⟩;replace BK101:=U.mk (kv (g:=gb101) (o:=.cells #[.int .i64 x102000_1,.int .i64 x102001_1,.int .i64 x102002_1,.string x102003_1,.string x102004_1,.slice none 0 0,.slice none 0 0] 58 (0,0)) (by(with_reducible repeat(first|refine qw ?_ _|refine qx ?_|refine qv ?_ _));refine blk_far ?_ NB101_103.out _;(with_reducible repeat(first|refine qw ?_ _|refine qx ?_|refine qv ?_ _));refine blk_far ?_ NB101_103.out _;(with_reducible repeat(first|refine qw ?_ _|refine qx ?_|refine qv ?_ _));refine blk_far ?_ NB101_103.out _;(with_reducible repeat(first|refine qw ?_ _|refine qx ?_|refine qv ?_ _));refine blk_far ?_ NB101_103.out _;(with_reducible repeat(first|refine qw ?_ _|refine qx ?_|refine qv ?_ _));exact BK101.out) hb);replace BK103:=U.mk (kv (g:=gb103) (o:=.cells #[.int .i64 ((vz l0 x12_1).f0),.int .i64 ((vz l0 x12_1).f1),.string ((vz l0 x12_1).f2),.string ((vz l0 x12_1).f3)] 34 (0,0)) (by(with_reducible repeat(first|refine qw ?_ _|refine qx ?_|refine qv ?_ _));refine blk_put (cs:=#[.int .i64 ((vz l0 x12_1).f0),.int .i64 ((vz l0 x12_1).f1),.string ((vz l0 x12_1).f2),.string (⟨#[]⟩ : ByteArray)]) ?_ 3 _ rfl;(with_reducible repeat(first|refine qw ?_ _|refine qx ?_|refine qv ?_ _));refine blk_put (cs:=#[.int .i64 ((vz l0 x12_1).f0),.int .i64 ((vz l0 x12_1).f1),.string (⟨#[]⟩ : ByteArray),.string (⟨#[]⟩ : ByteArray)]) ?_ 2 _ rfl;(with_reducible repeat(first|refine qw ?_ _|refine qx ?_|refine qv ?_ _));refine blk_put (cs:=#[.int .i64 ((vz l0 x12_1).f0),.int .i64 0,.string (⟨#[]⟩ : ByteArray),.string (⟨#[]⟩ : ByteArray)]) ?_ 1 _ rfl;(with_reducible repeat(first|refine qw ?_ _|refine qx ?_|refine qv ?_ _));refine blk_put (cs:=#[.int .i64 0,.int .i64 0,.string (⟨#[]⟩ : ByteArray),.string (⟨#[]⟩ : ByteArray)]) ?_ 0 _ rfl;(with_reducible repeat(first|refine qw ?_ _|refine qx ?_|refine qv ?_ _));exact BK103.out) hb);replace HB:=U.mk (zz (by solve_by_elim (maxDepth:=20) only[HB.out,G,J,qq,qk,GE101.out,qk,GE103.out]) hb);(try clear hb)))
        go_roundg k1
        case measure=>have:=HK1.out;omega
        case rel=>exact⟨(wrap64 (x12_1 + 1)),(x102000_1),(x102001_1),(x102002_1),(x102003_1),(x102004_1),(by first|rfl|(simp;done)|(simp[*];done)),H',⟨by have:=HK1.out;omega⟩,⟨by(with_reducible repeat(first|refine qw ?_ _|refine qx ?_|refine qv ?_ _));exact BK101.out⟩,⟨by repeat(first|(with_reducible first|exact HB.out|apply G|apply J|apply qq|refine qk ?_ GE101.out|refine qk ?_ GE103.out)|exact HB.out)⟩⟩
       ·replace c10:=jq9.mpr c10
        subst c10
        have H1:(some (0,0,0,(⟨#[]⟩ : ByteArray),(⟨#[]⟩ : ByteArray),([]:List (S34)),([]:List ByteArray)))=some (r1,r2,r3,r4,r5,r6,r7):=by rw[if_neg (show ¬ (false=true) by decide)] at H;exact H
        clear H
        have H:=H1
        clear H1
        simp only[Option.some.injEq,Prod.mk.injEq] at H
        obtain⟨rfl,rfl,rfl,rfl,rfl,rfl,rfl⟩:=H
        have p102 : 0≤(x12_1:Int):=of_decide_eq_true (by assumption)
        have q102:x12_1 < (l0.length:Int):=of_decide_eq_true (by assumption)
        obtain⟨ad102,e102,hx102_0,hx102_1,hx102_2,hx102_3⟩:=at_T34 HR0.out x12_1 p102 q102
        cases e102
        replace hx102_0:=(HB.out.cell (World.block_lt_of_cell? w _ hx102_0)).trans hx102_0
        replace hx102_1:=(HB.out.cell (World.block_lt_of_cell? w _ hx102_1)).trans hx102_1
        replace hx102_2:=(HB.out.cell (World.block_lt_of_cell? w _ hx102_2)).trans hx102_2
        replace hx102_3:=(HB.out.cell (World.block_lt_of_cell? w _ hx102_3)).trans hx102_3
        replace p102:=eq_true p102
        replace q102:=eq_true q102
        go_wp2_with (first|((with_reducible refine gate_dst (N:=4) rfl ?_);refine box_event ?hg (N:=4) ?hd (cs:=#[.int .i64 0,.int .i64 0,.string (⟨#[]⟩ : ByteArray),.string (⟨#[]⟩ : ByteArray)]) (t:=34) ?hr ?_;(case hd=>rfl);(case hg=>rfl);(case hr=>first|(go_simp;done)|(go_simp;rfl));intro gb103 hg w15 hbox hb;have BK103:=U.mk (hbox);have GW103:=U.mk ((by rw[hg];exact(zj (by solve_by_elim (maxDepth:=20) only[HB.out,G,J,qq,qk,GE101.out])):w.heap.size≤gb103));have GE103:=U.mk ((by rw[hg];exact(zj (by solve_by_elim (maxDepth:=20) only[HB.out,G,J,qq,qk,GE101.out])):w.heap.size≤gb103));replace HB:=U.mk (zz (by solve_by_elim (maxDepth:=20) only[HB.out,G,J,qq,qk,GE101.out]) hb);have NB101_103:=U.mk ((by rw[hg];exact Nat.ne_of_lt (blk_lt (g:=gb101) (o:=.cells #[.int .i64 x102000_1,.int .i64 x102001_1,.int .i64 x102002_1,.string x102003_1,.string x102004_1,.slice none 0 0,.slice none 0 0] 58 (0,0)) (by solve_by_elim only[BK101.out,qw,qx,qv])):gb101≠gb103));have NB103_101:=U.mk ((by rw[hg];exact Nat.ne_of_gt (blk_lt (g:=gb101) (o:=.cells #[.int .i64 x102000_1,.int .i64 x102001_1,.int .i64 x102002_1,.string x102003_1,.string x102004_1,.slice none 0 0,.slice none 0 0] 58 (0,0)) (by solve_by_elim only[BK101.out,qw,qx,qv])):gb103≠gb101));replace BK101:=U.mk (kv (g:=gb101) (o:=.cells #[.int .i64 x102000_1,.int .i64 x102001_1,.int .i64 x102002_1,.string x102003_1,.string x102004_1,.slice none 0 0,.slice none 0 0] 58 (0,0)) (by solve_by_elim only[BK101.out,qw,qx,qv]) hb);clear hb hbox hg;have hnb16:=NB103_101.out;have hnc16:=NB101_103.out;have hcz17_0:w15.cell? ⟨gb103,0,none⟩ = some (.int .i64 0):=(qj BK103.out 0).trans rfl;have hcz17_1:w15.cell? ⟨gb103,1,none⟩ = some (.int .i64 0):=(qj BK103.out 1).trans rfl;have hcz17_2:w15.cell? ⟨gb103,2,none⟩ = some (.string (⟨#[]⟩ : ByteArray)):=(qj BK103.out 2).trans rfl;have hcz17_3:w15.cell? ⟨gb103,3,none⟩ = some (.string (⟨#[]⟩ : ByteArray)):=(qj BK103.out 3).trans rfl;have hfz17_0:=qz BK103.out 0;have hfz17_1:=qz BK103.out 1;have hfz17_2:=qz BK103.out 2;have hfz17_3:=qz BK103.out 3)|((with_reducible refine jw (f:=25) rfl ?_);refine goesL_ (some 17) rfl rfl Try.func25 (by kernel_rfl) rfl #[.agg #[.int .i64 ((vz l0 x12_1).f0),.int .i64 ((vz l0 x12_1).f1),.string ((vz l0 x12_1).f2),.string ((vz l0 x12_1).f3)]] rfl (by(try simp only[jq0,jq1,jq2]);first|done|rfl|(simp only[jq3,jq4];rfl)) ?_;(with_reducible refine(qqx.calls k1 ((vz l0 x12_1).f0) ((vz l0 x12_1).f1) ((vz l0 x12_1).f2) ((vz l0 x12_1).f3) false _ A9.out).mono ?_);rintro e w18 ⟨rfl,hb⟩;refine⟨_,rfl,?_⟩;replace BK101:=U.mk (kv (g:=gb101) (o:=.cells #[.int .i64 x102000_1,.int .i64 x102001_1,.int .i64 x102002_1,.string x102003_1,.string x102004_1,.slice none 0 0,.slice none 0 0] 58 (0,0)) (by(with_reducible repeat(first|refine qw ?_ _|refine qx ?_|refine qv ?_ _));refine blk_far ?_ NB101_103.out _;(with_reducible repeat(first|refine qw ?_ _|refine qx ?_|refine qv ?_ _));refine blk_far ?_ NB101_103.out _;(with_reducible repeat(first|refine qw ?_ _|refine qx ?_|refine qv ?_ _));refine blk_far ?_ NB101_103.out _;(with_reducible repeat(first|refine qw ?_ _|refine qx ?_|refine qv ?_ _));refine blk_far ?_ NB101_103.out _;(with_reducible repeat(first|refine qw ?_ _|refine qx ?_|refine qv ?_ _));exact BK101.out) hb);replace BK103:=U.mk (kv (g:=gb103) (o:=.cells #[.int .i64 ((vz l0 x12_1).f0),.int .i64 ((vz l0 x12_1).f1),.string ((vz l0 x12_1).f2),.string ((vz l0 x12_1).f3)] 34 (0,0)) (by(with_reducible repeat(first|refine qw ?_ _|refine qx ?_|refine qv ?_ _));refine blk_put (cs:=#[.int .i64 ((vz l0 x12_1).f0),.int .i64 ((vz l0 x12_1).f1),.string ((vz l0 x12_1).f2),.string (⟨#[]⟩ : ByteArray)]) ?_ 3 _ rfl;(with_reducible repeat(first|refine qw ?_ _|refine qx ?_|refine qv ?_ _));refine blk_put (cs:=#[.int .i64 ((vz l0 x12_1).f0),.int .i64 ((vz l0 x12_1).f1),.string (⟨#[]⟩ : ByteArray),.string (⟨#[]⟩ : ByteArray)]) ?_ 2 _ rfl;(with_reducible repeat(first|refine qw ?_ _|refine qx ?_|refine qv ?_ _));refine blk_put (cs:=#[.int .i64 ((vz l0 x12_1).f0),.int .i64 0,.string (⟨#[]⟩ : ByteArray),.string (⟨#[]⟩ : ByteArray)]) ?_ 1 _ rfl;(with_reducible repeat(first|refine qw ?_ _|refine qx ?_|refine qv ?_ _));refine blk_put (cs:=#[.int .i64 0,.int .i64 0,.string (⟨#[]⟩ : ByteArray),.string (⟨#[]⟩ : ByteArray)]) ?_ 0 _ rfl;(with_reducible repeat(first|refine qw ?_ _|refine qx ?_|refine qv ?_ _));exact BK103.out) hb);replace HB:=U.mk (zz (by solve_by_elim (maxDepth:=20) only[HB.out,G,J,qq,qk,GE101.out,qk,GE103.out]) hb);(try clear hb);have hcz19_0:w18.cell? ⟨gb101,0,none⟩ = some (.int .i64 x102000_1):=(qj BK101.out 0).trans rfl;have hcz19_1:w18.cell? ⟨gb101,1,none⟩ = some (.int .i64 x102001_1):=(qj BK101.out 1).trans rfl;have hcz19_2:w18.cell? ⟨gb101,2,none⟩ = some (.int .i64 x102002_1):=(qj BK101.out 2).trans rfl;have hcz19_3:w18.cell? ⟨gb101,3,none⟩ = some (.string x102003_1):=(qj BK101.out 3).trans rfl;have hcz19_4:w18.cell? ⟨gb101,4,none⟩ = some (.string x102004_1):=(qj BK101.out 4).trans rfl;have hcz19_5:w18.cell? ⟨gb101,5,none⟩ = some (.slice none 0 0):=(qj BK101.out 5).trans rfl;have hcz19_6:w18.cell? ⟨gb101,6,none⟩ = some (.slice none 0 0):=(qj BK101.out 6).trans rfl;have hfz19_0:=qz BK101.out 0;have hfz19_1:=qz BK101.out 1;have hfz19_2:=qz BK101.out 2;have hfz19_3:=qz BK101.out 3;have hfz19_4:=qz BK101.out 4;have hfz19_5:=qz BK101.out 5;have hfz19_6:=qz BK101.out 6))
        refine bodyPost_ret (results_cell_row rfl _ _ gb101 58 #[.int .i64 0,.int .i64 0,.int .i64 0,.string (⟨#[]⟩ : ByteArray),.string (⟨#[]⟩ : ByteArray),.slice none 0 0,.slice none 0 0] (0,0) _ rfl (by(with_reducible repeat(first|refine qw ?_ _|refine qx ?_|refine qv ?_ _));refine blk_put (cs:=#[.int .i64 0,.int .i64 0,.int .i64 0,.string (⟨#[]⟩ : ByteArray),.string (⟨#[]⟩ : ByteArray),.slice none 0 0,.slice none 0 0]) ?_ 6 _ rfl;(with_reducible repeat(first|refine qw ?_ _|refine qx ?_|refine qv ?_ _));refine blk_put (cs:=#[.int .i64 0,.int .i64 0,.int .i64 0,.string (⟨#[]⟩ : ByteArray),.string (⟨#[]⟩ : ByteArray),.slice none 0 0,.slice none 0 0]) ?_ 5 _ rfl;(with_reducible repeat(first|refine qw ?_ _|refine qx ?_|refine qv ?_ _));refine blk_put (cs:=#[.int .i64 0,.int .i64 0,.int .i64 0,.string (⟨#[]⟩ : ByteArray),.string x102004_1,.slice none 0 0,.slice none 0 0]) ?_ 4 _ rfl;(with_reducible repeat(first|refine qw ?_ _|refine qx ?_|refine qv ?_ _));refine blk_put (cs:=#[.int .i64 0,.int .i64 0,.int .i64 0,.string x102003_1,.string x102004_1,.slice none 0 0,.slice none 0 0]) ?_ 3 _ rfl;(with_reducible repeat(first|refine qw ?_ _|refine qx ?_|refine qv ?_ _));refine blk_put (cs:=#[.int .i64 0,.int .i64 0,.int .i64 x102002_1,.string x102003_1,.string x102004_1,.slice none 0 0,.slice none 0 0]) ?_ 2 _ rfl;(with_reducible repeat(first|refine qw ?_ _|refine qx ?_|refine qv ?_ _));refine blk_put (cs:=#[.int .i64 0,.int .i64 x102001_1,.int .i64 x102002_1,.string x102003_1,.string x102004_1,.slice none 0 0,.slice none 0 0]) ?_ 1 _ rfl;(with_reducible repeat(first|refine qw ?_ _|refine qx ?_|refine qv ?_ _));refine blk_put (cs:=#[.int .i64 x102000_1,.int .i64 x102001_1,.int .i64 x102002_1,.string x102003_1,.string x102004_1,.slice none 0 0,.slice none 0 0]) ?_ 0 _ rfl;(with_reducible repeat(first|refine qw ?_ _|refine qx ?_|refine qv ?_ _));exact BK101.out) Try.underlying58 rfl (by kernel_rfl)) rfl ?_
        exact⟨_,_,by first|rfl|(simp[*,jv,jk] <;> rfl),by first|exact Kd.R_nil _ _ _ _ _|exact Kd.N_nil _ _ _ _ _|exact Kd.V_nil _ _ _ _ _|exact Kd.Q_nil _ _ _ _ _|exact Kd.S_nil _ _ _ _ _,by first|exact Kd.R_nil _ _ _ _ _|exact Kd.N_nil _ _ _ _ _|exact Kd.V_nil _ _ _ _ _|exact Kd.Q_nil _ _ _ _ _|exact Kd.S_nil _ _ _ _ _,by repeat(first|(with_reducible first|exact HB.out|apply G|apply J|apply qq|refine qk ?_ GE101.out|refine qk ?_ GE103.out)|exact HB.out)⟩
      ·rw[if_neg c8] at H
       exact absurd H (by simp)
     ·rw[if_neg c7] at H
      exact absurd H (by simp)
    ·rw[if_neg c6] at H
     have c6b0:decide (x12_1 < (l0.length:Int))=false:=decide_eq_false c6
     clear c6
     replace H:=jq8.mp H
     obtain⟨t105,A200,H⟩:=H
     try dsimp only at H
     have A20:=U.mk A200
     clear A200
     by_cases c21:(t105.length:Int) > 50
     ·rw[if_pos c21] at H
      have c21b0:decide (50 < (t105.length:Int))=true:=decide_eq_true c21
      have c21b1:decide (50 < t105.length)=true:=decide_eq_true (by omega)
      clear c21
      simp only[Option.some.injEq,Prod.mk.injEq] at H
      obtain⟨rfl,rfl,rfl,rfl,rfl,rfl,rfl⟩:=H
      go_wp2_with (first|((with_reducible refine jw (f:=96) rfl ?_);refine goesL_ (some 22) rfl rfl Try.func96 (by kernel_rfl) rfl #[.slice A0 l0.length c0] rfl (by(try simp only[jq0,jq1,jq2]);first|done|rfl|(simp only[jq3,jq4];rfl)) ?_;(with_reducible refine(qkx.calls k1 _ _ l0 t105 _ ?side1 ?side2 A20.out).mono ?_);(case side1=>solve_by_elim only[(Kd.C_below HR0.out HB.out),Kd.C_alloc,Kd.C_drewN,Kd.C_drew]);(case side2=>exact HC0.out);rintro e w22 ⟨v106,rfl,ho0,hb⟩;refine⟨_,rfl,?_⟩;have HO107:=U.mk (Kd.R_lower ho0 (zj (by solve_by_elim (maxDepth:=20) only[HB.out,G,J,qq,qk,GE101.out])));replace BK101:=U.mk (kv (g:=gb101) (o:=.cells #[.int .i64 x102000_1,.int .i64 x102001_1,.int .i64 x102002_1,.string x102003_1,.string x102004_1,.slice none 0 0,.slice none 0 0] 58 (0,0)) (by solve_by_elim only[BK101.out,qw,qx,qv]) hb);replace HB:=U.mk (zz (by solve_by_elim (maxDepth:=20) only[HB.out,G,J,qq,qk,GE101.out]) hb);(try clear hb ho0);obtain⟨Ao23,co23,eo23⟩:=Kd.R_slice HO107.out;subst eo23;have hcz24_0:w22.cell? ⟨gb101,0,none⟩ = some (.int .i64 x102000_1):=(qj BK101.out 0).trans rfl;have hcz24_1:w22.cell? ⟨gb101,1,none⟩ = some (.int .i64 x102001_1):=(qj BK101.out 1).trans rfl;have hcz24_2:w22.cell? ⟨gb101,2,none⟩ = some (.int .i64 x102002_1):=(qj BK101.out 2).trans rfl;have hcz24_3:w22.cell? ⟨gb101,3,none⟩ = some (.string x102003_1):=(qj BK101.out 3).trans rfl;have hcz24_4:w22.cell? ⟨gb101,4,none⟩ = some (.string x102004_1):=(qj BK101.out 4).trans rfl;have hcz24_5:w22.cell? ⟨gb101,5,none⟩ = some (.slice none 0 0):=(qj BK101.out 5).trans rfl;have hcz24_6:w22.cell? ⟨gb101,6,none⟩ = some (.slice none 0 0):=(qj BK101.out 6).trans rfl;have hfz24_0:=qz BK101.out 0;have hfz24_1:=qz BK101.out 1;have hfz24_2:=qz BK101.out 2;have hfz24_3:=qz BK101.out 3;have hfz24_4:=qz BK101.out 4;have hfz24_5:=qz BK101.out 5;have hfz24_6:=qz BK101.out 6))
      refine bodyPost_ret (results_cell_row rfl _ _ gb101 58 #[.int .i64 0,.int .i64 0,.int .i64 0,.string (⟨#[]⟩ : ByteArray),.string (⟨#[]⟩ : ByteArray),.slice none 0 0,.slice none 0 0] (0,0) _ rfl (by(with_reducible repeat(first|refine qw ?_ _|refine qx ?_|refine qv ?_ _));refine blk_put (cs:=#[.int .i64 0,.int .i64 0,.int .i64 0,.string (⟨#[]⟩ : ByteArray),.string (⟨#[]⟩ : ByteArray),.slice none 0 0,.slice none 0 0]) ?_ 6 _ rfl;(with_reducible repeat(first|refine qw ?_ _|refine qx ?_|refine qv ?_ _));refine blk_put (cs:=#[.int .i64 0,.int .i64 0,.int .i64 0,.string (⟨#[]⟩ : ByteArray),.string (⟨#[]⟩ : ByteArray),.slice none 0 0,.slice none 0 0]) ?_ 5 _ rfl;(with_reducible repeat(first|refine qw ?_ _|refine qx ?_|refine qv ?_ _));refine blk_put (cs:=#[.int .i64 0,.int .i64 0,.int .i64 0,.string (⟨#[]⟩ : ByteArray),.string x102004_1,.slice none 0 0,.slice none 0 0]) ?_ 4 _ rfl;(with_reducible repeat(first|refine qw ?_ _|refine qx ?_|refine qv ?_ _));refine blk_put (cs:=#[.int .i64 0,.int .i64 0,.int .i64 0,.string x102003_1,.string x102004_1,.slice none 0 0,.slice none 0 0]) ?_ 3 _ rfl;(with_reducible repeat(first|refine qw ?_ _|refine qx ?_|refine qv ?_ _));refine blk_put (cs:=#[.int .i64 0,.int .i64 0,.int .i64 x102002_1,.string x102003_1,.string x102004_1,.slice none 0 0,.slice none 0 0]) ?_ 2 _ rfl;(with_reducible repeat(first|refine qw ?_ _|refine qx ?_|refine qv ?_ _));refine blk_put (cs:=#[.int .i64 0,.int .i64 x102001_1,.int .i64 x102002_1,.string x102003_1,.string x102004_1,.slice none 0 0,.slice none 0 0]) ?_ 1 _ rfl;(with_reducible repeat(first|refine qw ?_ _|refine qx ?_|refine qv ?_ _));refine blk_put (cs:=#[.int .i64 x102000_1,.int .i64 x102001_1,.int .i64 x102002_1,.string x102003_1,.string x102004_1,.slice none 0 0,.slice none 0 0]) ?_ 0 _ rfl;(with_reducible repeat(first|refine qw ?_ _|refine qx ?_|refine qv ?_ _));exact BK101.out) Try.underlying58 rfl (by kernel_rfl)) rfl ?_
      exact⟨_,_,by first|rfl|(simp[*,jv,jk] <;> rfl),by first|exact Kd.R_nil _ _ _ _ _|exact Kd.N_nil _ _ _ _ _|exact Kd.V_nil _ _ _ _ _|exact Kd.Q_nil _ _ _ _ _|exact Kd.S_nil _ _ _ _ _,by first|exact Kd.R_nil _ _ _ _ _|exact Kd.N_nil _ _ _ _ _|exact Kd.V_nil _ _ _ _ _|exact Kd.Q_nil _ _ _ _ _|exact Kd.S_nil _ _ _ _ _,by repeat(first|(with_reducible first|exact HB.out|apply G|apply J|apply qq|refine qk ?_ GE101.out)|exact HB.out)⟩
     ·rw[if_neg c21] at H
      have c21b0:decide (50 < (t105.length:Int))=false:=decide_eq_false c21
      have c21b1:decide (50 < t105.length)=false:=decide_eq_false (by omega)
      clear c21
      simp only[Option.some.injEq,Prod.mk.injEq] at H
      obtain⟨rfl,rfl,rfl,rfl,rfl,rfl,rfl⟩:=H
      go_wp2_with (first|((with_reducible refine jw (f:=96) rfl ?_);refine goesL_ (some 22) rfl rfl Try.func96 (by kernel_rfl) rfl #[.slice A0 l0.length c0] rfl (by(try simp only[jq0,jq1,jq2]);first|done|rfl|(simp only[jq3,jq4];rfl)) ?_;(with_reducible refine(qkx.calls k1 _ _ l0 t105 _ ?side1 ?side2 A20.out).mono ?_);(case side1=>solve_by_elim only[(Kd.C_below HR0.out HB.out),Kd.C_alloc,Kd.C_drewN,Kd.C_drew]);(case side2=>exact HC0.out);rintro e w25 ⟨v106,rfl,ho0,hb⟩;refine⟨_,rfl,?_⟩;have HO107:=U.mk (Kd.R_lower ho0 (zj (by solve_by_elim (maxDepth:=20) only[HB.out,G,J,qq,qk,GE101.out])));replace BK101:=U.mk (kv (g:=gb101) (o:=.cells #[.int .i64 x102000_1,.int .i64 x102001_1,.int .i64 x102002_1,.string x102003_1,.string x102004_1,.slice none 0 0,.slice none 0 0] 58 (0,0)) (by solve_by_elim only[BK101.out,qw,qx,qv]) hb);replace HB:=U.mk (zz (by solve_by_elim (maxDepth:=20) only[HB.out,G,J,qq,qk,GE101.out]) hb);(try clear hb ho0);obtain⟨Ao26,co26,eo26⟩:=Kd.R_slice HO107.out;subst eo26;have hcz27_0:w25.cell? ⟨gb101,0,none⟩ = some (.int .i64 x102000_1):=(qj BK101.out 0).trans rfl;have hcz27_1:w25.cell? ⟨gb101,1,none⟩ = some (.int .i64 x102001_1):=(qj BK101.out 1).trans rfl;have hcz27_2:w25.cell? ⟨gb101,2,none⟩ = some (.int .i64 x102002_1):=(qj BK101.out 2).trans rfl;have hcz27_3:w25.cell? ⟨gb101,3,none⟩ = some (.string x102003_1):=(qj BK101.out 3).trans rfl;have hcz27_4:w25.cell? ⟨gb101,4,none⟩ = some (.string x102004_1):=(qj BK101.out 4).trans rfl;have hcz27_5:w25.cell? ⟨gb101,5,none⟩ = some (.slice none 0 0):=(qj BK101.out 5).trans rfl;have hcz27_6:w25.cell? ⟨gb101,6,none⟩ = some (.slice none 0 0):=(qj BK101.out 6).trans rfl;have hfz27_0:=qz BK101.out 0;have hfz27_1:=qz BK101.out 1;have hfz27_2:=qz BK101.out 2;have hfz27_3:=qz BK101.out 3;have hfz27_4:=qz BK101.out 4;have hfz27_5:=qz BK101.out 5;have hfz27_6:=qz BK101.out 6))
      refine bodyPost_ret (results_cell_row rfl _ _ gb101 58 #[.int .i64 2,.int .i64 0,.int .i64 0,.string (⟨#[]⟩ : ByteArray),.string (⟨#[]⟩ : ByteArray),.slice Ao26 t105.length co26,.slice none 0 0] (0,0) _ rfl (by(with_reducible repeat(first|refine qw ?_ _|refine qx ?_|refine qv ?_ _));refine blk_put (cs:=#[.int .i64 2,.int .i64 0,.int .i64 0,.string (⟨#[]⟩ : ByteArray),.string (⟨#[]⟩ : ByteArray),.slice Ao26 t105.length co26,.slice none 0 0]) ?_ 6 _ rfl;(with_reducible repeat(first|refine qw ?_ _|refine qx ?_|refine qv ?_ _));refine blk_put (cs:=#[.int .i64 2,.int .i64 0,.int .i64 0,.string (⟨#[]⟩ : ByteArray),.string (⟨#[]⟩ : ByteArray),.slice none 0 0,.slice none 0 0]) ?_ 5 _ rfl;(with_reducible repeat(first|refine qw ?_ _|refine qx ?_|refine qv ?_ _));refine blk_put (cs:=#[.int .i64 2,.int .i64 0,.int .i64 0,.string (⟨#[]⟩ : ByteArray),.string x102004_1,.slice none 0 0,.slice none 0 0]) ?_ 4 _ rfl;(with_reducible repeat(first|refine qw ?_ _|refine qx ?_|refine qv ?_ _));refine blk_put (cs:=#[.int .i64 2,.int .i64 0,.int .i64 0,.string x102003_1,.string x102004_1,.slice none 0 0,.slice none 0 0]) ?_ 3 _ rfl;(with_reducible repeat(first|refine qw ?_ _|refine qx ?_|refine qv ?_ _));refine blk_put (cs:=#[.int .i64 2,.int .i64 0,.int .i64 x102002_1,.string x102003_1,.string x102004_1,.slice none 0 0,.slice none 0 0]) ?_ 2 _ rfl;(with_reducible repeat(first|refine qw ?_ _|refine qx ?_|refine qv ?_ _));refine blk_put (cs:=#[.int .i64 2,.int .i64 x102001_1,.int .i64 x102002_1,.string x102003_1,.string x102004_1,.slice none 0 0,.slice none 0 0]) ?_ 1 _ rfl;(with_reducible repeat(first|refine qw ?_ _|refine qx ?_|refine qv ?_ _));refine blk_put (cs:=#[.int .i64 x102000_1,.int .i64 x102001_1,.int .i64 x102002_1,.string x102003_1,.string x102004_1,.slice none 0 0,.slice none 0 0]) ?_ 0 _ rfl;(with_reducible repeat(first|refine qw ?_ _|refine qx ?_|refine qv ?_ _));exact BK101.out) Try.underlying58 rfl (by kernel_rfl)) rfl ?_
      exact⟨_,_,by first|rfl|(simp[*,jv,jk] <;> rfl),by(with_reducible repeat(first|apply Kd.zv|apply Kd.zk|apply Kd.zw));exact Kd.R_mono (Kd.R_far (p:=⟨gb101,6,none⟩) (Kd.R_far (p:=⟨gb101,5,none⟩) (Kd.R_far (p:=⟨gb101,4,none⟩) (Kd.R_far (p:=⟨gb101,3,none⟩) (Kd.R_far (p:=⟨gb101,2,none⟩) (Kd.R_far (p:=⟨gb101,1,none⟩) (Kd.R_far (p:=⟨gb101,0,none⟩) (Kd.R_types HO107.out BK101.out (by decide)) (fun _ hk=>hk.2) (.int .i64 2)) (fun _ hk=>hk.2) (.int .i64 0)) (fun _ hk=>hk.2) (.int .i64 0)) (fun _ hk=>hk.2) (.string (⟨#[]⟩ : ByteArray))) (fun _ hk=>hk.2) (.string (⟨#[]⟩ : ByteArray))) (fun _ hk=>hk.2) (.slice Ao26 t105.length co26)) (fun _ hk=>hk.2) (.slice none 0 0)) (fun _ hk=>trivial),by first|exact Kd.R_nil _ _ _ _ _|exact Kd.N_nil _ _ _ _ _|exact Kd.V_nil _ _ _ _ _|exact Kd.Q_nil _ _ _ _ _|exact Kd.S_nil _ _ _ _ _,by repeat(first|(with_reducible first|exact HB.out|apply G|apply J|apply qq|refine qk ?_ GE101.out)|exact HB.out)⟩
end Go.Proofs.Ytccbjchlcelkgaa.Pr
