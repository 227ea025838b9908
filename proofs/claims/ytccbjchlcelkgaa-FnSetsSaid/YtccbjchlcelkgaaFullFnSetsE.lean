/- Printed texts, walks and plain facts that the law FnSets leans on, joined. -/
import Derived.Test.YtccbjchlcelkgaaFullFnSetsD
set_option maxHeartbeats 8000000
set_option maxRecDepth 100000
open List renaming map_toArray → jq0, map_cons → jq1, map_nil → jq2, length_drop → jq3, length_take → jq4, setIfInBounds_toArray → jq5, set_cons_zero → jq6, set_cons_succ → jq7
open Option renaming bind_eq_some_iff → jq8
open Bool renaming eq_false_iff → jq9, true → Z, false → Y
namespace Go.Proofs.Ytccbjchlcelkgaa.Pr
open Go.RowKit Go.Proofs.YtccbjchlcelkgaaW.PrintWords Go.Proofs.YtccbjchlcelkgaaW.PrintLast Go.Proofs.YtccbjchlcelkgaaW.PrintMore
attribute [local go_sem] max2_int min2_int max_two min_two max_three min_three max_four min_four
set_option linter.unusedVariables false
set_option linter.unusedSimpArgs false
attribute [local go_sem high] eqA34
mutual
def qzz.j0:Nat→Bool→Int→Int→Int→ByteArray→ByteArray→List (S34)→List ByteArray→Option (Bool)
 | 0,_,_,_,_,_,_,_,_=>none
 | k + 1,x26,x102000,x102001,x102002,x102003,x102004,x102005,x102006=>if x26=true then(if (!(x102001 == 0) || (!(x102002 == 0) || (!(x102003.toList == ([]:List UInt8)) || (!(x102004.toList == ([]:List UInt8))))))=true then(qzz.j1 k true x102000 x102001 x102002 x102003 x102004 x102005 x102006) else(qzz.j1 k (decide ((x102005.length:Int) > 50)) x102000 x102001 x102002 x102003 x102004 x102005 x102006)) else(some false)
def qzz.j1:Nat→Bool→Int→Int→Int→ByteArray→ByteArray→List (S34)→List ByteArray→Option (Bool)
 | 0,_,_,_,_,_,_,_,_=>none
 | k + 1,x38,x102000,x102001,x102002,x102003,x102004,x102005,x102006=>if x38=true then(some false) else(qzz.l0 k x102005 (x102005.length:Int) 0 x102000 x102001 x102002 x102003 x102004 x102005 x102006)
def qzz.l0:Nat→List (S34)→Int→Int→Int→Int→Int→ByteArray→ByteArray→List (S34)→List ByteArray→Option (Bool)
 | 0,_,_,_,_,_,_,_,_,_,_=>none
 | k + 1,x40,x41,x42,x102000,x102001,x102002,x102003,x102004,x102005,x102006=>if x42 < x41 then(if 0≤x42 then(if x42 < (x40.length:Int) then((qqx.f k ((vz x40 x42).f0) ((vz x40 x42).f1) ((vz x40 x42).f2) ((vz x40 x42).f3)).bind fun t105=>(if t105=true then(if x102000=2 then(if x42 > 0 then(if 0≤(wrap64 (x42 - 1)) then(if (wrap64 (x42 - 1)) < (x102005.length:Int) then((qzv.f k ((vz x102005 (wrap64 (x42 - 1))).f0) ((vz x102005 (wrap64 (x42 - 1))).f1) ((vz x102005 (wrap64 (x42 - 1))).f2) ((vz x102005 (wrap64 (x42 - 1))).f3) ((vz x40 x42).f0) ((vz x40 x42).f1) ((vz x40 x42).f2) ((vz x40 x42).f3)).bind fun t107=>(if t107 ≥ 0 then(some false) else(qzz.l0 k x40 x41 (wrap64 (x42 + 1)) x102000 x102001 x102002 x102003 x102004 x102005 x102006))) else(none)) else(none)) else(qzz.l0 k x40 x41 (wrap64 (x42 + 1)) x102000 x102001 x102002 x102003 x102004 x102005 x102006)) else(qzz.l0 k x40 x41 (wrap64 (x42 + 1)) x102000 x102001 x102002 x102003 x102004 x102005 x102006)) else(some false))) else(none)) else(none)) else(if x102000=2 then(some ((x102006.length:Int) == 0)) else(if (x102006.length:Int)=(x102005.length:Int) then(qzz.l1 k x102006 (x102006.length:Int) 0 x102000 x102001 x102002 x102003 x102004 x102005 x102006) else(some false)))
def qzz.l1:Nat→List ByteArray→Int→Int→Int→Int→Int→ByteArray→ByteArray→List (S34)→List ByteArray→Option (Bool)
 | 0,_,_,_,_,_,_,_,_,_,_=>none
 | k + 1,x86,x87,x88,x102000,x102001,x102002,x102003,x102004,x102005,x102006=>if x88 < x87 then(if 0≤x88 then(if x88 < (x86.length:Int) then((qzq.f k (rdOf ByteArray.empty x86 x88)).bind fun t109=>(if t109=true then(if x88 > 0 then(if 0≤(wrap64 (x88 - 1)) then(if (wrap64 (x88 - 1)) < (x102006.length:Int) then((qzx.f k (rdOf ByteArray.empty x102006 (wrap64 (x88 - 1))) (rdOf ByteArray.empty x86 x88)).bind fun t111=>(if t111 ≥ 0 then(some false) else(qzz.l1 k x86 x87 (wrap64 (x88 + 1)) x102000 x102001 x102002 x102003 x102004 x102005 x102006))) else(none)) else(none)) else(qzz.l1 k x86 x87 (wrap64 (x88 + 1)) x102000 x102001 x102002 x102003 x102004 x102005 x102006)) else(some false))) else(none)) else(none)) else(some true)
end
def qzz.f (k:Nat) (a0_0:Int) (a0_1:Int) (a0_2:Int) (a0_3:ByteArray) (a0_4:ByteArray) (l0_5:List (S34)) (l0_6:List ByteArray):Option (Bool):=if a0_0=1 then((qqx.f k a0_1 a0_2 a0_3 a0_4).bind fun t102=>(if t102=true then(if (l0_5.length:Int)=0 then(some ((l0_6.length:Int) == 0)) else(some false)) else(some false))) else(if a0_0=2 then(qzz.j0 k (a0_0 == 2) a0_0 a0_1 a0_2 a0_3 a0_4 l0_5 l0_6) else(qzz.j0 k (a0_0 == 3) a0_0 a0_1 a0_2 a0_3 a0_4 l0_5 l0_6))
def qzz.T11:Bool × List (List Nat × List Nat):=(true,[([],[]),([0],[0]),([1],[1]),([2,1],[2]),([3],[3]),([4,3],[3,4]),([5,3],[3,5]),([6,3,3],[3,6]),([7],[7]),([8,7],[7,8]),([7,9,3],[3,7,9]),([10,7,3],[3,10]),([11],[11]),([12,11],[11,12]),([11],[11]),([14,11],[11,14]),([13,15,11],[11,13,15]),([16,11],[11,16]),([11],[11]),([17,18,11,11],[11,17,18]),([19,11],[11,19]),([11,20,3],[3,11,20]),([3,21],[3,21])])
def qzz.B11:List Nat:=[0,1,3,7,15,31,63,127,255,511,1023,2047,4095,8191,4095,20479,65535,131071,4095,524287,1048575,2097151,4194303]
theorem qzz.tab11:rtab .any (opsOf Try.f40 11)=qzz.T11:=by kernel_rfl
theorem qzz.bits11:waitsOk qzz.T11.2 qzz.B11=true:=by kernel_rfl
theorem qzz.calls (k:Nat) (a0_0:Int) (a0_1:Int) (a0_2:Int) (a0_3:ByteArray) (a0_4:ByteArray) (A0_5:Option Addr) (c0_5:Nat) (l0_5:List (S34)) (A0_6:Option Addr) (c0_6:Nat) (l0_6:List ByteArray) (r:Bool) (w:World) (hr0_5:Kd.C k34 w A0_5 l0_5.length l0_5) (hc0_5:l0_5.length≤c0_5) (hr0_6:Kd.C Kd.string w A0_6 l0_6.length l0_6) (hc0_6:l0_6.length≤c0_6) (h:qzz.f k a0_0 a0_1 a0_2 a0_3 a0_4 l0_5 l0_6=some r) :
  Calls Try.prog 40 #[.agg #[.int .i64 a0_0,.int .i64 a0_1,.int .i64 a0_2,.string a0_3,.string a0_4,.slice A0_5 l0_5.length c0_5,.slice A0_6 l0_6.length c0_6]] w fun e w'=>e=.returned (.bool r)∧Below w.heap.size w w':=by
 have hu58:=Try.underlying58
 have hu34:=Try.underlying34
 have HR0_5:=U.mk hr0_5
 have HC0_5:=U.mk hc0_5
 clear hr0_5 hc0_5
 have HR0_6:=U.mk hr0_6
 have HC0_6:=U.mk hc0_6
 clear hr0_6 hc0_6
 have HB:=U.mk (Below.refl w.heap.size w)
 unfold qzz.f at h
 have H:=h
 clear h
 by_cases c2:a0_0=1
 ·rw[if_pos c2] at H
  have c2b0:(a0_0 == 1)=true:=beq_iff_eq.mpr c2
  have c2b1:(a0_0 != 1)=false:=bne_eq_false_iff_eq.mpr c2
  clear c2
  replace H:=jq8.mp H
  obtain⟨t102,A30,H⟩:=H
  try dsimp only at H
  have A3:=U.mk A30
  clear A30
  by_cases c4:t102=true
  ·subst c4
   have H1:(if (l0_5.length:Int)=0 then(some ((l0_6.length:Int) == 0)) else(some false))=some r:=by rw[if_pos rfl] at H;exact H
   clear H
   have H:=H1
   clear H1
   by_cases c5:(l0_5.length:Int)=0
   ·rw[if_pos c5] at H
    have c5b0:((l0_5.length:Int) == 0)=true:=beq_iff_eq.mpr c5
    have c5b1:((l0_5.length:Int) != 0)=false:=bne_eq_false_iff_eq.mpr c5
    clear c5
    obtain rfl:=Option.some.inj H
    go_enter Try.func40,Try.ntmps40
    go_wp2_with (first|((with_reducible refine gate_dst (N:=1) rfl ?_);(try (refine gate_guard (by rfl) ?_;dsimp only));refine box_event ?hg (N:=1) ?hd (cs:=#[.int .i64 a0_0,.int .i64 a0_1,.int .i64 a0_2,.string a0_3,.string a0_4,.slice A0_5 l0_5.length c0_5,.slice A0_6 l0_6.length c0_6]) (t:=58) ?hr ?_;(case hd=>rfl);(case hg=>rfl);(case hr=>first|(go_simp;done)|(go_simp;rfl));intro gb101 hg w6 hbox hb;have BK101:=U.mk (hbox);have GW101:=U.mk ((by rw[hg];exact(zj (by solve_by_elim only[HB.out,G,J,qq])):w.heap.size≤gb101));have GE101:=U.mk ((by rw[hg];exact(zj (by solve_by_elim only[HB.out,G,J,qq])):w.heap.size≤gb101));replace HB:=U.mk (zz (by solve_by_elim only[HB.out,G,J,qq]) hb);clear hb hbox hg;have hcz7_0:w6.cell? ⟨gb101,0,none⟩ = some (.int .i64 a0_0):=(qj BK101.out 0).trans rfl;have hcz7_1:w6.cell? ⟨gb101,1,none⟩ = some (.int .i64 a0_1):=(qj BK101.out 1).trans rfl;have hcz7_2:w6.cell? ⟨gb101,2,none⟩ = some (.int .i64 a0_2):=(qj BK101.out 2).trans rfl;have hcz7_3:w6.cell? ⟨gb101,3,none⟩ = some (.string a0_3):=(qj BK101.out 3).trans rfl;have hcz7_4:w6.cell? ⟨gb101,4,none⟩ = some (.string a0_4):=(qj BK101.out 4).trans rfl;have hcz7_5:w6.cell? ⟨gb101,5,none⟩ = some (.slice A0_5 l0_5.length c0_5):=(qj BK101.out 5).trans rfl;have hcz7_6:w6.cell? ⟨gb101,6,none⟩ = some (.slice A0_6 l0_6.length c0_6):=(qj BK101.out 6).trans rfl;have hfz7_0:=qz BK101.out 0;have hfz7_1:=qz BK101.out 1;have hfz7_2:=qz BK101.out 2;have hfz7_3:=qz BK101.out 3;have hfz7_4:=qz BK101.out 4;have hfz7_5:=qz BK101.out 5;have hfz7_6:=qz BK101.out 6)|((with_reducible refine jw (f:=25) rfl ?_);refine goesL_ (some 13) rfl rfl Try.func25 (by kernel_rfl) rfl #[.agg #[.int .i64 a0_1,.int .i64 a0_2,.string a0_3,.string a0_4]] rfl (by(try simp only[jq0,jq1,jq2]);first|done|rfl|(simp only[jq3,jq4];rfl)) ?_;(with_reducible refine(qqx.calls k a0_1 a0_2 a0_3 a0_4 true _ A3.out).mono ?_);rintro e w8 ⟨rfl,hb⟩;refine⟨_,rfl,?_⟩;replace BK101:=U.mk (kv (g:=gb101) (o:=.cells #[.int .i64 a0_0,.int .i64 a0_1,.int .i64 a0_2,.string a0_3,.string a0_4,.slice A0_5 l0_5.length c0_5,.slice A0_6 l0_6.length c0_6] 58 (0,0)) (by solve_by_elim only[BK101.out,qw,qx,qv]) hb);replace HB:=U.mk (zz (by solve_by_elim (maxDepth:=20) only[HB.out,G,J,qq,qk,GE101.out]) hb);(try clear hb);have hcz9_0:w8.cell? ⟨gb101,0,none⟩ = some (.int .i64 a0_0):=(qj BK101.out 0).trans rfl;have hcz9_1:w8.cell? ⟨gb101,1,none⟩ = some (.int .i64 a0_1):=(qj BK101.out 1).trans rfl;have hcz9_2:w8.cell? ⟨gb101,2,none⟩ = some (.int .i64 a0_2):=(qj BK101.out 2).trans rfl;have hcz9_3:w8.cell? ⟨gb101,3,none⟩ = some (.string a0_3):=(qj BK101.out 3).trans rfl;have hcz9_4:w8.cell? ⟨gb101,4,none⟩ = some (.string a0_4):=(qj BK101.out 4).trans rfl;have hcz9_5:w8.cell? ⟨gb101,5,none⟩ = some (.slice A0_5 l0_5.length c0_5):=(qj BK101.out 5).trans rfl;have hcz9_6:w8.cell? ⟨gb101,6,none⟩ = some (.slice A0_6 l0_6.length c0_6):=(qj BK101.out 6).trans rfl;have hfz9_0:=qz BK101.out 0;have hfz9_1:=qz BK101.out 1;have hfz9_2:=qz BK101.out 2;have hfz9_3:=qz BK101.out 3;have hfz9_4:=qz BK101.out 4;have hfz9_5:=qz BK101.out 5;have hfz9_6:=qz BK101.out 6))
    go_ret
    exact⟨by first|rfl|(simp[*,jv,jk] <;> rfl),by repeat(first|(with_reducible first|exact HB.out|apply G|apply J|apply qq|refine qk ?_ GE101.out)|exact HB.out)⟩
   ·rw[if_neg c5] at H
    have c5b0:((l0_5.length:Int) == 0)=false:=beq_eq_false_iff_ne.mpr c5
    have c5b1:((l0_5.length:Int) != 0)=true:=bne_iff_ne.mpr c5
    have c5b2:¬ (l0_5=[]):=fun h_=>c5 (by rw[h_];rfl)
    obtain rfl:=Option.some.inj H
    go_enter Try.func40,Try.ntmps40
    go_wp2_with (first|((with_reducible refine gate_dst (N:=1) rfl ?_);(try (refine gate_guard (by rfl) ?_;dsimp only));refine box_event ?hg (N:=1) ?hd (cs:=#[.int .i64 a0_0,.int .i64 a0_1,.int .i64 a0_2,.string a0_3,.string a0_4,.slice A0_5 l0_5.length c0_5,.slice A0_6 l0_6.length c0_6]) (t:=58) ?hr ?_;(case hd=>rfl);(case hg=>rfl);(case hr=>first|(go_simp;done)|(go_simp;rfl));intro gb101 hg w10 hbox hb;have BK101:=U.mk (hbox);have GW101:=U.mk ((by rw[hg];exact(zj (by solve_by_elim only[HB.out,G,J,qq])):w.heap.size≤gb101));have GE101:=U.mk ((by rw[hg];exact(zj (by solve_by_elim only[HB.out,G,J,qq])):w.heap.size≤gb101));replace HB:=U.mk (zz (by solve_by_elim only[HB.out,G,J,qq]) hb);clear hb hbox hg;have hcz11_0:w10.cell? ⟨gb101,0,none⟩ = some (.int .i64 a0_0):=(qj BK101.out 0).trans rfl;have hcz11_1:w10.cell? ⟨gb101,1,none⟩ = some (.int .i64 a0_1):=(qj BK101.out 1).trans rfl;have hcz11_2:w10.cell? ⟨gb101,2,none⟩ = some (.int .i64 a0_2):=(qj BK101.out 2).trans rfl;have hcz11_3:w10.cell? ⟨gb101,3,none⟩ = some (.string a0_3):=(qj BK101.out 3).trans rfl;have hcz11_4:w10.cell? ⟨gb101,4,none⟩ = some (.string a0_4):=(qj BK101.out 4).trans rfl;have hcz11_5:w10.cell? ⟨gb101,5,none⟩ = some (.slice A0_5 l0_5.length c0_5):=(qj BK101.out 5).trans rfl;have hcz11_6:w10.cell? ⟨gb101,6,none⟩ = some (.slice A0_6 l0_6.length c0_6):=(qj BK101.out 6).trans rfl;have hfz11_0:=qz BK101.out 0;have hfz11_1:=qz BK101.out 1;have hfz11_2:=qz BK101.out 2;have hfz11_3:=qz BK101.out 3;have hfz11_4:=qz BK101.out 4;have hfz11_5:=qz BK101.out 5;have hfz11_6:=qz BK101.out 6)|((with_reducible refine jw (f:=25) rfl ?_);refine goesL_ (some 13) rfl rfl Try.func25 (by kernel_rfl) rfl #[.agg #[.int .i64 a0_1,.int .i64 a0_2,.string a0_3,.string a0_4]] rfl (by(try simp only[jq0,jq1,jq2]);first|done|rfl|(simp only[jq3,jq4];rfl)) ?_;(with_reducible refine(qqx.calls k a0_1 a0_2 a0_3 a0_4 true _ A3.out).mono ?_);rintro e w12 ⟨rfl,hb⟩;refine⟨_,rfl,?_⟩;replace BK101:=U.mk (kv (g:=gb101) (o:=.cells #[.int .i64 a0_0,.int .i64 a0_1,.int .i64 a0_2,.string a0_3,.string a0_4,.slice A0_5 l0_5.length c0_5,.slice A0_6 l0_6.length c0_6] 58 (0,0)) (by solve_by_elim only[BK101.out,qw,qx,qv]) hb);replace HB:=U.mk (zz (by solve_by_elim (maxDepth:=20) only[HB.out,G,J,qq,qk,GE101.out]) hb);(try clear hb);have hcz13_0:w12.cell? ⟨gb101,0,none⟩ = some (.int .i64 a0_0):=(qj BK101.out 0).trans rfl;have hcz13_1:w12.cell? ⟨gb101,1,none⟩ = some (.int .i64 a0_1):=(qj BK101.out 1).trans rfl;have hcz13_2:w12.cell? ⟨gb101,2,none⟩ = some (.int .i64 a0_2):=(qj BK101.out 2).trans rfl;have hcz13_3:w12.cell? ⟨gb101,3,none⟩ = some (.string a0_3):=(qj BK101.out 3).trans rfl;have hcz13_4:w12.cell? ⟨gb101,4,none⟩ = some (.string a0_4):=(qj BK101.out 4).trans rfl;have hcz13_5:w12.cell? ⟨gb101,5,none⟩ = some (.slice A0_5 l0_5.length c0_5):=(qj BK101.out 5).trans rfl;have hcz13_6:w12.cell? ⟨gb101,6,none⟩ = some (.slice A0_6 l0_6.length c0_6):=(qj BK101.out 6).trans rfl;have hfz13_0:=qz BK101.out 0;have hfz13_1:=qz BK101.out 1;have hfz13_2:=qz BK101.out 2;have hfz13_3:=qz BK101.out 3;have hfz13_4:=qz BK101.out 4;have hfz13_5:=qz BK101.out 5;have hfz13_6:=qz BK101.out 6))
    go_ret
    exact⟨by first|rfl|(simp[*,jv,jk] <;> rfl),by repeat(first|(with_reducible first|exact HB.out|apply G|apply J|apply qq|refine qk ?_ GE101.out)|exact HB.out)⟩
  ·replace c4:=jq9.mpr c4
   subst c4
   have H1:(some false)=some r:=by rw[if_neg (show ¬ (false=true) by decide)] at H;exact H
   clear H
   have H:=H1
   clear H1
   obtain rfl:=Option.some.inj H
   go_enter Try.func40,Try.ntmps40
   go_wp2_with (first|((with_reducible refine gate_dst (N:=1) rfl ?_);(try (refine gate_guard (by rfl) ?_;dsimp only));refine box_event ?hg (N:=1) ?hd (cs:=#[.int .i64 a0_0,.int .i64 a0_1,.int .i64 a0_2,.string a0_3,.string a0_4,.slice A0_5 l0_5.length c0_5,.slice A0_6 l0_6.length c0_6]) (t:=58) ?hr ?_;(case hd=>rfl);(case hg=>rfl);(case hr=>first|(go_simp;done)|(go_simp;rfl));intro gb101 hg w14 hbox hb;have BK101:=U.mk (hbox);have GW101:=U.mk ((by rw[hg];exact(zj (by solve_by_elim only[HB.out,G,J,qq])):w.heap.size≤gb101));have GE101:=U.mk ((by rw[hg];exact(zj (by solve_by_elim only[HB.out,G,J,qq])):w.heap.size≤gb101));replace HB:=U.mk (zz (by solve_by_elim only[HB.out,G,J,qq]) hb);clear hb hbox hg;have hcz15_0:w14.cell? ⟨gb101,0,none⟩ = some (.int .i64 a0_0):=(qj BK101.out 0).trans rfl;have hcz15_1:w14.cell? ⟨gb101,1,none⟩ = some (.int .i64 a0_1):=(qj BK101.out 1).trans rfl;have hcz15_2:w14.cell? ⟨gb101,2,none⟩ = some (.int .i64 a0_2):=(qj BK101.out 2).trans rfl;have hcz15_3:w14.cell? ⟨gb101,3,none⟩ = some (.string a0_3):=(qj BK101.out 3).trans rfl;have hcz15_4:w14.cell? ⟨gb101,4,none⟩ = some (.string a0_4):=(qj BK101.out 4).trans rfl;have hcz15_5:w14.cell? ⟨gb101,5,none⟩ = some (.slice A0_5 l0_5.length c0_5):=(qj BK101.out 5).trans rfl;have hcz15_6:w14.cell? ⟨gb101,6,none⟩ = some (.slice A0_6 l0_6.length c0_6):=(qj BK101.out 6).trans rfl;have hfz15_0:=qz BK101.out 0;have hfz15_1:=qz BK101.out 1;have hfz15_2:=qz BK101.out 2;have hfz15_3:=qz BK101.out 3;have hfz15_4:=qz BK101.out 4;have hfz15_5:=qz BK101.out 5;have hfz15_6:=qz BK101.out 6)|((with_reducible refine jw (f:=25) rfl ?_);refine goesL_ (some 13) rfl rfl Try.func25 (by kernel_rfl) rfl #[.agg #[.int .i64 a0_1,.int .i64 a0_2,.string a0_3,.string a0_4]] rfl (by(try simp only[jq0,jq1,jq2]);first|done|rfl|(simp only[jq3,jq4];rfl)) ?_;(with_reducible refine(qqx.calls k a0_1 a0_2 a0_3 a0_4 false _ A3.out).mono ?_);rintro e w16 ⟨rfl,hb⟩;refine⟨_,rfl,?_⟩;replace BK101:=U.mk (kv (g:=gb101) (o:=.cells #[.int .i64 a0_0,.int .i64 a0_1,.int .i64 a0_2,.string a0_3,.string a0_4,.slice A0_5 l0_5.length c0_5,.slice A0_6 l0_6.length c0_6] 58 (0,0)) (by solve_by_elim only[BK101.out,qw,qx,qv]) hb);replace HB:=U.mk (zz (by solve_by_elim (maxDepth:=20) only[HB.out,G,J,qq,qk,GE101.out]) hb);(try clear hb)))
   go_ret
   exact⟨by first|rfl|(simp[*,jv,jk] <;> rfl),by repeat(first|(with_reducible first|exact HB.out|apply G|apply J|apply qq|refine qk ?_ GE101.out)|exact HB.out)⟩
 ·rw[if_neg c2] at H
  have c2b0:(a0_0 == 1)=false:=beq_eq_false_iff_ne.mpr c2
  have c2b1:(a0_0 != 1)=true:=bne_iff_ne.mpr c2
  have HC17:=U.mk H
  clear H
  go_enter Try.func40,Try.ntmps40
  go_upto_if 26 with (first|((with_reducible refine gate_dst (N:=1) rfl ?_);(try (refine gate_guard (by rfl) ?_;dsimp only));refine box_event ?hg (N:=1) ?hd (cs:=#[.int .i64 a0_0,.int .i64 a0_1,.int .i64 a0_2,.string a0_3,.string a0_4,.slice A0_5 l0_5.length c0_5,.slice A0_6 l0_6.length c0_6]) (t:=58) ?hr ?_;(case hd=>rfl);(case hg=>rfl);(case hr=>first|(go_simp;done)|(go_simp;rfl));intro gb101 hg w18 hbox hb;have BK101:=U.mk (hbox);have GW101:=U.mk ((by rw[hg];exact(zj (by solve_by_elim only[HB.out,G,J,qq])):w.heap.size≤gb101));have GE101:=U.mk ((by rw[hg];exact(zj (by solve_by_elim only[HB.out,G,J,qq])):w.heap.size≤gb101));replace HB:=U.mk (zz (by solve_by_elim only[HB.out,G,J,qq]) hb);clear hb hbox hg;have hcz19_0:w18.cell? ⟨gb101,0,none⟩ = some (.int .i64 a0_0):=(qj BK101.out 0).trans rfl;have hcz19_1:w18.cell? ⟨gb101,1,none⟩ = some (.int .i64 a0_1):=(qj BK101.out 1).trans rfl;have hcz19_2:w18.cell? ⟨gb101,2,none⟩ = some (.int .i64 a0_2):=(qj BK101.out 2).trans rfl;have hcz19_3:w18.cell? ⟨gb101,3,none⟩ = some (.string a0_3):=(qj BK101.out 3).trans rfl;have hcz19_4:w18.cell? ⟨gb101,4,none⟩ = some (.string a0_4):=(qj BK101.out 4).trans rfl;have hcz19_5:w18.cell? ⟨gb101,5,none⟩ = some (.slice A0_5 l0_5.length c0_5):=(qj BK101.out 5).trans rfl;have hcz19_6:w18.cell? ⟨gb101,6,none⟩ = some (.slice A0_6 l0_6.length c0_6):=(qj BK101.out 6).trans rfl;have hfz19_0:=qz BK101.out 0;have hfz19_1:=qz BK101.out 1;have hfz19_2:=qz BK101.out 2;have hfz19_3:=qz BK101.out 3;have hfz19_4:=qz BK101.out 4;have hfz19_5:=qz BK101.out 5;have hfz19_6:=qz BK101.out 6))
  (try simp only[Act.put,jq5,jq6,jq7])
  go_cut [26] (fun v26 wc=>∃ (kq:Nat) (x26_16:Bool),v26=.bool x26_16∧U (qzz.j0 kq x26_16 a0_0 a0_1 a0_2 a0_3 a0_4 l0_5 l0_6=some r)∧U (kq≤k)∧U (wc.heap[gb101]? = some (.cells #[.int .i64 a0_0,.int .i64 a0_1,.int .i64 a0_2,.string a0_3,.string a0_4,(.slice A0_5 l0_5.length c0_5),(.slice A0_6 l0_6.length c0_6)] 58 (0,0)))∧U (Below w.heap.size w wc))
  case first =>
   have H:=HC17.out
   clear HC17
   by_cases c20:a0_0=2
   ·rw[if_pos c20] at H
    have c20b0:(a0_0 == 2)=true:=beq_iff_eq.mpr c20
    have c20b1:(a0_0 != 2)=false:=bne_eq_false_iff_eq.mpr c20
    clear c20
    (first|rw[c20b0]|(simp only[i64_w,i32_w];rw[c20b0])|skip)
    have H':=U.mk H
    clear H
    go_wp2
    go_meet
    case rel=>exact⟨_,((a0_0 == 2)),(by first|rfl|(simp;done)|(simp[*];done)),H',⟨by first|omega|exact Nat.le_refl _⟩,⟨by(with_reducible repeat(first|refine qw ?_ _|refine qx ?_|refine qv ?_ _));exact BK101.out⟩,⟨by repeat(first|(with_reducible first|exact HB.out|apply G|apply J|apply qq|refine qk ?_ GE101.out)|exact HB.out)⟩⟩
   ·rw[if_neg c20] at H
    have c20b0:(a0_0 == 2)=false:=beq_eq_false_iff_ne.mpr c20
    have c20b1:(a0_0 != 2)=true:=bne_iff_ne.mpr c20
    (first|rw[c20b0]|(simp only[i64_w,i32_w];rw[c20b0])|skip)
    have H':=U.mk H
    clear H
    go_wp2
    go_meet
    case rel=>exact⟨_,((a0_0 == 3)),(by first|rfl|(simp;done)|(simp[*];done)),H',⟨by first|omega|exact Nat.le_refl _⟩,⟨by(with_reducible repeat(first|refine qw ?_ _|refine qx ?_|refine qv ?_ _));exact BK101.out⟩,⟨by repeat(first|(with_reducible first|exact HB.out|apply G|apply J|apply qq|refine qk ?_ GE101.out)|exact HB.out)⟩⟩
  case rest =>
   clear HC17
   try clear c2
   try clear c2b0
   try clear c2b1
   try clear p2
   try clear c4
   try clear c5
   try clear c5b0
   try clear c5b1
   try clear c5b2
   try clear c20
   try clear c20b0
   try clear c20b1
   try clear hcz11_0
   try clear hcz11_1
   try clear hcz11_2
   try clear hcz11_3
   try clear hcz11_4
   try clear hcz11_5
   try clear hcz11_6
   try clear hcz13_0
   try clear hcz13_1
   try clear hcz13_2
   try clear hcz13_3
   try clear hcz13_4
   try clear hcz13_5
   try clear hcz13_6
   try clear hcz15_0
   try clear hcz15_1
   try clear hcz15_2
   try clear hcz15_3
   try clear hcz15_4
   try clear hcz15_5
   try clear hcz15_6
   try clear hcz19_0
   try clear hcz19_1
   try clear hcz19_2
   try clear hcz19_3
   try clear hcz19_4
   try clear hcz19_5
   try clear hcz19_6
   try clear hcz7_0
   try clear hcz7_1
   try clear hcz7_2
   try clear hcz7_3
   try clear hcz7_4
   try clear hcz7_5
   try clear hcz7_6
   try clear hcz9_0
   try clear hcz9_1
   try clear hcz9_2
   try clear hcz9_3
   try clear hcz9_4
   try clear hcz9_5
   try clear hcz9_6
   try clear hfz11_0
   try clear hfz11_1
   try clear hfz11_2
   try clear hfz11_3
   try clear hfz11_4
   try clear hfz11_5
   try clear hfz11_6
   try clear hfz13_0
   try clear hfz13_1
   try clear hfz13_2
   try clear hfz13_3
   try clear hfz13_4
   try clear hfz13_5
   try clear hfz13_6
   try clear hfz15_0
   try clear hfz15_1
   try clear hfz15_2
   try clear hfz15_3
   try clear hfz15_4
   try clear hfz15_5
   try clear hfz15_6
   try clear hfz19_0
   try clear hfz19_1
   try clear hfz19_2
   try clear hfz19_3
   try clear hfz19_4
   try clear hfz19_5
   try clear hfz19_6
   try clear hfz7_0
   try clear hfz7_1
   try clear hfz7_2
   try clear hfz7_3
   try clear hfz7_4
   try clear hfz7_5
   try clear hfz7_6
   try clear hfz9_0
   try clear hfz9_1
   try clear hfz9_2
   try clear hfz9_3
   try clear hfz9_4
   try clear hfz9_5
   try clear hfz9_6
   obtain⟨kq,x26_16,rfl,HA,HJ16,BK101,HB⟩:=hcut
   cases kq with
   | zero=>exact absurd HA.out (by simp[qzz.j0])
   | succ kj16 =>
    have H:=HA.out
    clear HA
    simp only[qzz.j0] at H
    by_cases c21:x26_16=true
    ·subst c21
     have H1:(if (!(a0_1 == 0) || (!(a0_2 == 0) || (!(a0_3.toList == ([]:List UInt8)) || (!(a0_4.toList == ([]:List UInt8))))))=true then(qzz.j1 kj16 true a0_0 a0_1 a0_2 a0_3 a0_4 l0_5 l0_6) else(qzz.j1 kj16 (decide ((l0_5.length:Int) > 50)) a0_0 a0_1 a0_2 a0_3 a0_4 l0_5 l0_6))=some r:=by rw[if_pos rfl] at H;exact H
     clear H
     have H:=H1
     clear H1
     have HC22:=U.mk H
     clear H
     go_upto_region 6 with (fail)
     go_cut [38] (fun v38 wc=>∃ (kq:Nat) (x38_21:Bool),v38=.bool x38_21∧U (qzz.j1 kq x38_21 a0_0 a0_1 a0_2 a0_3 a0_4 l0_5 l0_6=some r)∧U (kq≤kj16)∧U (wc.heap[gb101]? = some (.cells #[.int .i64 a0_0,.int .i64 a0_1,.int .i64 a0_2,.string a0_3,.string a0_4,(.slice A0_5 l0_5.length c0_5),(.slice A0_6 l0_6.length c0_6)] 58 (0,0)))∧U (Below w.heap.size w wc))
     case first =>
      have H:=HC22.out
      clear HC22
      by_cases c23:(!(a0_1 == 0) || (!(a0_2 == 0) || (!(a0_3.toList == ([]:List UInt8)) || (!(a0_4.toList == ([]:List UInt8))))))=true
      ·rw[if_pos c23] at H
       have c23b0:(!(a0_1 == 0) || (!(a0_2 == 0) || (!(a0_3.toList == ([]:List UInt8)) || (!(a0_4.toList == ([]:List UInt8))))))=true:=c23
       have c23b9:(!(a0_1 == 0) || (!(a0_2 == 0) || (!(a0_3.toList.isEmpty) || (!(a0_4.toList.isEmpty)))))=true:=by rw[← c23b0];cases a0_3.toList <;> cases a0_4.toList <;> rfl
       clear c23
       (first|rw[c23b0]|(simp only[i64_w,i32_w];rw[c23b0])|skip)
       have H':=U.mk H
       clear H
       have hcz24_0:wc.cell? ⟨gb101,0,none⟩ = some (.int .i64 a0_0):=(qj BK101.out 0).trans rfl
       have hcz24_1:wc.cell? ⟨gb101,1,none⟩ = some (.int .i64 a0_1):=(qj BK101.out 1).trans rfl
       have hcz24_2:wc.cell? ⟨gb101,2,none⟩ = some (.int .i64 a0_2):=(qj BK101.out 2).trans rfl
       have hcz24_3:wc.cell? ⟨gb101,3,none⟩ = some (.string a0_3):=(qj BK101.out 3).trans rfl
       have hcz24_4:wc.cell? ⟨gb101,4,none⟩ = some (.string a0_4):=(qj BK101.out 4).trans rfl
       have hcz24_5:wc.cell? ⟨gb101,5,none⟩ = some (.slice A0_5 l0_5.length c0_5):=(qj BK101.out 5).trans rfl
       have hcz24_6:wc.cell? ⟨gb101,6,none⟩ = some (.slice A0_6 l0_6.length c0_6):=(qj BK101.out 6).trans rfl
       have hfz24_0:=qz BK101.out 0
       have hfz24_1:=qz BK101.out 1
       have hfz24_2:=qz BK101.out 2
       have hfz24_3:=qz BK101.out 3
       have hfz24_4:=qz BK101.out 4
       have hfz24_5:=qz BK101.out 5
       have hfz24_6:=qz BK101.out 6
       go_wp2
       go_meet
       case rel=>exact⟨_,(true),(by first|rfl|(simp;done)|(simp[*];done)),H',⟨by have:=HJ16.out;first|omega|exact Nat.le_refl _⟩,⟨by(with_reducible repeat(first|refine qw ?_ _|refine qx ?_|refine qv ?_ _));exact BK101.out⟩,⟨by repeat(first|(with_reducible first|exact HB.out|apply G|apply J|apply qq|refine qk ?_ GE101.out)|exact HB.out)⟩⟩
      ·rw[if_neg c23] at H
       have c23b0:(!(a0_1 == 0) || (!(a0_2 == 0) || (!(a0_3.toList == ([]:List UInt8)) || (!(a0_4.toList == ([]:List UInt8))))))=false:=jq9.2 c23
       have c23b9:(!(a0_1 == 0) || (!(a0_2 == 0) || (!(a0_3.toList.isEmpty) || (!(a0_4.toList.isEmpty)))))=false:=by rw[← c23b0];cases a0_3.toList <;> cases a0_4.toList <;> rfl
       clear c23
       (first|rw[c23b0]|(simp only[i64_w,i32_w];rw[c23b0])|skip)
       have H':=U.mk H
       clear H
       have hcz25_0:wc.cell? ⟨gb101,0,none⟩ = some (.int .i64 a0_0):=(qj BK101.out 0).trans rfl
       have hcz25_1:wc.cell? ⟨gb101,1,none⟩ = some (.int .i64 a0_1):=(qj BK101.out 1).trans rfl
       have hcz25_2:wc.cell? ⟨gb101,2,none⟩ = some (.int .i64 a0_2):=(qj BK101.out 2).trans rfl
       have hcz25_3:wc.cell? ⟨gb101,3,none⟩ = some (.string a0_3):=(qj BK101.out 3).trans rfl
       have hcz25_4:wc.cell? ⟨gb101,4,none⟩ = some (.string a0_4):=(qj BK101.out 4).trans rfl
       have hcz25_5:wc.cell? ⟨gb101,5,none⟩ = some (.slice A0_5 l0_5.length c0_5):=(qj BK101.out 5).trans rfl
       have hcz25_6:wc.cell? ⟨gb101,6,none⟩ = some (.slice A0_6 l0_6.length c0_6):=(qj BK101.out 6).trans rfl
       have hfz25_0:=qz BK101.out 0
       have hfz25_1:=qz BK101.out 1
       have hfz25_2:=qz BK101.out 2
       have hfz25_3:=qz BK101.out 3
       have hfz25_4:=qz BK101.out 4
       have hfz25_5:=qz BK101.out 5
       have hfz25_6:=qz BK101.out 6
       go_wp2
       go_meet
       case rel=>exact⟨_,(decide ((l0_5.length:Int) > 50)),(by first|rfl|(simp;done)|(simp[*];done)),H',⟨by have:=HJ16.out;first|omega|exact Nat.le_refl _⟩,⟨by(with_reducible repeat(first|refine qw ?_ _|refine qx ?_|refine qv ?_ _));exact BK101.out⟩,⟨by repeat(first|(with_reducible first|exact HB.out|apply G|apply J|apply qq|refine qk ?_ GE101.out)|exact HB.out)⟩⟩
     case rest =>
      clear HC22
      try clear c2
      try clear c2b0
      try clear c2b1
      try clear p2
      try clear c4
      try clear c5
      try clear c5b0
      try clear c5b1
      try clear c5b2
      try clear c20
      try clear c20b0
      try clear c20b1
      try clear c21
      try clear c23
      try clear c23b0
      try clear c25
      try clear hcz11_0
      try clear hcz11_1
      try clear hcz11_2
      try clear hcz11_3
      try clear hcz11_4
      try clear hcz11_5
      try clear hcz11_6
      try clear hcz13_0
      try clear hcz13_1
      try clear hcz13_2
      try clear hcz13_3
      try clear hcz13_4
      try clear hcz13_5
      try clear hcz13_6
      try clear hcz15_0
      try clear hcz15_1
      try clear hcz15_2
      try clear hcz15_3
      try clear hcz15_4
      try clear hcz15_5
      try clear hcz15_6
      try clear hcz19_0
      try clear hcz19_1
      try clear hcz19_2
      try clear hcz19_3
      try clear hcz19_4
      try clear hcz19_5
      try clear hcz19_6
      try clear hcz24_0
      try clear hcz24_1
      try clear hcz24_2
      try clear hcz24_3
      try clear hcz24_4
      try clear hcz24_5
      try clear hcz24_6
      try clear hcz25_0
      try clear hcz25_1
      try clear hcz25_2
      try clear hcz25_3
      try clear hcz25_4
      try clear hcz25_5
      try clear hcz25_6
      try clear hcz7_0
      try clear hcz7_1
      try clear hcz7_2
      try clear hcz7_3
      try clear hcz7_4
      try clear hcz7_5
      try clear hcz7_6
      try clear hcz9_0
      try clear hcz9_1
      try clear hcz9_2
      try clear hcz9_3
      try clear hcz9_4
      try clear hcz9_5
      try clear hcz9_6
      try clear hfz11_0
      try clear hfz11_1
      try clear hfz11_2
      try clear hfz11_3
      try clear hfz11_4
      try clear hfz11_5
      try clear hfz11_6
      try clear hfz13_0
      try clear hfz13_1
      try clear hfz13_2
      try clear hfz13_3
      try clear hfz13_4
      try clear hfz13_5
      try clear hfz13_6
      try clear hfz15_0
      try clear hfz15_1
      try clear hfz15_2
      try clear hfz15_3
      try clear hfz15_4
      try clear hfz15_5
      try clear hfz15_6
      try clear hfz19_0
      try clear hfz19_1
      try clear hfz19_2
      try clear hfz19_3
      try clear hfz19_4
      try clear hfz19_5
      try clear hfz19_6
      try clear hfz24_0
      try clear hfz24_1
      try clear hfz24_2
      try clear hfz24_3
      try clear hfz24_4
      try clear hfz24_5
      try clear hfz24_6
      try clear hfz25_0
      try clear hfz25_1
      try clear hfz25_2
      try clear hfz25_3
      try clear hfz25_4
      try clear hfz25_5
      try clear hfz25_6
      try clear hfz7_0
      try clear hfz7_1
      try clear hfz7_2
      try clear hfz7_3
      try clear hfz7_4
      try clear hfz7_5
      try clear hfz7_6
      try clear hfz9_0
      try clear hfz9_1
      try clear hfz9_2
      try clear hfz9_3
      try clear hfz9_4
      try clear hfz9_5
      try clear hfz9_6
      try clear p2
      obtain⟨kq,x38_21,rfl,HA,HJ21,BK101,HB⟩:=hcut
      cases kq with
      | zero=>exact absurd HA.out (by simp[qzz.j1])
      | succ kj21 =>
       have H:=HA.out
       clear HA
       simp only[qzz.j1] at H
       by_cases c26:x38_21=true
       ·subst c26
        have H1:(some false)=some r:=by rw[if_pos rfl] at H;exact H
        clear H
        have H:=H1
        clear H1
        obtain rfl:=Option.some.inj H
        go_wp2
        go_ret
        exact⟨by first|rfl|(simp[*,jv,jk] <;> rfl),by repeat(first|(with_reducible first|exact HB.out|apply G|apply J|apply qq|refine qk ?_ GE101.out)|exact HB.out)⟩
       ·replace c26:=jq9.mpr c26
        subst c26
        have H1:(qzz.l0 kj21 l0_5 (l0_5.length:Int) 0 a0_0 a0_1 a0_2 a0_3 a0_4 l0_5 l0_6)=some r:=by rw[if_neg (show ¬ (false=true) by decide)] at H;exact H
        clear H
        have H:=H1
        clear H1
        have H':=U.mk H
        clear H
        have hcz27_0:wc.cell? ⟨gb101,0,none⟩ = some (.int .i64 a0_0):=(qj BK101.out 0).trans rfl
        have hcz27_1:wc.cell? ⟨gb101,1,none⟩ = some (.int .i64 a0_1):=(qj BK101.out 1).trans rfl
        have hcz27_2:wc.cell? ⟨gb101,2,none⟩ = some (.int .i64 a0_2):=(qj BK101.out 2).trans rfl
        have hcz27_3:wc.cell? ⟨gb101,3,none⟩ = some (.string a0_3):=(qj BK101.out 3).trans rfl
        have hcz27_4:wc.cell? ⟨gb101,4,none⟩ = some (.string a0_4):=(qj BK101.out 4).trans rfl
        have hcz27_5:wc.cell? ⟨gb101,5,none⟩ = some (.slice A0_5 l0_5.length c0_5):=(qj BK101.out 5).trans rfl
        have hcz27_6:wc.cell? ⟨gb101,6,none⟩ = some (.slice A0_6 l0_6.length c0_6):=(qj BK101.out 6).trans rfl
        have hfz27_0:=qz BK101.out 0
        have hfz27_1:=qz BK101.out 1
        have hfz27_2:=qz BK101.out 2
        have hfz27_3:=qz BK101.out 3
        have hfz27_4:=qz BK101.out 4
        have hfz27_5:=qz BK101.out 5
        have hfz27_6:=qz BK101.out 6
        go_wp2
        go_loopg [42] kj21 (fun kq v42 w'=>∃ (x42_3:Int),v42=.int .i64 x42_3∧U (qzz.l0 kq l0_5 (l0_5.length:Int) x42_3 a0_0 a0_1 a0_2 a0_3 a0_4 l0_5 l0_6=some r)∧U (kq≤kj21)∧U (w'.heap[gb101]? = some (.cells #[.int .i64 a0_0,.int .i64 a0_1,.int .i64 a0_2,.string a0_3,.string a0_4,(.slice A0_5 l0_5.length c0_5),(.slice A0_6 l0_6.length c0_6)] 58 (0,0)))∧U (Below w.heap.size w w'))
        case atStart=>exact⟨(0),(by first|rfl|(simp;done)|(simp[*];done)),H',⟨Nat.le_refl _⟩,⟨by(with_reducible repeat(first|refine qw ?_ _|refine qx ?_|refine qv ?_ _));exact BK101.out⟩,⟨by repeat(first|(with_reducible first|exact HB.out|apply G|apply J|apply qq|refine qk ?_ GE101.out)|exact HB.out)⟩⟩
        case round =>
         clear H'
         try clear c2
         try clear c2b0
         try clear c2b1
         try clear p2
         try clear c4
         try clear c5
         try clear c5b0
         try clear c5b1
         try clear c5b2
         try clear c20
         try clear c20b0
         try clear c20b1
         try clear c21
         try clear c23
         try clear c23b0
         try clear c25
         try clear c26
         try clear hcz11_0
         try clear hcz11_1
         try clear hcz11_2
         try clear hcz11_3
         try clear hcz11_4
         try clear hcz11_5
         try clear hcz11_6
         try clear hcz13_0
         try clear hcz13_1
         try clear hcz13_2
         try clear hcz13_3
         try clear hcz13_4
         try clear hcz13_5
         try clear hcz13_6
         try clear hcz15_0
         try clear hcz15_1
         try clear hcz15_2
         try clear hcz15_3
         try clear hcz15_4
         try clear hcz15_5
         try clear hcz15_6
         try clear hcz19_0
         try clear hcz19_1
         try clear hcz19_2
         try clear hcz19_3
         try clear hcz19_4
         try clear hcz19_5
         try clear hcz19_6
         try clear hcz24_0
         try clear hcz24_1
         try clear hcz24_2
         try clear hcz24_3
         try clear hcz24_4
         try clear hcz24_5
         try clear hcz24_6
         try clear hcz25_0
         try clear hcz25_1
         try clear hcz25_2
         try clear hcz25_3
         try clear hcz25_4
         try clear hcz25_5
         try clear hcz25_6
         try clear hcz27_0
         try clear hcz27_1
         try clear hcz27_2
         try clear hcz27_3
         try clear hcz27_4
         try clear hcz27_5
         try clear hcz27_6
         try clear hcz7_0
         try clear hcz7_1
         try clear hcz7_2
         try clear hcz7_3
         try clear hcz7_4
         try clear hcz7_5
         try clear hcz7_6
         try clear hcz9_0
         try clear hcz9_1
         try clear hcz9_2
         try clear hcz9_3
         try clear hcz9_4
         try clear hcz9_5
         try clear hcz9_6
         try clear hfz11_0
         try clear hfz11_1
         try clear hfz11_2
         try clear hfz11_3
         try clear hfz11_4
         try clear hfz11_5
         try clear hfz11_6
         try clear hfz13_0
         try clear hfz13_1
         try clear hfz13_2
         try clear hfz13_3
         try clear hfz13_4
         try clear hfz13_5
         try clear hfz13_6
         try clear hfz15_0
         try clear hfz15_1
         try clear hfz15_2
         try clear hfz15_3
         try clear hfz15_4
         try clear hfz15_5
         try clear hfz15_6
         try clear hfz19_0
         try clear hfz19_1
         try clear hfz19_2
         try clear hfz19_3
         try clear hfz19_4
         try clear hfz19_5
         try clear hfz19_6
         try clear hfz24_0
         try clear hfz24_1
         try clear hfz24_2
         try clear hfz24_3
         try clear hfz24_4
         try clear hfz24_5
         try clear hfz24_6
         try clear hfz25_0
         try clear hfz25_1
         try clear hfz25_2
         try clear hfz25_3
         try clear hfz25_4
         try clear hfz25_5
         try clear hfz25_6
         try clear hfz27_0
         try clear hfz27_1
         try clear hfz27_2
         try clear hfz27_3
         try clear hfz27_4
         try clear hfz27_5
         try clear hfz27_6
         try clear hfz7_0
         try clear hfz7_1
         try clear hfz7_2
         try clear hfz7_3
         try clear hfz7_4
         try clear hfz7_5
         try clear hfz7_6
         try clear hfz9_0
         try clear hfz9_1
         try clear hfz9_2
         try clear hfz9_3
         try clear hfz9_4
         try clear hfz9_5
         try clear hfz9_6
         try clear p2
         obtain⟨x42_3,rfl,HA,HK3,BK101,HB⟩:=hrel
         cases gk with
         | zero=>exact absurd HA.out (by simp[qzz.l0])
         | succ k3 =>
          have H:=HA.out
          clear HA
          simp only[qzz.l0] at H
          by_cases c28:x42_3 < (l0_5.length:Int)
          ·rw[if_pos c28] at H
           have c28b0:decide (x42_3 < (l0_5.length:Int))=true:=decide_eq_true c28
           clear c28
           by_cases c29 : 0≤x42_3
           ·rw[if_pos c29] at H
            have c29b0:decide (0≤x42_3)=true:=decide_eq_true c29
            clear c29
            by_cases c30:x42_3 < (l0_5.length:Int)
            ·rw[if_pos c30] at H
             have c30b0:decide (x42_3 < (l0_5.length:Int))=true:=decide_eq_true c30
             clear c30
             replace H:=jq8.mp H
             obtain⟨t105,A310,H⟩:=H
             try dsimp only at H
             have A31:=U.mk A310
             clear A310
             by_cases c32:t105=true
             ·subst c32
              have H1:(if a0_0=2 then(if x42_3 > 0 then(if 0≤(wrap64 (x42_3 - 1)) then(if (wrap64 (x42_3 - 1)) < (l0_5.length:Int) then((qzv.f k3 ((vz l0_5 (wrap64 (x42_3 - 1))).f0) ((vz l0_5 (wrap64 (x42_3 - 1))).f1) ((vz l0_5 (wrap64 (x42_3 - 1))).f2) ((vz l0_5 (wrap64 (x42_3 - 1))).f3) ((vz l0_5 x42_3).f0) ((vz l0_5 x42_3).f1) ((vz l0_5 x42_3).f2) ((vz l0_5 x42_3).f3)).bind fun t107=>(if t107 ≥ 0 then(some false) else(qzz.l0 k3 l0_5 (l0_5.length:Int) (wrap64 (x42_3 + 1)) a0_0 a0_1 a0_2 a0_3 a0_4 l0_5 l0_6))) else(none)) else(none)) else(qzz.l0 k3 l0_5 (l0_5.length:Int) (wrap64 (x42_3 + 1)) a0_0 a0_1 a0_2 a0_3 a0_4 l0_5 l0_6)) else(qzz.l0 k3 l0_5 (l0_5.length:Int) (wrap64 (x42_3 + 1)) a0_0 a0_1 a0_2 a0_3 a0_4 l0_5 l0_6))=some r:=by rw[if_pos rfl] at H;exact H
              clear H
              have H:=H1
              clear H1
              by_cases c33:a0_0=2
              ·rw[if_pos c33] at H
               have c33b0:(a0_0 == 2)=true:=beq_iff_eq.mpr c33
               have c33b1:(a0_0 != 2)=false:=bne_eq_false_iff_eq.mpr c33
               clear c33
               by_cases c34:x42_3 > 0
               ·rw[if_pos c34] at H
                have c34b0:decide (0 < x42_3)=true:=decide_eq_true c34
                clear c34
                obtain⟨ji35,hji35⟩ : ∃ j_:Int,(wrap64 (x42_3 - 1))=j_:=⟨_,rfl⟩
                replace H:(if 0≤(ji35) then(if (ji35) < (l0_5.length:Int) then((qzv.f k3 ((vz l0_5 (ji35)).f0) ((vz l0_5 (ji35)).f1) ((vz l0_5 (ji35)).f2) ((vz l0_5 (ji35)).f3) ((vz l0_5 x42_3).f0) ((vz l0_5 x42_3).f1) ((vz l0_5 x42_3).f2) ((vz l0_5 x42_3).f3)).bind fun t107=>(if t107 ≥ 0 then(some false) else(qzz.l0 k3 l0_5 (l0_5.length:Int) (wrap64 (x42_3 + 1)) a0_0 a0_1 a0_2 a0_3 a0_4 l0_5 l0_6))) else(none)) else(none))=some r:=by first|(rw[hji35] at H;exact H)|(simp only[hji35] at H ⊢;exact H)
                (try rw[hji35] at A31)
                have hji35w:(IntKind.i64.wrap (x42_3 - 1))=ji35:=(i64_w _).trans hji35
                by_cases c36 : 0≤(ji35)
                ·rw[if_pos c36] at H
                 have c36b0:decide (0≤(ji35))=true:=decide_eq_true c36
                 clear c36
                 by_cases c37:(ji35) < (l0_5.length:Int)
                 ·rw[if_pos c37] at H
                  have c37b0:decide ((ji35) < (l0_5.length:Int))=true:=decide_eq_true c37
                  clear c37
                  replace H:=jq8.mp H
                  obtain⟨t107,A380,H⟩:=H
                  try dsimp only at H
                  have A38:=U.mk A380
                  clear A380
                  by_cases c39:t107 ≥ 0
                  ·rw[if_pos c39] at H
                   have c39b0:decide (0≤t107)=true:=decide_eq_true c39
                   clear c39
                   obtain rfl:=Option.some.inj H
                   have p103 : 0≤(x42_3:Int):=of_decide_eq_true (by assumption)
                   have q103:x42_3 < (l0_5.length:Int):=of_decide_eq_true (by assumption)
                   obtain⟨ad103,e103,hx103_0,hx103_1,hx103_2,hx103_3⟩:=at_T34 HR0_5.out x42_3 p103 q103
                   cases e103
                   replace hx103_0:=(HB.out.cell (World.block_lt_of_cell? w _ hx103_0)).trans hx103_0
                   replace hx103_1:=(HB.out.cell (World.block_lt_of_cell? w _ hx103_1)).trans hx103_1
                   replace hx103_2:=(HB.out.cell (World.block_lt_of_cell? w _ hx103_2)).trans hx103_2
                   replace hx103_3:=(HB.out.cell (World.block_lt_of_cell? w _ hx103_3)).trans hx103_3
                   replace p103:=eq_true p103
                   replace q103:=eq_true q103
                   try go_wp2_with (first|((with_reducible refine gate_dst (N:=4) rfl ?_);(try (refine gate_guard (by rfl) ?_;dsimp only));refine box_event ?hg (N:=4) ?hd (cs:=#[.int .i64 0,.int .i64 0,.string (⟨#[]⟩ : ByteArray),.string (⟨#[]⟩ : ByteArray)]) (t:=34) ?hr ?_;(case hd=>rfl);(case hg=>rfl);(case hr=>first|(go_simp;done)|(go_simp;rfl));intro gb104 hg w40 hbox hb;have BK104:=U.mk (hbox);have GW104:=U.mk ((by rw[hg];exact(zj (by solve_by_elim (maxDepth:=20) only[HB.out,G,J,qq,qk,GE101.out])):w.heap.size≤gb104));have GE104:=U.mk ((by rw[hg];exact(zj (by solve_by_elim (maxDepth:=20) only[HB.out,G,J,qq,qk,GE101.out])):w.heap.size≤gb104));replace HB:=U.mk (zz (by solve_by_elim (maxDepth:=20) only[HB.out,G,J,qq,qk,GE101.out]) hb);have NB101_104:=U.mk ((by rw[hg];exact Nat.ne_of_lt (blk_lt (g:=gb101) (o:=.cells #[.int .i64 a0_0,.int .i64 a0_1,.int .i64 a0_2,.string a0_3,.string a0_4,.slice (some ad103) l0_5.length c0_5,.slice A0_6 l0_6.length c0_6] 58 (0,0)) (by solve_by_elim only[BK101.out,qw,qx,qv])):gb101≠gb104));have NB104_101:=U.mk ((by rw[hg];exact Nat.ne_of_gt (blk_lt (g:=gb101) (o:=.cells #[.int .i64 a0_0,.int .i64 a0_1,.int .i64 a0_2,.string a0_3,.string a0_4,.slice (some ad103) l0_5.length c0_5,.slice A0_6 l0_6.length c0_6] 58 (0,0)) (by solve_by_elim only[BK101.out,qw,qx,qv])):gb104≠gb101));replace BK101:=U.mk (kv (g:=gb101) (o:=.cells #[.int .i64 a0_0,.int .i64 a0_1,.int .i64 a0_2,.string a0_3,.string a0_4,.slice (some ad103) l0_5.length c0_5,.slice A0_6 l0_6.length c0_6] 58 (0,0)) (by solve_by_elim only[BK101.out,qw,qx,qv]) hb);clear hb hbox hg;have hnb41:=NB104_101.out;have hnc41:=NB101_104.out;have hcz42_0:w40.cell? ⟨gb104,0,none⟩ = some (.int .i64 0):=(qj BK104.out 0).trans rfl;have hcz42_1:w40.cell? ⟨gb104,1,none⟩ = some (.int .i64 0):=(qj BK104.out 1).trans rfl;have hcz42_2:w40.cell? ⟨gb104,2,none⟩ = some (.string (⟨#[]⟩ : ByteArray)):=(qj BK104.out 2).trans rfl;have hcz42_3:w40.cell? ⟨gb104,3,none⟩ = some (.string (⟨#[]⟩ : ByteArray)):=(qj BK104.out 3).trans rfl;have hfz42_0:=qz BK104.out 0;have hfz42_1:=qz BK104.out 1;have hfz42_2:=qz BK104.out 2;have hfz42_3:=qz BK104.out 3))
                   have n0_:U (((((w40.setCell ⟨gb104,0,none⟩ (.int .i64 ((vz l0_5 x42_3).f0))).setCell ⟨gb104,1,none⟩ (.int .i64 ((vz l0_5 x42_3).f1))).setCell ⟨gb104,2,none⟩ (.string ((vz l0_5 x42_3).f2))).setCell ⟨gb104,3,none⟩ (.string ((vz l0_5 x42_3).f3))).heap[gb101]? = some (.cells #[.int .i64 a0_0,.int .i64 a0_1,.int .i64 a0_2,.string a0_3,.string a0_4,.slice (some ad103) l0_5.length c0_5,.slice A0_6 l0_6.length c0_6] 58 (0,0))):=⟨by(with_reducible repeat(first|refine qw ?_ _|refine qx ?_|refine qv ?_ _));refine blk_far ?_ NB101_104.out _;(with_reducible repeat(first|refine qw ?_ _|refine qx ?_|refine qv ?_ _));refine blk_far ?_ NB101_104.out _;(with_reducible repeat(first|refine qw ?_ _|refine qx ?_|refine qv ?_ _));refine blk_far ?_ NB101_104.out _;(with_reducible repeat(first|refine qw ?_ _|refine qx ?_|refine qv ?_ _));refine blk_far ?_ NB101_104.out _;(with_reducible repeat(first|refine qw ?_ _|refine qx ?_|refine qv ?_ _));exact BK101.out⟩
                   have n1_:U (((((w40.setCell ⟨gb104,0,none⟩ (.int .i64 ((vz l0_5 x42_3).f0))).setCell ⟨gb104,1,none⟩ (.int .i64 ((vz l0_5 x42_3).f1))).setCell ⟨gb104,2,none⟩ (.string ((vz l0_5 x42_3).f2))).setCell ⟨gb104,3,none⟩ (.string ((vz l0_5 x42_3).f3))).heap[gb104]? = some (.cells #[.int .i64 ((vz l0_5 x42_3).f0),.int .i64 ((vz l0_5 x42_3).f1),.string ((vz l0_5 x42_3).f2),.string ((vz l0_5 x42_3).f3)] 34 (0,0))):=⟨by(with_reducible repeat(first|refine qw ?_ _|refine qx ?_|refine qv ?_ _));refine blk_put (cs:=#[.int .i64 ((vz l0_5 x42_3).f0),.int .i64 ((vz l0_5 x42_3).f1),.string ((vz l0_5 x42_3).f2),.string (⟨#[]⟩ : ByteArray)]) ?_ 3 _ rfl;(with_reducible repeat(first|refine qw ?_ _|refine qx ?_|refine qv ?_ _));refine blk_put (cs:=#[.int .i64 ((vz l0_5 x42_3).f0),.int .i64 ((vz l0_5 x42_3).f1),.string (⟨#[]⟩ : ByteArray),.string (⟨#[]⟩ : ByteArray)]) ?_ 2 _ rfl;(with_reducible repeat(first|refine qw ?_ _|refine qx ?_|refine qv ?_ _));refine blk_put (cs:=#[.int .i64 ((vz l0_5 x42_3).f0),.int .i64 0,.string (⟨#[]⟩ : ByteArray),.string (⟨#[]⟩ : ByteArray)]) ?_ 1 _ rfl;(with_reducible repeat(first|refine qw ?_ _|refine qx ?_|refine qv ?_ _));refine blk_put (cs:=#[.int .i64 0,.int .i64 0,.string (⟨#[]⟩ : ByteArray),.string (⟨#[]⟩ : ByteArray)]) ?_ 0 _ rfl;(with_reducible repeat(first|refine qw ?_ _|refine qx ?_|refine qv ?_ _));exact BK104.out⟩
                   have n2_:U (Below w.heap.size w ((((w40.setCell ⟨gb104,0,none⟩ (.int .i64 ((vz l0_5 x42_3).f0))).setCell ⟨gb104,1,none⟩ (.int .i64 ((vz l0_5 x42_3).f1))).setCell ⟨gb104,2,none⟩ (.string ((vz l0_5 x42_3).f2))).setCell ⟨gb104,3,none⟩ (.string ((vz l0_5 x42_3).f3)))):=⟨by repeat(first|(with_reducible first|exact HB.out|apply G|apply J|apply qq|refine qk ?_ GE101.out|refine qk ?_ GE104.out)|exact HB.out)⟩
                   (try clear BK101)
                   (try clear BK104)
                   (try clear HB)
                   generalize ((((w40.setCell ⟨gb104,0,none⟩ (.int .i64 ((vz l0_5 x42_3).f0))).setCell ⟨gb104,1,none⟩ (.int .i64 ((vz l0_5 x42_3).f1))).setCell ⟨gb104,2,none⟩ (.string ((vz l0_5 x42_3).f2))).setCell ⟨gb104,3,none⟩ (.string ((vz l0_5 x42_3).f3)))=w43 at n0_ n1_ n2_ ⊢
                   have BK101:=n0_
                   have BK104:=n1_
                   have HB:=n2_
                   clear n0_ n1_ n2_
                   replace BK101:=U.mk (qx BK101.out)
                   replace BK104:=U.mk (qx BK104.out)
                   replace HB:=U.mk (qq HB.out)
                   have p106 : 0≤((ji35):Int):=of_decide_eq_true (by assumption)
                   have q106:(ji35) < (l0_5.length:Int):=of_decide_eq_true (by assumption)
                   obtain⟨ad106,e106,hx106_0,hx106_1,hx106_2,hx106_3⟩:=at_T34 HR0_5.out (ji35) p106 q106
                   have hw106_3:=hx106_3
                   have hw106_2:=hx106_2
                   have hw106_1:=hx106_1
                   have hw106_0:=hx106_0
                   obtain rfl:ad103=ad106:=(by injection e106)
                   replace hx106_0:=(HB.out.cell (World.block_lt_of_cell? w _ hx106_0)).trans hx106_0
                   replace hx106_1:=(HB.out.cell (World.block_lt_of_cell? w _ hx106_1)).trans hx106_1
                   replace hx106_2:=(HB.out.cell (World.block_lt_of_cell? w _ hx106_2)).trans hx106_2
                   replace hx106_3:=(HB.out.cell (World.block_lt_of_cell? w _ hx106_3)).trans hx106_3
                   replace p106:=eq_true p106
                   replace q106:=eq_true q106
                   refine start_ (n:=23) (S:=fun w'=>w'.cell? ⟨gb104,0,none⟩ = some (.int .i64 ((vz l0_5 x42_3).f0))∧w'.cell? ⟨gb104,1,none⟩ = some (.int .i64 ((vz l0_5 x42_3).f1))∧w'.cell? ⟨gb104,2,none⟩ = some (.string ((vz l0_5 x42_3).f2))∧w'.cell? ⟨gb104,3,none⟩ = some (.string ((vz l0_5 x42_3).f3))∧w'.cell? ⟨gb101,0,none⟩ = some (.int .i64 a0_0)∧w'.cell? ⟨gb101,1,none⟩ = some (.int .i64 a0_1)∧w'.cell? ⟨gb101,2,none⟩ = some (.int .i64 a0_2)∧w'.cell? ⟨gb101,3,none⟩ = some (.string a0_3)∧w'.cell? ⟨gb101,4,none⟩ = some (.string a0_4)∧w'.cell? ⟨gb101,5,none⟩ = some (.slice (some ad103) l0_5.length c0_5)∧w'.cell? ⟨gb101,6,none⟩ = some (.slice A0_6 l0_6.length c0_6)∧w'.cell? (ad103.add (((ji35)).toNat * 4))=some (.int .i64 ((vz l0_5 (ji35)).f0))∧w'.cell? ⟨(ad103.add (((ji35)).toNat * 4)).block,(ad103.add (((ji35)).toNat * 4)).off + 1,none⟩ = some (.int .i64 ((vz l0_5 (ji35)).f1))∧w'.cell? ⟨(ad103.add (((ji35)).toNat * 4)).block,(ad103.add (((ji35)).toNat * 4)).off + 2,none⟩ = some (.string ((vz l0_5 (ji35)).f2))∧w'.cell? ⟨(ad103.add (((ji35)).toNat * 4)).block,(ad103.add (((ji35)).toNat * 4)).off + 3,none⟩ = some (.string ((vz l0_5 (ji35)).f3))) (ds:=[]) #[Y,Y,Y,Y,Y,Y,Y,Y,Y,Y,Y,Y,Y,Y,Y,Y,Y,Y,Y,Y,Y,Y,Y] (by kernel_rfl) rfl rfl ⟨(qj BK104.out 0).trans rfl,(qj BK104.out 1).trans rfl,(qj BK104.out 2).trans rfl,(qj BK104.out 3).trans rfl,(qj BK101.out 0).trans rfl,(qj BK101.out 1).trans rfl,(qj BK101.out 2).trans rfl,(qj BK101.out 3).trans rfl,(qj BK101.out 4).trans rfl,(qj BK101.out 5).trans rfl,(qj BK101.out 6).trans rfl,((HB.out.cell (World.block_lt_of_cell? w _ hw106_0)).trans hw106_0),((HB.out.cell (World.block_lt_of_cell? w _ hw106_1)).trans hw106_1),((HB.out.cell (World.block_lt_of_cell? w _ hw106_2)).trans hw106_2),((HB.out.cell (World.block_lt_of_cell? w _ hw106_3)).trans hw106_3)⟩ (fun hHeld=>?_);refine with_tabW qzz.tab11 qzz.bits11 (fun HT_ HW_=>?_)
                   generalize w43.drew=w44 at BK101 BK104 HB hx106_0 hx106_1 hx106_2 hx106_3 hHeld ⊢
                   refine take_ (i:=0) (N:=some 47) (v:=?_) (a':=?_) #[Z,Y,Y,Y,Y,Y,Y,Y,Y,Y,Y,Y,Y,Y,Y,Y,Y,Y,Y,Y,Y,Y,Y] rfl rfl (take_ofW HT_.out HW_.out (by kernel_rfl)) (fun _ _ _ h=>h) (Or.inl ⟨by rfl,?_⟩) hHeld ?_ ?_
                   rotate_left
                   ·rintro w' ⟨s0,s1,s2,s3,s4,s5,s6,s7,s8,s9,s10,s11,s12,s13,s14⟩
                    go_simp
                    with_reducible rfl
                   rotate_left
                   ·simp only[Act.put,jq5,jq6,jq7,i64_w,i32_w]
                    rfl
                   refine one_ (i:=1) (N:=some 48) #[Z,Z,Y,Y,Y,Y,Y,Y,Y,Y,Y,Y,Y,Y,Y,Y,Y,Y,Y,Y,Y,Y,Y] rfl rfl (one_of HT_.out (by kernel_rfl)) (by decide) (fun K hK=>?_)
                   refine goes_ Try.func25 (by kernel_rfl) rfl #[.agg #[.int .i64 ((vz l0_5 x42_3).f0),.int .i64 ((vz l0_5 x42_3).f1),.string ((vz l0_5 x42_3).f2),.string ((vz l0_5 x42_3).f3)]] (by rfl) rfl rfl (by(try simp only[jq0,jq1,jq2]);first|done|rfl|(simp only[jq3,jq4];rfl)) ?_
                   with_reducible refine(qqx.calls k3 ((vz l0_5 x42_3).f0) ((vz l0_5 x42_3).f1) ((vz l0_5 x42_3).f2) ((vz l0_5 x42_3).f3) true _ A31.out).mono ?_
                   rintro e w45 ⟨rfl,hb⟩
                   refine⟨_,rfl,?_⟩
                   replace BK101:=U.mk (kv (g:=gb101) (o:=.cells #[.int .i64 a0_0,.int .i64 a0_1,.int .i64 a0_2,.string a0_3,.string a0_4,.slice (some ad103) l0_5.length c0_5,.slice A0_6 l0_6.length c0_6] 58 (0,0)) (by solve_by_elim only[BK101.out,qw,qx,qv]) hb)
                   replace BK104:=U.mk (kv (g:=gb104) (o:=.cells #[.int .i64 ((vz l0_5 x42_3).f0),.int .i64 ((vz l0_5 x42_3).f1),.string ((vz l0_5 x42_3).f2),.string ((vz l0_5 x42_3).f3)] 34 (0,0)) (by solve_by_elim only[BK104.out,qw,qx,qv]) hb)
                   replace HB:=U.mk (zz (by solve_by_elim (maxDepth:=20) only[HB.out,G,J,qq,qk,GE101.out,qk,GE104.out]) hb)
                   (try clear hb)
                   (try clear hb2)
                   (try clear hk)
                   (try clear hi)
                   refine hK.out _ _ ⟨(qj BK104.out 0).trans rfl,(qj BK104.out 1).trans rfl,(qj BK104.out 2).trans rfl,(qj BK104.out 3).trans rfl,(qj BK101.out 0).trans rfl,(qj BK101.out 1).trans rfl,(qj BK101.out 2).trans rfl,(qj BK101.out 3).trans rfl,(qj BK101.out 4).trans rfl,(qj BK101.out 5).trans rfl,(qj BK101.out 6).trans rfl,((HB.out.cell (World.block_lt_of_cell? w _ hw106_0)).trans hw106_0),((HB.out.cell (World.block_lt_of_cell? w _ hw106_1)).trans hw106_1),((HB.out.cell (World.block_lt_of_cell? w _ hw106_2)).trans hw106_2),((HB.out.cell (World.block_lt_of_cell? w _ hw106_3)).trans hw106_3)⟩ (fun hHeld=>?_)
                   clear hK K
                   refine norm_ (a':=?_) ?_ ?_
                   rotate_left
                   ·show Act.put _ (some 48) _=_
                    simp only[Act.put,jq5,jq6,jq7,i64_w,i32_w]
                    rfl
                   refine pure_ (i:=2) (N:=some 49) (v:=?_) (a':=?_) #[Z,Z,Z,Y,Y,Y,Y,Y,Y,Y,Y,Y,Y,Y,Y,Y,Y,Y,Y,Y,Y,Y,Y] rfl rfl (any_of HT_.out (by kernel_rfl)) (fun _ _ _ h=>h) (Or.inl ⟨by rfl,?_⟩) ?_ ?_
                   rotate_left
                   ·intro w'
                    go_simp
                    with_reducible rfl
                   rotate_left
                   ·simp only[Act.put,jq5,jq6,jq7,i64_w,i32_w]
                    rfl
                   refine pure_ (i:=3) (N:=some 50) (v:=?_) (a':=?_) #[Z,Z,Z,Z,Y,Y,Y,Y,Y,Y,Y,Y,Y,Y,Y,Y,Y,Y,Y,Y,Y,Y,Y] rfl rfl (any_of HT_.out (by kernel_rfl)) (fun _ _ _ h=>h) (Or.inl ⟨by rfl,?_⟩) ?_ ?_
                   rotate_left
                   ·intro w'
                    go_simp
                    with_reducible rfl
                   rotate_left
                   ·simp only[Act.put,jq5,jq6,jq7,i64_w,i32_w]
                    rfl
                   refine pure_ (i:=4) (N:=some 51) (v:=?_) (a':=?_) #[Z,Z,Z,Z,Z,Y,Y,Y,Y,Y,Y,Y,Y,Y,Y,Y,Y,Y,Y,Y,Y,Y,Y] rfl rfl (any_of HT_.out (by kernel_rfl)) (fun _ _ _ h=>h) (Or.inl ⟨by rfl,?_⟩) ?_ ?_
                   rotate_left
                   ·intro w'
                    go_simp
                    with_reducible rfl
                   rotate_left
                   ·simp only[Act.put,jq5,jq6,jq7,i64_w,i32_w]
                    rfl
                   refine take_ (i:=5) (N:=some 52) (v:=?_) (a':=?_) #[Z,Z,Z,Z,Z,Z,Y,Y,Y,Y,Y,Y,Y,Y,Y,Y,Y,Y,Y,Y,Y,Y,Y] rfl rfl (take_ofW HT_.out HW_.out (by kernel_rfl)) (fun _ _ _ h=>h) (Or.inl ⟨by rfl,?_⟩) hHeld ?_ ?_
                   rotate_left
                   ·rintro w' ⟨s0,s1,s2,s3,s4,s5,s6,s7,s8,s9,s10,s11,s12,s13,s14⟩
                    go_simp
                    with_reducible rfl
                   rotate_left
                   ·simp only[Act.put,jq5,jq6,jq7,i64_w,i32_w]
                    rfl
                   refine pure_ (i:=6) (N:=some 53) (v:=?_) (a':=?_) #[Z,Z,Z,Z,Z,Z,Z,Y,Y,Y,Y,Y,Y,Y,Y,Y,Y,Y,Y,Y,Y,Y,Y] rfl rfl (any_of HT_.out (by kernel_rfl)) (fun _ _ _ h=>h) (Or.inl ⟨by rfl,?_⟩) ?_ ?_
                   rotate_left
                   ·intro w'
                    go_simp
                    with_reducible rfl
                   rotate_left
                   ·simp only[Act.put,jq5,jq6,jq7,i64_w,i32_w]
                    rfl
                   refine pure_ (i:=7) (N:=some 54) (v:=?_) (a':=?_) #[Z,Z,Z,Z,Z,Z,Z,Z,Y,Y,Y,Y,Y,Y,Y,Y,Y,Y,Y,Y,Y,Y,Y] rfl rfl (any_of HT_.out (by kernel_rfl)) (fun _ _ _ h=>h) (Or.inl ⟨by rfl,?_⟩) ?_ ?_
                   rotate_left
                   ·intro w'
                    go_simp
                    with_reducible rfl
                   rotate_left
                   ·simp only[Act.put,jq5,jq6,jq7,i64_w,i32_w]
                    rfl
                   refine pure_ (i:=8) (N:=some 55) (v:=?_) (a':=?_) #[Z,Z,Z,Z,Z,Z,Z,Z,Z,Y,Y,Y,Y,Y,Y,Y,Y,Y,Y,Y,Y,Y,Y] rfl rfl (any_of HT_.out (by kernel_rfl)) (fun _ _ _ h=>h) (Or.inl ⟨by rfl,?_⟩) ?_ ?_
                   rotate_left
                   ·intro w'
                    go_simp
                    with_reducible rfl
                   rotate_left
                   ·simp only[Act.put,jq5,jq6,jq7,i64_w,i32_w]
                    rfl
                   refine pure_ (i:=9) (N:=some 56) (v:=?_) (a':=?_) #[Z,Z,Z,Z,Z,Z,Z,Z,Z,Z,Y,Y,Y,Y,Y,Y,Y,Y,Y,Y,Y,Y,Y] rfl rfl (any_of HT_.out (by kernel_rfl)) (fun _ _ _ h=>h) (Or.inl ⟨by rfl,?_⟩) ?_ ?_
                   rotate_left
                   ·intro w'
                    go_simp
                    with_reducible rfl
                   rotate_left
                   ·simp only[Act.put,jq5,jq6,jq7,i64_w,i32_w]
                    rfl
                   refine pure_ (i:=10) (N:=some 57) (v:=?_) (a':=?_) #[Z,Z,Z,Z,Z,Z,Z,Z,Z,Z,Z,Y,Y,Y,Y,Y,Y,Y,Y,Y,Y,Y,Y] rfl rfl (any_of HT_.out (by kernel_rfl)) (fun _ _ _ h=>h) (Or.inl ⟨by rfl,?_⟩) ?_ ?_
                   rotate_left
                   ·intro w'
                    go_simp
                    with_reducible rfl
                   rotate_left
                   ·simp only[Act.put,jq5,jq6,jq7,i64_w,i32_w]
                    rfl
                   refine pure_ (i:=11) (N:=some 58) (v:=?_) (a':=?_) #[Z,Z,Z,Z,Z,Z,Z,Z,Z,Z,Z,Z,Y,Y,Y,Y,Y,Y,Y,Y,Y,Y,Y] rfl rfl (any_of HT_.out (by kernel_rfl)) (fun _ _ _ h=>h) (Or.inl ⟨by rfl,?_⟩) ?_ ?_
                   rotate_left
                   ·intro w'
                    go_simp
                    with_reducible rfl
                   rotate_left
                   ·simp only[Act.put,jq5,jq6,jq7,i64_w,i32_w]
                    rfl
                   refine pure_ (i:=12) (N:=some 59) (v:=?_) (a':=?_) #[Z,Z,Z,Z,Z,Z,Z,Z,Z,Z,Z,Z,Z,Y,Y,Y,Y,Y,Y,Y,Y,Y,Y] rfl rfl (any_of HT_.out (by kernel_rfl)) (fun _ _ _ h=>h) (Or.inl ⟨by rfl,?_⟩) ?_ ?_
                   rotate_left
                   ·intro w'
                    go_simp
                    with_reducible rfl
                   rotate_left
                   ·simp only[Act.put,jq5,jq6,jq7,i64_w,i32_w]
                    rfl
                   refine pure_ (i:=14) (N:=some 61) (v:=?_) (a':=?_) #[Z,Z,Z,Z,Z,Z,Z,Z,Z,Z,Z,Z,Z,Y,Z,Y,Y,Y,Y,Y,Y,Y,Y] rfl rfl (any_of HT_.out (by kernel_rfl)) (fun _ _ _ h=>h) (Or.inl ⟨by rfl,?_⟩) ?_ ?_
                   rotate_left
                   ·intro w'
                    go_simp
                    with_reducible rfl
                   rotate_left
                   ·simp only[Act.put,jq5,jq6,jq7,i64_w,i32_w]
                    rfl
                   refine pure_ (i:=15) (N:=some 62) (v:=?_) (a':=?_) #[Z,Z,Z,Z,Z,Z,Z,Z,Z,Z,Z,Z,Z,Y,Z,Z,Y,Y,Y,Y,Y,Y,Y] rfl rfl (any_of HT_.out (by kernel_rfl)) (fun _ _ _ h=>h) (Or.inl ⟨by rfl,?_⟩) ?_ ?_
                   rotate_left
                   ·intro w'
                    go_simp
                    with_reducible rfl
                   rotate_left
                   ·simp only[Act.put,jq5,jq6,jq7,i64_w,i32_w]
                    rfl
                   refine take_ (i:=13) (N:=some 60) (v:=?_) (a':=?_) #[Z,Z,Z,Z,Z,Z,Z,Z,Z,Z,Z,Z,Z,Z,Z,Z,Y,Y,Y,Y,Y,Y,Y] rfl rfl (take_ofW HT_.out HW_.out (by kernel_rfl)) (fun _ _ _ h=>h) (Or.inl ⟨by rfl,?_⟩) hHeld ?_ ?_
                   rotate_left
                   ·rintro w' ⟨s0,s1,s2,s3,s4,s5,s6,s7,s8,s9,s10,s11,s12,s13,s14⟩
                    go_simp
                    with_reducible rfl
                   rotate_left
                   ·simp only[Act.put,jq5,jq6,jq7,i64_w,i32_w]
                    rfl
                   refine pure_ (i:=16) (N:=some 63) (v:=?_) (a':=?_) #[Z,Z,Z,Z,Z,Z,Z,Z,Z,Z,Z,Z,Z,Z,Z,Z,Z,Y,Y,Y,Y,Y,Y] rfl rfl (any_of HT_.out (by kernel_rfl)) (fun _ _ _ h=>h) (Or.inl ⟨by rfl,?_⟩) ?_ ?_
                   rotate_left
                   ·intro w'
                    go_simp
                    with_reducible rfl
                   rotate_left
                   ·simp only[Act.put,jq5,jq6,jq7,i64_w,i32_w]
                    rfl
                   refine take_ (i:=17) (N:=some 64) (v:=?_) (a':=?_) #[Z,Z,Z,Z,Z,Z,Z,Z,Z,Z,Z,Z,Z,Z,Z,Z,Z,Z,Y,Y,Y,Y,Y] rfl rfl (take_ofW HT_.out HW_.out (by kernel_rfl)) (fun _ _ _ h=>h) (Or.inl ⟨by rfl,?_⟩) hHeld ?_ ?_
                   rotate_left
                   ·rintro w' ⟨s0,s1,s2,s3,s4,s5,s6,s7,s8,s9,s10,s11,s12,s13,s14⟩
                    go_simp
                    with_reducible rfl
                   rotate_left
                   ·simp only[Act.put,jq5,jq6,jq7,i64_w,i32_w]
                    rfl
                   refine take_ (i:=18) (N:=some 65) (v:=?_) (a':=?_) #[Z,Z,Z,Z,Z,Z,Z,Z,Z,Z,Z,Z,Z,Z,Z,Z,Z,Z,Z,Y,Y,Y,Y] rfl rfl (take_ofW HT_.out HW_.out (by kernel_rfl)) (fun _ _ _ h=>h) (Or.inl ⟨by rfl,?_⟩) hHeld ?_ ?_
                   rotate_left
                   ·rintro w' ⟨s0,s1,s2,s3,s4,s5,s6,s7,s8,s9,s10,s11,s12,s13,s14⟩
                    go_simp
                    with_reducible rfl
                   rotate_left
                   ·simp only[Act.put,jq5,jq6,jq7,i64_w,i32_w]
                    rfl
                   refine one_ (i:=19) (N:=some 66) #[Z,Z,Z,Z,Z,Z,Z,Z,Z,Z,Z,Z,Z,Z,Z,Z,Z,Z,Z,Z,Y,Y,Y] rfl rfl (one_of HT_.out (by kernel_rfl)) (by decide) (fun K hK=>?_)
                   refine goes_ Try.func97 (by kernel_rfl) rfl #[.agg #[.int .i64 ((vz l0_5 (ji35)).f0),.int .i64 ((vz l0_5 (ji35)).f1),.string ((vz l0_5 (ji35)).f2),.string ((vz l0_5 (ji35)).f3)],.agg #[.int .i64 ((vz l0_5 x42_3).f0),.int .i64 ((vz l0_5 x42_3).f1),.string ((vz l0_5 x42_3).f2),.string ((vz l0_5 x42_3).f3)]] (by rfl) rfl rfl (by(try simp only[jq0,jq1,jq2]);first|done|(simp only[hji35];rfl)|rfl|(simp only[jq3,jq4];rfl)) ?_
                   with_reducible refine(qzv.calls k3 ((vz l0_5 (ji35)).f0) ((vz l0_5 (ji35)).f1) ((vz l0_5 (ji35)).f2) ((vz l0_5 (ji35)).f3) ((vz l0_5 x42_3).f0) ((vz l0_5 x42_3).f1) ((vz l0_5 x42_3).f2) ((vz l0_5 x42_3).f3) t107 _ A38.out).mono ?_
                   rintro e w46 ⟨rfl,hb⟩
                   refine⟨_,rfl,?_⟩
                   replace BK101:=U.mk (kv (g:=gb101) (o:=.cells #[.int .i64 a0_0,.int .i64 a0_1,.int .i64 a0_2,.string a0_3,.string a0_4,.slice (some ad103) l0_5.length c0_5,.slice A0_6 l0_6.length c0_6] 58 (0,0)) (by solve_by_elim only[BK101.out,qw,qx,qv]) hb)
                   replace BK104:=U.mk (kv (g:=gb104) (o:=.cells #[.int .i64 ((vz l0_5 x42_3).f0),.int .i64 ((vz l0_5 x42_3).f1),.string ((vz l0_5 x42_3).f2),.string ((vz l0_5 x42_3).f3)] 34 (0,0)) (by solve_by_elim only[BK104.out,qw,qx,qv]) hb)
                   replace HB:=U.mk (zz (by solve_by_elim (maxDepth:=20) only[HB.out,G,J,qq,qk,GE101.out,qk,GE104.out]) hb)
                   (try clear hb)
                   (try clear hb2)
                   (try clear hk)
                   (try clear hi)
                   refine hK.out _ _ ⟨(qj BK104.out 0).trans rfl,(qj BK104.out 1).trans rfl,(qj BK104.out 2).trans rfl,(qj BK104.out 3).trans rfl,(qj BK101.out 0).trans rfl,(qj BK101.out 1).trans rfl,(qj BK101.out 2).trans rfl,(qj BK101.out 3).trans rfl,(qj BK101.out 4).trans rfl,(qj BK101.out 5).trans rfl,(qj BK101.out 6).trans rfl,((HB.out.cell (World.block_lt_of_cell? w _ hw106_0)).trans hw106_0),((HB.out.cell (World.block_lt_of_cell? w _ hw106_1)).trans hw106_1),((HB.out.cell (World.block_lt_of_cell? w _ hw106_2)).trans hw106_2),((HB.out.cell (World.block_lt_of_cell? w _ hw106_3)).trans hw106_3)⟩ (fun hHeld=>?_)
                   clear hK K
                   refine norm_ (a':=?_) ?_ ?_
                   rotate_left
                   ·show Act.put _ (some 66) _=_
                    simp only[Act.put,jq5,jq6,jq7,i64_w,i32_w]
                    rfl
                   refine pure_ (i:=20) (N:=some 67) (v:=?_) (a':=?_) #[Z,Z,Z,Z,Z,Z,Z,Z,Z,Z,Z,Z,Z,Z,Z,Z,Z,Z,Z,Z,Z,Y,Y] rfl rfl (any_of HT_.out (by kernel_rfl)) (fun _ _ _ h=>h) (Or.inl ⟨by rfl,?_⟩) ?_ ?_
                   rotate_left
                   ·intro w'
                    go_simp
                    with_reducible rfl
                   rotate_left
                   ·simp only[Act.put,jq5,jq6,jq7,i64_w,i32_w]
                    rfl
                   refine pure_ (i:=21) (N:=some 68) (v:=?_) (a':=?_) #[Z,Z,Z,Z,Z,Z,Z,Z,Z,Z,Z,Z,Z,Z,Z,Z,Z,Z,Z,Z,Z,Z,Y] rfl rfl (any_of HT_.out (by kernel_rfl)) (fun _ _ _ h=>h) (Or.inl ⟨by rfl,?_⟩) ?_ ?_
                   rotate_left
                   ·intro w'
                    go_simp
                    with_reducible rfl
                   rotate_left
                   ·simp only[Act.put,jq5,jq6,jq7,i64_w,i32_w]
                    rfl
                   refine pure_ (i:=22) (N:=some 69) (v:=?_) (a':=?_) #[Z,Z,Z,Z,Z,Z,Z,Z,Z,Z,Z,Z,Z,Z,Z,Z,Z,Z,Z,Z,Z,Z,Z] rfl rfl (any_of HT_.out (by kernel_rfl)) (fun _ _ _ h=>h) (Or.inl ⟨by rfl,?_⟩) ?_ ?_
                   rotate_left
                   ·intro w'
                    go_simp
                    with_reducible rfl
                   rotate_left
                   ·simp only[Act.put,jq5,jq6,jq7,i64_w,i32_w]
                    rfl
                   refine done_ (done_of HT_.out (by kernel_rfl)) ?_
                   try go_wp2
                   go_ret
                   exact⟨by first|rfl|(simp[jv,jk] <;> rfl)|(simp only[← hji35];first|rfl|(simp[jv,jk] <;> rfl))|(simp[*,jv,jk] <;> rfl),by repeat(first|(with_reducible first|exact HB.out|apply G|apply J|apply qq|refine qk ?_ GE101.out|refine qk ?_ GE104.out)|exact HB.out)⟩
                  ·rw[if_neg c39] at H
                   have c39b0:decide (0≤t107)=false:=decide_eq_false c39
                   clear c39
                   have H':=U.mk H
                   clear H
                   have p103 : 0≤(x42_3:Int):=of_decide_eq_true (by assumption)
                   have q103:x42_3 < (l0_5.length:Int):=of_decide_eq_true (by assumption)
                   obtain⟨ad103,e103,hx103_0,hx103_1,hx103_2,hx103_3⟩:=at_T34 HR0_5.out x42_3 p103 q103
                   cases e103
                   replace hx103_0:=(HB.out.cell (World.block_lt_of_cell? w _ hx103_0)).trans hx103_0
                   replace hx103_1:=(HB.out.cell (World.block_lt_of_cell? w _ hx103_1)).trans hx103_1
                   replace hx103_2:=(HB.out.cell (World.block_lt_of_cell? w _ hx103_2)).trans hx103_2
                   replace hx103_3:=(HB.out.cell (World.block_lt_of_cell? w _ hx103_3)).trans hx103_3
                   replace p103:=eq_true p103
                   replace q103:=eq_true q103
                   try go_wp2_with (first|((with_reducible refine gate_dst (N:=4) rfl ?_);(try (refine gate_guard (by rfl) ?_;dsimp only));refine box_event ?hg (N:=4) ?hd (cs:=#[.int .i64 0,.int .i64 0,.string (⟨#[]⟩ : ByteArray),.string (⟨#[]⟩ : ByteArray)]) (t:=34) ?hr ?_;(case hd=>rfl);(case hg=>rfl);(case hr=>first|(go_simp;done)|(go_simp;rfl));intro gb104 hg w47 hbox hb;have BK104:=U.mk (hbox);have GW104:=U.mk ((by rw[hg];exact(zj (by solve_by_elim (maxDepth:=20) only[HB.out,G,J,qq,qk,GE101.out])):w.heap.size≤gb104));have GE104:=U.mk ((by rw[hg];exact(zj (by solve_by_elim (maxDepth:=20) only[HB.out,G,J,qq,qk,GE101.out])):w.heap.size≤gb104));replace HB:=U.mk (zz (by solve_by_elim (maxDepth:=20) only[HB.out,G,J,qq,qk,GE101.out]) hb);have NB101_104:=U.mk ((by rw[hg];exact Nat.ne_of_lt (blk_lt (g:=gb101) (o:=.cells #[.int .i64 a0_0,.int .i64 a0_1,.int .i64 a0_2,.string a0_3,.string a0_4,.slice (some ad103) l0_5.length c0_5,.slice A0_6 l0_6.length c0_6] 58 (0,0)) (by solve_by_elim only[BK101.out,qw,qx,qv])):gb101≠gb104));have NB104_101:=U.mk ((by rw[hg];exact Nat.ne_of_gt (blk_lt (g:=gb101) (o:=.cells #[.int .i64 a0_0,.int .i64 a0_1,.int .i64 a0_2,.string a0_3,.string a0_4,.slice (some ad103) l0_5.length c0_5,.slice A0_6 l0_6.length c0_6] 58 (0,0)) (by solve_by_elim only[BK101.out,qw,qx,qv])):gb104≠gb101));replace BK101:=U.mk (kv (g:=gb101) (o:=.cells #[.int .i64 a0_0,.int .i64 a0_1,.int .i64 a0_2,.string a0_3,.string a0_4,.slice (some ad103) l0_5.length c0_5,.slice A0_6 l0_6.length c0_6] 58 (0,0)) (by solve_by_elim only[BK101.out,qw,qx,qv]) hb);clear hb hbox hg;have hnb48:=NB104_101.out;have hnc48:=NB101_104.out;have hcz49_0:w47.cell? ⟨gb104,0,none⟩ = some (.int .i64 0):=(qj BK104.out 0).trans rfl;have hcz49_1:w47.cell? ⟨gb104,1,none⟩ = some (.int .i64 0):=(qj BK104.out 1).trans rfl;have hcz49_2:w47.cell? ⟨gb104,2,none⟩ = some (.string (⟨#[]⟩ : ByteArray)):=(qj BK104.out 2).trans rfl;have hcz49_3:w47.cell? ⟨gb104,3,none⟩ = some (.string (⟨#[]⟩ : ByteArray)):=(qj BK104.out 3).trans rfl;have hfz49_0:=qz BK104.out 0;have hfz49_1:=qz BK104.out 1;have hfz49_2:=qz BK104.out 2;have hfz49_3:=qz BK104.out 3))
                   have n0_:U (((((w47.setCell ⟨gb104,0,none⟩ (.int .i64 ((vz l0_5 x42_3).f0))).setCell ⟨gb104,1,none⟩ (.int .i64 ((vz l0_5 x42_3).f1))).setCell ⟨gb104,2,none⟩ (.string ((vz l0_5 x42_3).f2))).setCell ⟨gb104,3,none⟩ (.string ((vz l0_5 x42_3).f3))).heap[gb101]? = some (.cells #[.int .i64 a0_0,.int .i64 a0_1,.int .i64 a0_2,.string a0_3,.string a0_4,.slice (some ad103) l0_5.length c0_5,.slice A0_6 l0_6.length c0_6] 58 (0,0))):=⟨by(with_reducible repeat(first|refine qw ?_ _|refine qx ?_|refine qv ?_ _));refine blk_far ?_ NB101_104.out _;(with_reducible repeat(first|refine qw ?_ _|refine qx ?_|refine qv ?_ _));refine blk_far ?_ NB101_104.out _;(with_reducible repeat(first|refine qw ?_ _|refine qx ?_|refine qv ?_ _));refine blk_far ?_ NB101_104.out _;(with_reducible repeat(first|refine qw ?_ _|refine qx ?_|refine qv ?_ _));refine blk_far ?_ NB101_104.out _;(with_reducible repeat(first|refine qw ?_ _|refine qx ?_|refine qv ?_ _));exact BK101.out⟩
                   have n1_:U (((((w47.setCell ⟨gb104,0,none⟩ (.int .i64 ((vz l0_5 x42_3).f0))).setCell ⟨gb104,1,none⟩ (.int .i64 ((vz l0_5 x42_3).f1))).setCell ⟨gb104,2,none⟩ (.string ((vz l0_5 x42_3).f2))).setCell ⟨gb104,3,none⟩ (.string ((vz l0_5 x42_3).f3))).heap[gb104]? = some (.cells #[.int .i64 ((vz l0_5 x42_3).f0),.int .i64 ((vz l0_5 x42_3).f1),.string ((vz l0_5 x42_3).f2),.string ((vz l0_5 x42_3).f3)] 34 (0,0))):=⟨by(with_reducible repeat(first|refine qw ?_ _|refine qx ?_|refine qv ?_ _));refine blk_put (cs:=#[.int .i64 ((vz l0_5 x42_3).f0),.int .i64 ((vz l0_5 x42_3).f1),.string ((vz l0_5 x42_3).f2),.string (⟨#[]⟩ : ByteArray)]) ?_ 3 _ rfl;(with_reducible repeat(first|refine qw ?_ _|refine qx ?_|refine qv ?_ _));refine blk_put (cs:=#[.int .i64 ((vz l0_5 x42_3).f0),.int .i64 ((vz l0_5 x42_3).f1),.string (⟨#[]⟩ : ByteArray),.string (⟨#[]⟩ : ByteArray)]) ?_ 2 _ rfl;(with_reducible repeat(first|refine qw ?_ _|refine qx ?_|refine qv ?_ _));refine blk_put (cs:=#[.int .i64 ((vz l0_5 x42_3).f0),.int .i64 0,.string (⟨#[]⟩ : ByteArray),.string (⟨#[]⟩ : ByteArray)]) ?_ 1 _ rfl;(with_reducible repeat(first|refine qw ?_ _|refine qx ?_|refine qv ?_ _));refine blk_put (cs:=#[.int .i64 0,.int .i64 0,.string (⟨#[]⟩ : ByteArray),.string (⟨#[]⟩ : ByteArray)]) ?_ 0 _ rfl;(with_reducible repeat(first|refine qw ?_ _|refine qx ?_|refine qv ?_ _));exact BK104.out⟩
                   have n2_:U (Below w.heap.size w ((((w47.setCell ⟨gb104,0,none⟩ (.int .i64 ((vz l0_5 x42_3).f0))).setCell ⟨gb104,1,none⟩ (.int .i64 ((vz l0_5 x42_3).f1))).setCell ⟨gb104,2,none⟩ (.string ((vz l0_5 x42_3).f2))).setCell ⟨gb104,3,none⟩ (.string ((vz l0_5 x42_3).f3)))):=⟨by repeat(first|(with_reducible first|exact HB.out|apply G|apply J|apply qq|refine qk ?_ GE101.out|refine qk ?_ GE104.out)|exact HB.out)⟩
                   (try clear BK101)
                   (try clear BK104)
                   (try clear HB)
                   generalize ((((w47.setCell ⟨gb104,0,none⟩ (.int .i64 ((vz l0_5 x42_3).f0))).setCell ⟨gb104,1,none⟩ (.int .i64 ((vz l0_5 x42_3).f1))).setCell ⟨gb104,2,none⟩ (.string ((vz l0_5 x42_3).f2))).setCell ⟨gb104,3,none⟩ (.string ((vz l0_5 x42_3).f3)))=w50 at n0_ n1_ n2_ ⊢
                   have BK101:=n0_
                   have BK104:=n1_
                   have HB:=n2_
                   clear n0_ n1_ n2_
                   replace BK101:=U.mk (qx BK101.out)
                   replace BK104:=U.mk (qx BK104.out)
                   replace HB:=U.mk (qq HB.out)
                   have p106 : 0≤((ji35):Int):=of_decide_eq_true (by assumption)
                   have q106:(ji35) < (l0_5.length:Int):=of_decide_eq_true (by assumption)
                   obtain⟨ad106,e106,hx106_0,hx106_1,hx106_2,hx106_3⟩:=at_T34 HR0_5.out (ji35) p106 q106
                   have hw106_3:=hx106_3
                   have hw106_2:=hx106_2
                   have hw106_1:=hx106_1
                   have hw106_0:=hx106_0
                   obtain rfl:ad103=ad106:=(by injection e106)
                   replace hx106_0:=(HB.out.cell (World.block_lt_of_cell? w _ hx106_0)).trans hx106_0
                   replace hx106_1:=(HB.out.cell (World.block_lt_of_cell? w _ hx106_1)).trans hx106_1
                   replace hx106_2:=(HB.out.cell (World.block_lt_of_cell? w _ hx106_2)).trans hx106_2
                   replace hx106_3:=(HB.out.cell (World.block_lt_of_cell? w _ hx106_3)).trans hx106_3
                   replace p106:=eq_true p106
                   replace q106:=eq_true q106
                   refine start_ (n:=23) (S:=fun w'=>w'.cell? ⟨gb104,0,none⟩ = some (.int .i64 ((vz l0_5 x42_3).f0))∧w'.cell? ⟨gb104,1,none⟩ = some (.int .i64 ((vz l0_5 x42_3).f1))∧w'.cell? ⟨gb104,2,none⟩ = some (.string ((vz l0_5 x42_3).f2))∧w'.cell? ⟨gb104,3,none⟩ = some (.string ((vz l0_5 x42_3).f3))∧w'.cell? ⟨gb101,0,none⟩ = some (.int .i64 a0_0)∧w'.cell? ⟨gb101,1,none⟩ = some (.int .i64 a0_1)∧w'.cell? ⟨gb101,2,none⟩ = some (.int .i64 a0_2)∧w'.cell? ⟨gb101,3,none⟩ = some (.string a0_3)∧w'.cell? ⟨gb101,4,none⟩ = some (.string a0_4)∧w'.cell? ⟨gb101,5,none⟩ = some (.slice (some ad103) l0_5.length c0_5)∧w'.cell? ⟨gb101,6,none⟩ = some (.slice A0_6 l0_6.length c0_6)∧w'.cell? (ad103.add (((ji35)).toNat * 4))=some (.int .i64 ((vz l0_5 (ji35)).f0))∧w'.cell? ⟨(ad103.add (((ji35)).toNat * 4)).block,(ad103.add (((ji35)).toNat * 4)).off + 1,none⟩ = some (.int .i64 ((vz l0_5 (ji35)).f1))∧w'.cell? ⟨(ad103.add (((ji35)).toNat * 4)).block,(ad103.add (((ji35)).toNat * 4)).off + 2,none⟩ = some (.string ((vz l0_5 (ji35)).f2))∧w'.cell? ⟨(ad103.add (((ji35)).toNat * 4)).block,(ad103.add (((ji35)).toNat * 4)).off + 3,none⟩ = some (.string ((vz l0_5 (ji35)).f3))) (ds:=[]) #[Y,Y,Y,Y,Y,Y,Y,Y,Y,Y,Y,Y,Y,Y,Y,Y,Y,Y,Y,Y,Y,Y,Y] (by kernel_rfl) rfl rfl ⟨(qj BK104.out 0).trans rfl,(qj BK104.out 1).trans rfl,(qj BK104.out 2).trans rfl,(qj BK104.out 3).trans rfl,(qj BK101.out 0).trans rfl,(qj BK101.out 1).trans rfl,(qj BK101.out 2).trans rfl,(qj BK101.out 3).trans rfl,(qj BK101.out 4).trans rfl,(qj BK101.out 5).trans rfl,(qj BK101.out 6).trans rfl,((HB.out.cell (World.block_lt_of_cell? w _ hw106_0)).trans hw106_0),((HB.out.cell (World.block_lt_of_cell? w _ hw106_1)).trans hw106_1),((HB.out.cell (World.block_lt_of_cell? w _ hw106_2)).trans hw106_2),((HB.out.cell (World.block_lt_of_cell? w _ hw106_3)).trans hw106_3)⟩ (fun hHeld=>?_);refine with_tabW qzz.tab11 qzz.bits11 (fun HT_ HW_=>?_)
                   generalize w50.drew=w51 at BK101 BK104 HB hx106_0 hx106_1 hx106_2 hx106_3 hHeld ⊢
                   refine take_ (i:=0) (N:=some 47) (v:=?_) (a':=?_) #[Z,Y,Y,Y,Y,Y,Y,Y,Y,Y,Y,Y,Y,Y,Y,Y,Y,Y,Y,Y,Y,Y,Y] rfl rfl (take_ofW HT_.out HW_.out (by kernel_rfl)) (fun _ _ _ h=>h) (Or.inl ⟨by rfl,?_⟩) hHeld ?_ ?_
                   rotate_left
                   ·rintro w' ⟨s0,s1,s2,s3,s4,s5,s6,s7,s8,s9,s10,s11,s12,s13,s14⟩
                    go_simp
                    with_reducible rfl
                   rotate_left
                   ·simp only[Act.put,jq5,jq6,jq7,i64_w,i32_w]
                    rfl
                   refine one_ (i:=1) (N:=some 48) #[Z,Z,Y,Y,Y,Y,Y,Y,Y,Y,Y,Y,Y,Y,Y,Y,Y,Y,Y,Y,Y,Y,Y] rfl rfl (one_of HT_.out (by kernel_rfl)) (by decide) (fun K hK=>?_)
                   refine goes_ Try.func25 (by kernel_rfl) rfl #[.agg #[.int .i64 ((vz l0_5 x42_3).f0),.int .i64 ((vz l0_5 x42_3).f1),.string ((vz l0_5 x42_3).f2),.string ((vz l0_5 x42_3).f3)]] (by rfl) rfl rfl (by(try simp only[jq0,jq1,jq2]);first|done|rfl|(simp only[jq3,jq4];rfl)) ?_
                   with_reducible refine(qqx.calls k3 ((vz l0_5 x42_3).f0) ((vz l0_5 x42_3).f1) ((vz l0_5 x42_3).f2) ((vz l0_5 x42_3).f3) true _ A31.out).mono ?_
                   rintro e w52 ⟨rfl,hb⟩
                   refine⟨_,rfl,?_⟩
                   replace BK101:=U.mk (kv (g:=gb101) (o:=.cells #[.int .i64 a0_0,.int .i64 a0_1,.int .i64 a0_2,.string a0_3,.string a0_4,.slice (some ad103) l0_5.length c0_5,.slice A0_6 l0_6.length c0_6] 58 (0,0)) (by solve_by_elim only[BK101.out,qw,qx,qv]) hb)
                   replace BK104:=U.mk (kv (g:=gb104) (o:=.cells #[.int .i64 ((vz l0_5 x42_3).f0),.int .i64 ((vz l0_5 x42_3).f1),.string ((vz l0_5 x42_3).f2),.string ((vz l0_5 x42_3).f3)] 34 (0,0)) (by solve_by_elim only[BK104.out,qw,qx,qv]) hb)
                   replace HB:=U.mk (zz (by solve_by_elim (maxDepth:=20) only[HB.out,G,J,qq,qk,GE101.out,qk,GE104.out]) hb)
                   (try clear hb)
                   (try clear hb2)
                   (try clear hk)
                   (try clear hi)
                   refine hK.out _ _ ⟨(qj BK104.out 0).trans rfl,(qj BK104.out 1).trans rfl,(qj BK104.out 2).trans rfl,(qj BK104.out 3).trans rfl,(qj BK101.out 0).trans rfl,(qj BK101.out 1).trans rfl,(qj BK101.out 2).trans rfl,(qj BK101.out 3).trans rfl,(qj BK101.out 4).trans rfl,(qj BK101.out 5).trans rfl,(qj BK101.out 6).trans rfl,((HB.out.cell (World.block_lt_of_cell? w _ hw106_0)).trans hw106_0),((HB.out.cell (World.block_lt_of_cell? w _ hw106_1)).trans hw106_1),((HB.out.cell (World.block_lt_of_cell? w _ hw106_2)).trans hw106_2),((HB.out.cell (World.block_lt_of_cell? w _ hw106_3)).trans hw106_3)⟩ (fun hHeld=>?_)
                   clear hK K
                   refine norm_ (a':=?_) ?_ ?_
                   rotate_left
                   ·show Act.put _ (some 48) _=_
                    simp only[Act.put,jq5,jq6,jq7,i64_w,i32_w]
                    rfl
                   refine pure_ (i:=2) (N:=some 49) (v:=?_) (a':=?_) #[Z,Z,Z,Y,Y,Y,Y,Y,Y,Y,Y,Y,Y,Y,Y,Y,Y,Y,Y,Y,Y,Y,Y] rfl rfl (any_of HT_.out (by kernel_rfl)) (fun _ _ _ h=>h) (Or.inl ⟨by rfl,?_⟩) ?_ ?_
                   rotate_left
                   ·intro w'
                    go_simp
                    with_reducible rfl
                   rotate_left
                   ·simp only[Act.put,jq5,jq6,jq7,i64_w,i32_w]
                    rfl
                   refine pure_ (i:=3) (N:=some 50) (v:=?_) (a':=?_) #[Z,Z,Z,Z,Y,Y,Y,Y,Y,Y,Y,Y,Y,Y,Y,Y,Y,Y,Y,Y,Y,Y,Y] rfl rfl (any_of HT_.out (by kernel_rfl)) (fun _ _ _ h=>h) (Or.inl ⟨by rfl,?_⟩) ?_ ?_
                   rotate_left
                   ·intro w'
                    go_simp
                    with_reducible rfl
                   rotate_left
                   ·simp only[Act.put,jq5,jq6,jq7,i64_w,i32_w]
                    rfl
                   refine pure_ (i:=4) (N:=some 51) (v:=?_) (a':=?_) #[Z,Z,Z,Z,Z,Y,Y,Y,Y,Y,Y,Y,Y,Y,Y,Y,Y,Y,Y,Y,Y,Y,Y] rfl rfl (any_of HT_.out (by kernel_rfl)) (fun _ _ _ h=>h) (Or.inl ⟨by rfl,?_⟩) ?_ ?_
                   rotate_left
                   ·intro w'
                    go_simp
                    with_reducible rfl
                   rotate_left
                   ·simp only[Act.put,jq5,jq6,jq7,i64_w,i32_w]
                    rfl
                   refine take_ (i:=5) (N:=some 52) (v:=?_) (a':=?_) #[Z,Z,Z,Z,Z,Z,Y,Y,Y,Y,Y,Y,Y,Y,Y,Y,Y,Y,Y,Y,Y,Y,Y] rfl rfl (take_ofW HT_.out HW_.out (by kernel_rfl)) (fun _ _ _ h=>h) (Or.inl ⟨by rfl,?_⟩) hHeld ?_ ?_
                   rotate_left
                   ·rintro w' ⟨s0,s1,s2,s3,s4,s5,s6,s7,s8,s9,s10,s11,s12,s13,s14⟩
                    go_simp
                    with_reducible rfl
                   rotate_left
                   ·simp only[Act.put,jq5,jq6,jq7,i64_w,i32_w]
                    rfl
                   refine pure_ (i:=6) (N:=some 53) (v:=?_) (a':=?_) #[Z,Z,Z,Z,Z,Z,Z,Y,Y,Y,Y,Y,Y,Y,Y,Y,Y,Y,Y,Y,Y,Y,Y] rfl rfl (any_of HT_.out (by kernel_rfl)) (fun _ _ _ h=>h) (Or.inl ⟨by rfl,?_⟩) ?_ ?_
                   rotate_left
                   ·intro w'
                    go_simp
                    with_reducible rfl
                   rotate_left
                   ·simp only[Act.put,jq5,jq6,jq7,i64_w,i32_w]
                    rfl
                   refine pure_ (i:=7) (N:=some 54) (v:=?_) (a':=?_) #[Z,Z,Z,Z,Z,Z,Z,Z,Y,Y,Y,Y,Y,Y,Y,Y,Y,Y,Y,Y,Y,Y,Y] rfl rfl (any_of HT_.out (by kernel_rfl)) (fun _ _ _ h=>h) (Or.inl ⟨by rfl,?_⟩) ?_ ?_
                   rotate_left
                   ·intro w'
                    go_simp
                    with_reducible rfl
                   rotate_left
                   ·simp only[Act.put,jq5,jq6,jq7,i64_w,i32_w]
                    rfl
                   refine pure_ (i:=8) (N:=some 55) (v:=?_) (a':=?_) #[Z,Z,Z,Z,Z,Z,Z,Z,Z,Y,Y,Y,Y,Y,Y,Y,Y,Y,Y,Y,Y,Y,Y] rfl rfl (any_of HT_.out (by kernel_rfl)) (fun _ _ _ h=>h) (Or.inl ⟨by rfl,?_⟩) ?_ ?_
                   rotate_left
                   ·intro w'
                    go_simp
                    with_reducible rfl
                   rotate_left
                   ·simp only[Act.put,jq5,jq6,jq7,i64_w,i32_w]
                    rfl
                   refine pure_ (i:=9) (N:=some 56) (v:=?_) (a':=?_) #[Z,Z,Z,Z,Z,Z,Z,Z,Z,Z,Y,Y,Y,Y,Y,Y,Y,Y,Y,Y,Y,Y,Y] rfl rfl (any_of HT_.out (by kernel_rfl)) (fun _ _ _ h=>h) (Or.inl ⟨by rfl,?_⟩) ?_ ?_
                   rotate_left
                   ·intro w'
                    go_simp
                    with_reducible rfl
                   rotate_left
                   ·simp only[Act.put,jq5,jq6,jq7,i64_w,i32_w]
                    rfl
                   refine pure_ (i:=10) (N:=some 57) (v:=?_) (a':=?_) #[Z,Z,Z,Z,Z,Z,Z,Z,Z,Z,Z,Y,Y,Y,Y,Y,Y,Y,Y,Y,Y,Y,Y] rfl rfl (any_of HT_.out (by kernel_rfl)) (fun _ _ _ h=>h) (Or.inl ⟨by rfl,?_⟩) ?_ ?_
                   rotate_left
                   ·intro w'
                    go_simp
                    with_reducible rfl
                   rotate_left
                   ·simp only[Act.put,jq5,jq6,jq7,i64_w,i32_w]
                    rfl
                   refine pure_ (i:=11) (N:=some 58) (v:=?_) (a':=?_) #[Z,Z,Z,Z,Z,Z,Z,Z,Z,Z,Z,Z,Y,Y,Y,Y,Y,Y,Y,Y,Y,Y,Y] rfl rfl (any_of HT_.out (by kernel_rfl)) (fun _ _ _ h=>h) (Or.inl ⟨by rfl,?_⟩) ?_ ?_
                   rotate_left
                   ·intro w'
                    go_simp
                    with_reducible rfl
                   rotate_left
                   ·simp only[Act.put,jq5,jq6,jq7,i64_w,i32_w]
                    rfl
                   refine pure_ (i:=12) (N:=some 59) (v:=?_) (a':=?_) #[Z,Z,Z,Z,Z,Z,Z,Z,Z,Z,Z,Z,Z,Y,Y,Y,Y,Y,Y,Y,Y,Y,Y] rfl rfl (any_of HT_.out (by kernel_rfl)) (fun _ _ _ h=>h) (Or.inl ⟨by rfl,?_⟩) ?_ ?_
                   rotate_left
                   ·intro w'
                    go_simp
                    with_reducible rfl
                   rotate_left
                   ·simp only[Act.put,jq5,jq6,jq7,i64_w,i32_w]
                    rfl
                   refine pure_ (i:=14) (N:=some 61) (v:=?_) (a':=?_) #[Z,Z,Z,Z,Z,Z,Z,Z,Z,Z,Z,Z,Z,Y,Z,Y,Y,Y,Y,Y,Y,Y,Y] rfl rfl (any_of HT_.out (by kernel_rfl)) (fun _ _ _ h=>h) (Or.inl ⟨by rfl,?_⟩) ?_ ?_
                   rotate_left
                   ·intro w'
                    go_simp
                    with_reducible rfl
                   rotate_left
                   ·simp only[Act.put,jq5,jq6,jq7,i64_w,i32_w]
                    rfl
                   refine pure_ (i:=15) (N:=some 62) (v:=?_) (a':=?_) #[Z,Z,Z,Z,Z,Z,Z,Z,Z,Z,Z,Z,Z,Y,Z,Z,Y,Y,Y,Y,Y,Y,Y] rfl rfl (any_of HT_.out (by kernel_rfl)) (fun _ _ _ h=>h) (Or.inl ⟨by rfl,?_⟩) ?_ ?_
                   rotate_left
                   ·intro w'
                    go_simp
                    with_reducible rfl
                   rotate_left
                   ·simp only[Act.put,jq5,jq6,jq7,i64_w,i32_w]
                    rfl
                   refine take_ (i:=13) (N:=some 60) (v:=?_) (a':=?_) #[Z,Z,Z,Z,Z,Z,Z,Z,Z,Z,Z,Z,Z,Z,Z,Z,Y,Y,Y,Y,Y,Y,Y] rfl rfl (take_ofW HT_.out HW_.out (by kernel_rfl)) (fun _ _ _ h=>h) (Or.inl ⟨by rfl,?_⟩) hHeld ?_ ?_
                   rotate_left
                   ·rintro w' ⟨s0,s1,s2,s3,s4,s5,s6,s7,s8,s9,s10,s11,s12,s13,s14⟩
                    go_simp
                    with_reducible rfl
                   rotate_left
                   ·simp only[Act.put,jq5,jq6,jq7,i64_w,i32_w]
                    rfl
                   refine pure_ (i:=16) (N:=some 63) (v:=?_) (a':=?_) #[Z,Z,Z,Z,Z,Z,Z,Z,Z,Z,Z,Z,Z,Z,Z,Z,Z,Y,Y,Y,Y,Y,Y] rfl rfl (any_of HT_.out (by kernel_rfl)) (fun _ _ _ h=>h) (Or.inl ⟨by rfl,?_⟩) ?_ ?_
                   rotate_left
                   ·intro w'
                    go_simp
                    with_reducible rfl
                   rotate_left
                   ·simp only[Act.put,jq5,jq6,jq7,i64_w,i32_w]
                    rfl
                   refine take_ (i:=17) (N:=some 64) (v:=?_) (a':=?_) #[Z,Z,Z,Z,Z,Z,Z,Z,Z,Z,Z,Z,Z,Z,Z,Z,Z,Z,Y,Y,Y,Y,Y] rfl rfl (take_ofW HT_.out HW_.out (by kernel_rfl)) (fun _ _ _ h=>h) (Or.inl ⟨by rfl,?_⟩) hHeld ?_ ?_
                   rotate_left
                   ·rintro w' ⟨s0,s1,s2,s3,s4,s5,s6,s7,s8,s9,s10,s11,s12,s13,s14⟩
                    go_simp
                    with_reducible rfl
                   rotate_left
                   ·simp only[Act.put,jq5,jq6,jq7,i64_w,i32_w]
                    rfl
                   refine take_ (i:=18) (N:=some 65) (v:=?_) (a':=?_) #[Z,Z,Z,Z,Z,Z,Z,Z,Z,Z,Z,Z,Z,Z,Z,Z,Z,Z,Z,Y,Y,Y,Y] rfl rfl (take_ofW HT_.out HW_.out (by kernel_rfl)) (fun _ _ _ h=>h) (Or.inl ⟨by rfl,?_⟩) hHeld ?_ ?_
                   rotate_left
                   ·rintro w' ⟨s0,s1,s2,s3,s4,s5,s6,s7,s8,s9,s10,s11,s12,s13,s14⟩
                    go_simp
                    with_reducible rfl
                   rotate_left
                   ·simp only[Act.put,jq5,jq6,jq7,i64_w,i32_w]
                    rfl
                   refine one_ (i:=19) (N:=some 66) #[Z,Z,Z,Z,Z,Z,Z,Z,Z,Z,Z,Z,Z,Z,Z,Z,Z,Z,Z,Z,Y,Y,Y] rfl rfl (one_of HT_.out (by kernel_rfl)) (by decide) (fun K hK=>?_)
                   refine goes_ Try.func97 (by kernel_rfl) rfl #[.agg #[.int .i64 ((vz l0_5 (ji35)).f0),.int .i64 ((vz l0_5 (ji35)).f1),.string ((vz l0_5 (ji35)).f2),.string ((vz l0_5 (ji35)).f3)],.agg #[.int .i64 ((vz l0_5 x42_3).f0),.int .i64 ((vz l0_5 x42_3).f1),.string ((vz l0_5 x42_3).f2),.string ((vz l0_5 x42_3).f3)]] (by rfl) rfl rfl (by(try simp only[jq0,jq1,jq2]);first|done|(simp only[hji35];rfl)|rfl|(simp only[jq3,jq4];rfl)) ?_
                   with_reducible refine(qzv.calls k3 ((vz l0_5 (ji35)).f0) ((vz l0_5 (ji35)).f1) ((vz l0_5 (ji35)).f2) ((vz l0_5 (ji35)).f3) ((vz l0_5 x42_3).f0) ((vz l0_5 x42_3).f1) ((vz l0_5 x42_3).f2) ((vz l0_5 x42_3).f3) t107 _ A38.out).mono ?_
                   rintro e w53 ⟨rfl,hb⟩
                   refine⟨_,rfl,?_⟩
                   replace BK101:=U.mk (kv (g:=gb101) (o:=.cells #[.int .i64 a0_0,.int .i64 a0_1,.int .i64 a0_2,.string a0_3,.string a0_4,.slice (some ad103) l0_5.length c0_5,.slice A0_6 l0_6.length c0_6] 58 (0,0)) (by solve_by_elim only[BK101.out,qw,qx,qv]) hb)
                   replace BK104:=U.mk (kv (g:=gb104) (o:=.cells #[.int .i64 ((vz l0_5 x42_3).f0),.int .i64 ((vz l0_5 x42_3).f1),.string ((vz l0_5 x42_3).f2),.string ((vz l0_5 x42_3).f3)] 34 (0,0)) (by solve_by_elim only[BK104.out,qw,qx,qv]) hb)
                   replace HB:=U.mk (zz (by solve_by_elim (maxDepth:=20) only[HB.out,G,J,qq,qk,GE101.out,qk,GE104.out]) hb)
                   (try clear hb)
                   (try clear hb2)
                   (try clear hk)
                   (try clear hi)
                   refine hK.out _ _ ⟨(qj BK104.out 0).trans rfl,(qj BK104.out 1).trans rfl,(qj BK104.out 2).trans rfl,(qj BK104.out 3).trans rfl,(qj BK101.out 0).trans rfl,(qj BK101.out 1).trans rfl,(qj BK101.out 2).trans rfl,(qj BK101.out 3).trans rfl,(qj BK101.out 4).trans rfl,(qj BK101.out 5).trans rfl,(qj BK101.out 6).trans rfl,((HB.out.cell (World.block_lt_of_cell? w _ hw106_0)).trans hw106_0),((HB.out.cell (World.block_lt_of_cell? w _ hw106_1)).trans hw106_1),((HB.out.cell (World.block_lt_of_cell? w _ hw106_2)).trans hw106_2),((HB.out.cell (World.block_lt_of_cell? w _ hw106_3)).trans hw106_3)⟩ (fun hHeld=>?_)
                   clear hK K
                   refine norm_ (a':=?_) ?_ ?_
                   rotate_left
                   ·show Act.put _ (some 66) _=_
                    simp only[Act.put,jq5,jq6,jq7,i64_w,i32_w]
                    rfl
                   refine pure_ (i:=20) (N:=some 67) (v:=?_) (a':=?_) #[Z,Z,Z,Z,Z,Z,Z,Z,Z,Z,Z,Z,Z,Z,Z,Z,Z,Z,Z,Z,Z,Y,Y] rfl rfl (any_of HT_.out (by kernel_rfl)) (fun _ _ _ h=>h) (Or.inl ⟨by rfl,?_⟩) ?_ ?_
                   rotate_left
                   ·intro w'
                    go_simp
                    with_reducible rfl
                   rotate_left
                   ·simp only[Act.put,jq5,jq6,jq7,i64_w,i32_w]
                    rfl
                   refine pure_ (i:=21) (N:=some 68) (v:=?_) (a':=?_) #[Z,Z,Z,Z,Z,Z,Z,Z,Z,Z,Z,Z,Z,Z,Z,Z,Z,Z,Z,Z,Z,Z,Y] rfl rfl (any_of HT_.out (by kernel_rfl)) (fun _ _ _ h=>h) (Or.inl ⟨by rfl,?_⟩) ?_ ?_
                   rotate_left
                   ·intro w'
                    go_simp
                    with_reducible rfl
                   rotate_left
                   ·simp only[Act.put,jq5,jq6,jq7,i64_w,i32_w]
                    rfl
                   refine pure_ (i:=22) (N:=some 69) (v:=?_) (a':=?_) #[Z,Z,Z,Z,Z,Z,Z,Z,Z,Z,Z,Z,Z,Z,Z,Z,Z,Z,Z,Z,Z,Z,Z] rfl rfl (any_of HT_.out (by kernel_rfl)) (fun _ _ _ h=>h) (Or.inl ⟨by rfl,?_⟩) ?_ ?_
                   rotate_left
                   ·intro w'
                    go_simp
                    with_reducible rfl
                   rotate_left
                   ·simp only[Act.put,jq5,jq6,jq7,i64_w,i32_w]
                    rfl
                   refine done_ (done_of HT_.out (by kernel_rfl)) ?_
                   try go_wp2
                   go_roundg k3
                   case measure=>have:=HJ16.out;have:=HJ21.out;have:=HK3.out;omega
                   case rel=>exact⟨(wrap64 (x42_3 + 1)),(by first|rfl|(simp;done)|(simp[*];done)),H',⟨by have:=HJ16.out;have:=HJ21.out;have:=HK3.out;omega⟩,⟨by(with_reducible repeat(first|refine qw ?_ _|refine qx ?_|refine qv ?_ _));exact BK101.out⟩,⟨by repeat(first|(with_reducible first|exact HB.out|apply G|apply J|apply qq|refine qk ?_ GE101.out|refine qk ?_ GE104.out)|exact HB.out)⟩⟩
                 ·rw[if_neg c37] at H
                  exact absurd H (by simp)
                ·rw[if_neg c36] at H
                 exact absurd H (by simp)
               ·rw[if_neg c34] at H
                have c34b0:decide (0 < x42_3)=false:=decide_eq_false c34
                clear c34
                have H':=U.mk H
                clear H
                have p103 : 0≤(x42_3:Int):=of_decide_eq_true (by assumption)
                have q103:x42_3 < (l0_5.length:Int):=of_decide_eq_true (by assumption)
                obtain⟨ad103,e103,hx103_0,hx103_1,hx103_2,hx103_3⟩:=at_T34 HR0_5.out x42_3 p103 q103
                cases e103
                replace hx103_0:=(HB.out.cell (World.block_lt_of_cell? w _ hx103_0)).trans hx103_0
                replace hx103_1:=(HB.out.cell (World.block_lt_of_cell? w _ hx103_1)).trans hx103_1
                replace hx103_2:=(HB.out.cell (World.block_lt_of_cell? w _ hx103_2)).trans hx103_2
                replace hx103_3:=(HB.out.cell (World.block_lt_of_cell? w _ hx103_3)).trans hx103_3
                replace p103:=eq_true p103
                replace q103:=eq_true q103
                try go_wp2_with (first|((with_reducible refine gate_dst (N:=4) rfl ?_);(try (refine gate_guard (by rfl) ?_;dsimp only));refine box_event ?hg (N:=4) ?hd (cs:=#[.int .i64 0,.int .i64 0,.string (⟨#[]⟩ : ByteArray),.string (⟨#[]⟩ : ByteArray)]) (t:=34) ?hr ?_;(case hd=>rfl);(case hg=>rfl);(case hr=>first|(go_simp;done)|(go_simp;rfl));intro gb104 hg w54 hbox hb;have BK104:=U.mk (hbox);have GW104:=U.mk ((by rw[hg];exact(zj (by solve_by_elim (maxDepth:=20) only[HB.out,G,J,qq,qk,GE101.out])):w.heap.size≤gb104));have GE104:=U.mk ((by rw[hg];exact(zj (by solve_by_elim (maxDepth:=20) only[HB.out,G,J,qq,qk,GE101.out])):w.heap.size≤gb104));replace HB:=U.mk (zz (by solve_by_elim (maxDepth:=20) only[HB.out,G,J,qq,qk,GE101.out]) hb);have NB101_104:=U.mk ((by rw[hg];exact Nat.ne_of_lt (blk_lt (g:=gb101) (o:=.cells #[.int .i64 a0_0,.int .i64 a0_1,.int .i64 a0_2,.string a0_3,.string a0_4,.slice (some ad103) l0_5.length c0_5,.slice A0_6 l0_6.length c0_6] 58 (0,0)) (by solve_by_elim only[BK101.out,qw,qx,qv])):gb101≠gb104));have NB104_101:=U.mk ((by rw[hg];exact Nat.ne_of_gt (blk_lt (g:=gb101) (o:=.cells #[.int .i64 a0_0,.int .i64 a0_1,.int .i64 a0_2,.string a0_3,.string a0_4,.slice (some ad103) l0_5.length c0_5,.slice A0_6 l0_6.length c0_6] 58 (0,0)) (by solve_by_elim only[BK101.out,qw,qx,qv])):gb104≠gb101));replace BK101:=U.mk (kv (g:=gb101) (o:=.cells #[.int .i64 a0_0,.int .i64 a0_1,.int .i64 a0_2,.string a0_3,.string a0_4,.slice (some ad103) l0_5.length c0_5,.slice A0_6 l0_6.length c0_6] 58 (0,0)) (by solve_by_elim only[BK101.out,qw,qx,qv]) hb);clear hb hbox hg;have hnb55:=NB104_101.out;have hnc55:=NB101_104.out;have hcz56_0:w54.cell? ⟨gb104,0,none⟩ = some (.int .i64 0):=(qj BK104.out 0).trans rfl;have hcz56_1:w54.cell? ⟨gb104,1,none⟩ = some (.int .i64 0):=(qj BK104.out 1).trans rfl;have hcz56_2:w54.cell? ⟨gb104,2,none⟩ = some (.string (⟨#[]⟩ : ByteArray)):=(qj BK104.out 2).trans rfl;have hcz56_3:w54.cell? ⟨gb104,3,none⟩ = some (.string (⟨#[]⟩ : ByteArray)):=(qj BK104.out 3).trans rfl;have hfz56_0:=qz BK104.out 0;have hfz56_1:=qz BK104.out 1;have hfz56_2:=qz BK104.out 2;have hfz56_3:=qz BK104.out 3))
                have n0_:U (((((w54.setCell ⟨gb104,0,none⟩ (.int .i64 ((vz l0_5 x42_3).f0))).setCell ⟨gb104,1,none⟩ (.int .i64 ((vz l0_5 x42_3).f1))).setCell ⟨gb104,2,none⟩ (.string ((vz l0_5 x42_3).f2))).setCell ⟨gb104,3,none⟩ (.string ((vz l0_5 x42_3).f3))).heap[gb101]? = some (.cells #[.int .i64 a0_0,.int .i64 a0_1,.int .i64 a0_2,.string a0_3,.string a0_4,.slice (some ad103) l0_5.length c0_5,.slice A0_6 l0_6.length c0_6] 58 (0,0))):=⟨by(with_reducible repeat(first|refine qw ?_ _|refine qx ?_|refine qv ?_ _));refine blk_far ?_ NB101_104.out _;(with_reducible repeat(first|refine qw ?_ _|refine qx ?_|refine qv ?_ _));refine blk_far ?_ NB101_104.out _;(with_reducible repeat(first|refine qw ?_ _|refine qx ?_|refine qv ?_ _));refine blk_far ?_ NB101_104.out _;(with_reducible repeat(first|refine qw ?_ _|refine qx ?_|refine qv ?_ _));refine blk_far ?_ NB101_104.out _;(with_reducible repeat(first|refine qw ?_ _|refine qx ?_|refine qv ?_ _));exact BK101.out⟩
                have n1_:U (((((w54.setCell ⟨gb104,0,none⟩ (.int .i64 ((vz l0_5 x42_3).f0))).setCell ⟨gb104,1,none⟩ (.int .i64 ((vz l0_5 x42_3).f1))).setCell ⟨gb104,2,none⟩ (.string ((vz l0_5 x42_3).f2))).setCell ⟨gb104,3,none⟩ (.string ((vz l0_5 x42_3).f3))).heap[gb104]? = some (.cells #[.int .i64 ((vz l0_5 x42_3).f0),.int .i64 ((vz l0_5 x42_3).f1),.string ((vz l0_5 x42_3).f2),.string ((vz l0_5 x42_3).f3)] 34 (0,0))):=⟨by(with_reducible repeat(first|refine qw ?_ _|refine qx ?_|refine qv ?_ _));refine blk_put (cs:=#[.int .i64 ((vz l0_5 x42_3).f0),.int .i64 ((vz l0_5 x42_3).f1),.string ((vz l0_5 x42_3).f2),.string (⟨#[]⟩ : ByteArray)]) ?_ 3 _ rfl;(with_reducible repeat(first|refine qw ?_ _|refine qx ?_|refine qv ?_ _));refine blk_put (cs:=#[.int .i64 ((vz l0_5 x42_3).f0),.int .i64 ((vz l0_5 x42_3).f1),.string (⟨#[]⟩ : ByteArray),.string (⟨#[]⟩ : ByteArray)]) ?_ 2 _ rfl;(with_reducible repeat(first|refine qw ?_ _|refine qx ?_|refine qv ?_ _));refine blk_put (cs:=#[.int .i64 ((vz l0_5 x42_3).f0),.int .i64 0,.string (⟨#[]⟩ : ByteArray),.string (⟨#[]⟩ : ByteArray)]) ?_ 1 _ rfl;(with_reducible repeat(first|refine qw ?_ _|refine qx ?_|refine qv ?_ _));refine blk_put (cs:=#[.int .i64 0,.int .i64 0,.string (⟨#[]⟩ : ByteArray),.string (⟨#[]⟩ : ByteArray)]) ?_ 0 _ rfl;(with_reducible repeat(first|refine qw ?_ _|refine qx ?_|refine qv ?_ _));exact BK104.out⟩
                have n2_:U (Below w.heap.size w ((((w54.setCell ⟨gb104,0,none⟩ (.int .i64 ((vz l0_5 x42_3).f0))).setCell ⟨gb104,1,none⟩ (.int .i64 ((vz l0_5 x42_3).f1))).setCell ⟨gb104,2,none⟩ (.string ((vz l0_5 x42_3).f2))).setCell ⟨gb104,3,none⟩ (.string ((vz l0_5 x42_3).f3)))):=⟨by repeat(first|(with_reducible first|exact HB.out|apply G|apply J|apply qq|refine qk ?_ GE101.out|refine qk ?_ GE104.out)|exact HB.out)⟩
                (try clear BK101)
                (try clear BK104)
                (try clear HB)
                generalize ((((w54.setCell ⟨gb104,0,none⟩ (.int .i64 ((vz l0_5 x42_3).f0))).setCell ⟨gb104,1,none⟩ (.int .i64 ((vz l0_5 x42_3).f1))).setCell ⟨gb104,2,none⟩ (.string ((vz l0_5 x42_3).f2))).setCell ⟨gb104,3,none⟩ (.string ((vz l0_5 x42_3).f3)))=w57 at n0_ n1_ n2_ ⊢
                have BK101:=n0_
                have BK104:=n1_
                have HB:=n2_
                clear n0_ n1_ n2_
                replace BK101:=U.mk (qx BK101.out)
                replace BK104:=U.mk (qx BK104.out)
                replace HB:=U.mk (qq HB.out)
                refine start_ (n:=23) (S:=fun w'=>w'.cell? ⟨gb104,0,none⟩ = some (.int .i64 ((vz l0_5 x42_3).f0))∧w'.cell? ⟨gb104,1,none⟩ = some (.int .i64 ((vz l0_5 x42_3).f1))∧w'.cell? ⟨gb104,2,none⟩ = some (.string ((vz l0_5 x42_3).f2))∧w'.cell? ⟨gb104,3,none⟩ = some (.string ((vz l0_5 x42_3).f3))∧w'.cell? ⟨gb101,0,none⟩ = some (.int .i64 a0_0)∧w'.cell? ⟨gb101,1,none⟩ = some (.int .i64 a0_1)∧w'.cell? ⟨gb101,2,none⟩ = some (.int .i64 a0_2)∧w'.cell? ⟨gb101,3,none⟩ = some (.string a0_3)∧w'.cell? ⟨gb101,4,none⟩ = some (.string a0_4)∧w'.cell? ⟨gb101,5,none⟩ = some (.slice (some ad103) l0_5.length c0_5)∧w'.cell? ⟨gb101,6,none⟩ = some (.slice A0_6 l0_6.length c0_6)) (ds:=[]) #[Y,Y,Y,Y,Y,Y,Y,Y,Y,Y,Y,Y,Y,Y,Y,Y,Y,Y,Y,Y,Y,Y,Y] (by kernel_rfl) rfl rfl ⟨(qj BK104.out 0).trans rfl,(qj BK104.out 1).trans rfl,(qj BK104.out 2).trans rfl,(qj BK104.out 3).trans rfl,(qj BK101.out 0).trans rfl,(qj BK101.out 1).trans rfl,(qj BK101.out 2).trans rfl,(qj BK101.out 3).trans rfl,(qj BK101.out 4).trans rfl,(qj BK101.out 5).trans rfl,(qj BK101.out 6).trans rfl⟩ (fun hHeld=>?_);refine with_tabW qzz.tab11 qzz.bits11 (fun HT_ HW_=>?_)
                generalize w57.drew=w58 at BK101 BK104 HB hHeld ⊢
                refine take_ (i:=0) (N:=some 47) (v:=?_) (a':=?_) #[Z,Y,Y,Y,Y,Y,Y,Y,Y,Y,Y,Y,Y,Y,Y,Y,Y,Y,Y,Y,Y,Y,Y] rfl rfl (take_ofW HT_.out HW_.out (by kernel_rfl)) (fun _ _ _ h=>h) (Or.inl ⟨by rfl,?_⟩) hHeld ?_ ?_
                rotate_left
                ·rintro w' ⟨s0,s1,s2,s3,s4,s5,s6,s7,s8,s9,s10⟩
                 go_simp
                 with_reducible rfl
                rotate_left
                ·simp only[Act.put,jq5,jq6,jq7,i64_w,i32_w]
                 rfl
                refine one_ (i:=1) (N:=some 48) #[Z,Z,Y,Y,Y,Y,Y,Y,Y,Y,Y,Y,Y,Y,Y,Y,Y,Y,Y,Y,Y,Y,Y] rfl rfl (one_of HT_.out (by kernel_rfl)) (by decide) (fun K hK=>?_)
                refine goes_ Try.func25 (by kernel_rfl) rfl #[.agg #[.int .i64 ((vz l0_5 x42_3).f0),.int .i64 ((vz l0_5 x42_3).f1),.string ((vz l0_5 x42_3).f2),.string ((vz l0_5 x42_3).f3)]] (by rfl) rfl rfl (by(try simp only[jq0,jq1,jq2]);first|done|rfl|(simp only[jq3,jq4];rfl)) ?_
                with_reducible refine(qqx.calls k3 ((vz l0_5 x42_3).f0) ((vz l0_5 x42_3).f1) ((vz l0_5 x42_3).f2) ((vz l0_5 x42_3).f3) true _ A31.out).mono ?_
                rintro e w59 ⟨rfl,hb⟩
                refine⟨_,rfl,?_⟩
                replace BK101:=U.mk (kv (g:=gb101) (o:=.cells #[.int .i64 a0_0,.int .i64 a0_1,.int .i64 a0_2,.string a0_3,.string a0_4,.slice (some ad103) l0_5.length c0_5,.slice A0_6 l0_6.length c0_6] 58 (0,0)) (by solve_by_elim only[BK101.out,qw,qx,qv]) hb)
                replace BK104:=U.mk (kv (g:=gb104) (o:=.cells #[.int .i64 ((vz l0_5 x42_3).f0),.int .i64 ((vz l0_5 x42_3).f1),.string ((vz l0_5 x42_3).f2),.string ((vz l0_5 x42_3).f3)] 34 (0,0)) (by solve_by_elim only[BK104.out,qw,qx,qv]) hb)
                replace HB:=U.mk (zz (by solve_by_elim (maxDepth:=20) only[HB.out,G,J,qq,qk,GE101.out,qk,GE104.out]) hb)
                (try clear hb)
                (try clear hb2)
                (try clear hk)
                (try clear hi)
                refine hK.out _ _ ⟨(qj BK104.out 0).trans rfl,(qj BK104.out 1).trans rfl,(qj BK104.out 2).trans rfl,(qj BK104.out 3).trans rfl,(qj BK101.out 0).trans rfl,(qj BK101.out 1).trans rfl,(qj BK101.out 2).trans rfl,(qj BK101.out 3).trans rfl,(qj BK101.out 4).trans rfl,(qj BK101.out 5).trans rfl,(qj BK101.out 6).trans rfl⟩ (fun hHeld=>?_)
                clear hK K
                refine norm_ (a':=?_) ?_ ?_
                rotate_left
                ·show Act.put _ (some 48) _=_
                 simp only[Act.put,jq5,jq6,jq7,i64_w,i32_w]
                 rfl
                refine pure_ (i:=2) (N:=some 49) (v:=?_) (a':=?_) #[Z,Z,Z,Y,Y,Y,Y,Y,Y,Y,Y,Y,Y,Y,Y,Y,Y,Y,Y,Y,Y,Y,Y] rfl rfl (any_of HT_.out (by kernel_rfl)) (fun _ _ _ h=>h) (Or.inl ⟨by rfl,?_⟩) ?_ ?_
                rotate_left
                ·intro w'
                 go_simp
                 with_reducible rfl
                rotate_left
                ·simp only[Act.put,jq5,jq6,jq7,i64_w,i32_w]
                 rfl
                refine pure_ (i:=3) (N:=some 50) (v:=?_) (a':=?_) #[Z,Z,Z,Z,Y,Y,Y,Y,Y,Y,Y,Y,Y,Y,Y,Y,Y,Y,Y,Y,Y,Y,Y] rfl rfl (any_of HT_.out (by kernel_rfl)) (fun _ _ _ h=>h) (Or.inl ⟨by rfl,?_⟩) ?_ ?_
                rotate_left
                ·intro w'
                 go_simp
                 with_reducible rfl
                rotate_left
                ·simp only[Act.put,jq5,jq6,jq7,i64_w,i32_w]
                 rfl
                refine pure_ (i:=4) (N:=some 51) (v:=?_) (a':=?_) #[Z,Z,Z,Z,Z,Y,Y,Y,Y,Y,Y,Y,Y,Y,Y,Y,Y,Y,Y,Y,Y,Y,Y] rfl rfl (any_of HT_.out (by kernel_rfl)) (fun _ _ _ h=>h) (Or.inl ⟨by rfl,?_⟩) ?_ ?_
                rotate_left
                ·intro w'
                 go_simp
                 with_reducible rfl
                rotate_left
                ·simp only[Act.put,jq5,jq6,jq7,i64_w,i32_w]
                 rfl
                refine take_ (i:=5) (N:=some 52) (v:=?_) (a':=?_) #[Z,Z,Z,Z,Z,Z,Y,Y,Y,Y,Y,Y,Y,Y,Y,Y,Y,Y,Y,Y,Y,Y,Y] rfl rfl (take_ofW HT_.out HW_.out (by kernel_rfl)) (fun _ _ _ h=>h) (Or.inl ⟨by rfl,?_⟩) hHeld ?_ ?_
                rotate_left
                ·rintro w' ⟨s0,s1,s2,s3,s4,s5,s6,s7,s8,s9,s10⟩
                 go_simp
                 with_reducible rfl
                rotate_left
                ·simp only[Act.put,jq5,jq6,jq7,i64_w,i32_w]
                 rfl
                refine pure_ (i:=6) (N:=some 53) (v:=?_) (a':=?_) #[Z,Z,Z,Z,Z,Z,Z,Y,Y,Y,Y,Y,Y,Y,Y,Y,Y,Y,Y,Y,Y,Y,Y] rfl rfl (any_of HT_.out (by kernel_rfl)) (fun _ _ _ h=>h) (Or.inl ⟨by rfl,?_⟩) ?_ ?_
                rotate_left
                ·intro w'
                 go_simp
                 with_reducible rfl
                rotate_left
                ·simp only[Act.put,jq5,jq6,jq7,i64_w,i32_w]
                 rfl
                refine pure_ (i:=7) (N:=some 54) (v:=?_) (a':=?_) #[Z,Z,Z,Z,Z,Z,Z,Z,Y,Y,Y,Y,Y,Y,Y,Y,Y,Y,Y,Y,Y,Y,Y] rfl rfl (any_of HT_.out (by kernel_rfl)) (fun _ _ _ h=>h) (Or.inl ⟨by rfl,?_⟩) ?_ ?_
                rotate_left
                ·intro w'
                 go_simp
                 with_reducible rfl
                rotate_left
                ·simp only[Act.put,jq5,jq6,jq7,i64_w,i32_w]
                 rfl
                refine pure_ (i:=8) (N:=some 55) (v:=?_) (a':=?_) #[Z,Z,Z,Z,Z,Z,Z,Z,Z,Y,Y,Y,Y,Y,Y,Y,Y,Y,Y,Y,Y,Y,Y] rfl rfl (any_of HT_.out (by kernel_rfl)) (fun _ _ _ h=>h) (Or.inl ⟨by rfl,?_⟩) ?_ ?_
                rotate_left
                ·intro w'
                 go_simp
                 with_reducible rfl
                rotate_left
                ·simp only[Act.put,jq5,jq6,jq7,i64_w,i32_w]
                 rfl
                refine pure_ (i:=9) (N:=some 56) (v:=?_) (a':=?_) #[Z,Z,Z,Z,Z,Z,Z,Z,Z,Z,Y,Y,Y,Y,Y,Y,Y,Y,Y,Y,Y,Y,Y] rfl rfl (any_of HT_.out (by kernel_rfl)) (fun _ _ _ h=>h) (Or.inl ⟨by rfl,?_⟩) ?_ ?_
                rotate_left
                ·intro w'
                 go_simp
                 with_reducible rfl
                rotate_left
                ·simp only[Act.put,jq5,jq6,jq7,i64_w,i32_w]
                 rfl
                refine pure_ (i:=10) (N:=some 57) (v:=?_) (a':=?_) #[Z,Z,Z,Z,Z,Z,Z,Z,Z,Z,Z,Y,Y,Y,Y,Y,Y,Y,Y,Y,Y,Y,Y] rfl rfl (any_of HT_.out (by kernel_rfl)) (fun _ _ _ h=>h) (Or.inl ⟨by rfl,?_⟩) ?_ ?_
                rotate_left
                ·intro w'
                 go_simp
                 with_reducible rfl
                rotate_left
                ·simp only[Act.put,jq5,jq6,jq7,i64_w,i32_w]
                 rfl
                refine pure_ (i:=11) (N:=some 58) (v:=?_) (a':=?_) #[Z,Z,Z,Z,Z,Z,Z,Z,Z,Z,Z,Z,Y,Y,Y,Y,Y,Y,Y,Y,Y,Y,Y] rfl rfl (any_of HT_.out (by kernel_rfl)) (fun _ _ _ h=>h) (Or.inl ⟨by rfl,?_⟩) ?_ ?_
                rotate_left
                ·intro w'
                 go_simp
                 with_reducible rfl
                rotate_left
                ·simp only[Act.put,jq5,jq6,jq7,i64_w,i32_w]
                 rfl
                refine pure_ (i:=12) (N:=some 59) (v:=undef) (a':=?_) #[Z,Z,Z,Z,Z,Z,Z,Z,Z,Z,Z,Z,Z,Y,Y,Y,Y,Y,Y,Y,Y,Y,Y] rfl rfl (any_of HT_.out (by kernel_rfl)) (fun _ _ _ h=>h) (Or.inr ⟨by rfl,rfl⟩) ?_ ?_
                rotate_left
                ·simp only[Act.put,jq5,jq6,jq7,i64_w,i32_w]
                 rfl
                refine pure_ (i:=13) (N:=some 60) (v:=undef) (a':=?_) #[Z,Z,Z,Z,Z,Z,Z,Z,Z,Z,Z,Z,Z,Z,Y,Y,Y,Y,Y,Y,Y,Y,Y] rfl rfl (any_of HT_.out (by kernel_rfl)) (fun _ _ _ h=>h) (Or.inr ⟨by rfl,rfl⟩) ?_ ?_
                rotate_left
                ·simp only[Act.put,jq5,jq6,jq7,i64_w,i32_w]
                 rfl
                refine pure_ (i:=14) (N:=some 61) (v:=undef) (a':=?_) #[Z,Z,Z,Z,Z,Z,Z,Z,Z,Z,Z,Z,Z,Z,Z,Y,Y,Y,Y,Y,Y,Y,Y] rfl rfl (any_of HT_.out (by kernel_rfl)) (fun _ _ _ h=>h) (Or.inr ⟨by rfl,rfl⟩) ?_ ?_
                rotate_left
                ·simp only[Act.put,jq5,jq6,jq7,i64_w,i32_w]
                 rfl
                refine pure_ (i:=15) (N:=some 62) (v:=undef) (a':=?_) #[Z,Z,Z,Z,Z,Z,Z,Z,Z,Z,Z,Z,Z,Z,Z,Z,Y,Y,Y,Y,Y,Y,Y] rfl rfl (any_of HT_.out (by kernel_rfl)) (fun _ _ _ h=>h) (Or.inr ⟨by rfl,rfl⟩) ?_ ?_
                rotate_left
                ·simp only[Act.put,jq5,jq6,jq7,i64_w,i32_w]
                 rfl
                refine pure_ (i:=16) (N:=some 63) (v:=undef) (a':=?_) #[Z,Z,Z,Z,Z,Z,Z,Z,Z,Z,Z,Z,Z,Z,Z,Z,Z,Y,Y,Y,Y,Y,Y] rfl rfl (any_of HT_.out (by kernel_rfl)) (fun _ _ _ h=>h) (Or.inr ⟨by rfl,rfl⟩) ?_ ?_
                rotate_left
                ·simp only[Act.put,jq5,jq6,jq7,i64_w,i32_w]
                 rfl
                refine pure_ (i:=17) (N:=some 64) (v:=undef) (a':=?_) #[Z,Z,Z,Z,Z,Z,Z,Z,Z,Z,Z,Z,Z,Z,Z,Z,Z,Z,Y,Y,Y,Y,Y] rfl rfl (any_of HT_.out (by kernel_rfl)) (fun _ _ _ h=>h) (Or.inr ⟨by rfl,rfl⟩) ?_ ?_
                rotate_left
                ·simp only[Act.put,jq5,jq6,jq7,i64_w,i32_w]
                 rfl
                refine pure_ (i:=18) (N:=some 65) (v:=undef) (a':=?_) #[Z,Z,Z,Z,Z,Z,Z,Z,Z,Z,Z,Z,Z,Z,Z,Z,Z,Z,Z,Y,Y,Y,Y] rfl rfl (any_of HT_.out (by kernel_rfl)) (fun _ _ _ h=>h) (Or.inr ⟨by rfl,rfl⟩) ?_ ?_
                rotate_left
                ·simp only[Act.put,jq5,jq6,jq7,i64_w,i32_w]
                 rfl
                refine pure_ (i:=19) (N:=some 66) (v:=undef) (a':=?_) #[Z,Z,Z,Z,Z,Z,Z,Z,Z,Z,Z,Z,Z,Z,Z,Z,Z,Z,Z,Z,Y,Y,Y] rfl rfl (any_of HT_.out (by kernel_rfl)) (fun _ _ _ h=>h) (Or.inr ⟨by rfl,rfl⟩) ?_ ?_
                rotate_left
                ·simp only[Act.put,jq5,jq6,jq7,i64_w,i32_w]
                 rfl
                refine pure_ (i:=20) (N:=some 67) (v:=undef) (a':=?_) #[Z,Z,Z,Z,Z,Z,Z,Z,Z,Z,Z,Z,Z,Z,Z,Z,Z,Z,Z,Z,Z,Y,Y] rfl rfl (any_of HT_.out (by kernel_rfl)) (fun _ _ _ h=>h) (Or.inr ⟨by rfl,rfl⟩) ?_ ?_
                rotate_left
                ·simp only[Act.put,jq5,jq6,jq7,i64_w,i32_w]
                 rfl
                refine pure_ (i:=21) (N:=some 68) (v:=?_) (a':=?_) #[Z,Z,Z,Z,Z,Z,Z,Z,Z,Z,Z,Z,Z,Z,Z,Z,Z,Z,Z,Z,Z,Z,Y] rfl rfl (any_of HT_.out (by kernel_rfl)) (fun _ _ _ h=>h) (Or.inl ⟨by rfl,?_⟩) ?_ ?_
                rotate_left
                ·intro w'
                 go_simp
                 with_reducible rfl
                rotate_left
                ·simp only[Act.put,jq5,jq6,jq7,i64_w,i32_w]
                 rfl
                refine pure_ (i:=22) (N:=some 69) (v:=?_) (a':=?_) #[Z,Z,Z,Z,Z,Z,Z,Z,Z,Z,Z,Z,Z,Z,Z,Z,Z,Z,Z,Z,Z,Z,Z] rfl rfl (any_of HT_.out (by kernel_rfl)) (fun _ _ _ h=>h) (Or.inl ⟨by rfl,?_⟩) ?_ ?_
                rotate_left
                ·intro w'
                 go_simp
                 with_reducible rfl
                rotate_left
                ·simp only[Act.put,jq5,jq6,jq7,i64_w,i32_w]
                 rfl
                refine done_ (done_of HT_.out (by kernel_rfl)) ?_
                try go_wp2
                go_roundg k3
                case measure=>have:=HJ16.out;have:=HJ21.out;have:=HK3.out;omega
                case rel=>exact⟨(wrap64 (x42_3 + 1)),(by first|rfl|(simp;done)|(simp[*];done)),H',⟨by have:=HJ16.out;have:=HJ21.out;have:=HK3.out;omega⟩,⟨by(with_reducible repeat(first|refine qw ?_ _|refine qx ?_|refine qv ?_ _));exact BK101.out⟩,⟨by repeat(first|(with_reducible first|exact HB.out|apply G|apply J|apply qq|refine qk ?_ GE101.out|refine qk ?_ GE104.out)|exact HB.out)⟩⟩
              ·rw[if_neg c33] at H
               have c33b0:(a0_0 == 2)=false:=beq_eq_false_iff_ne.mpr c33
               have c33b1:(a0_0 != 2)=true:=bne_iff_ne.mpr c33
               have H':=U.mk H
               clear H
               have p103 : 0≤(x42_3:Int):=of_decide_eq_true (by assumption)
               have q103:x42_3 < (l0_5.length:Int):=of_decide_eq_true (by assumption)
               obtain⟨ad103,e103,hx103_0,hx103_1,hx103_2,hx103_3⟩:=at_T34 HR0_5.out x42_3 p103 q103
               cases e103
               replace hx103_0:=(HB.out.cell (World.block_lt_of_cell? w _ hx103_0)).trans hx103_0
               replace hx103_1:=(HB.out.cell (World.block_lt_of_cell? w _ hx103_1)).trans hx103_1
               replace hx103_2:=(HB.out.cell (World.block_lt_of_cell? w _ hx103_2)).trans hx103_2
               replace hx103_3:=(HB.out.cell (World.block_lt_of_cell? w _ hx103_3)).trans hx103_3
               replace p103:=eq_true p103
               replace q103:=eq_true q103
               try go_wp2_with (first|((with_reducible refine gate_dst (N:=4) rfl ?_);(try (refine gate_guard (by rfl) ?_;dsimp only));refine box_event ?hg (N:=4) ?hd (cs:=#[.int .i64 0,.int .i64 0,.string (⟨#[]⟩ : ByteArray),.string (⟨#[]⟩ : ByteArray)]) (t:=34) ?hr ?_;(case hd=>rfl);(case hg=>rfl);(case hr=>first|(go_simp;done)|(go_simp;rfl));intro gb104 hg w60 hbox hb;have BK104:=U.mk (hbox);have GW104:=U.mk ((by rw[hg];exact(zj (by solve_by_elim (maxDepth:=20) only[HB.out,G,J,qq,qk,GE101.out])):w.heap.size≤gb104));have GE104:=U.mk ((by rw[hg];exact(zj (by solve_by_elim (maxDepth:=20) only[HB.out,G,J,qq,qk,GE101.out])):w.heap.size≤gb104));replace HB:=U.mk (zz (by solve_by_elim (maxDepth:=20) only[HB.out,G,J,qq,qk,GE101.out]) hb);have NB101_104:=U.mk ((by rw[hg];exact Nat.ne_of_lt (blk_lt (g:=gb101) (o:=.cells #[.int .i64 a0_0,.int .i64 a0_1,.int .i64 a0_2,.string a0_3,.string a0_4,.slice (some ad103) l0_5.length c0_5,.slice A0_6 l0_6.length c0_6] 58 (0,0)) (by solve_by_elim only[BK101.out,qw,qx,qv])):gb101≠gb104));have NB104_101:=U.mk ((by rw[hg];exact Nat.ne_of_gt (blk_lt (g:=gb101) (o:=.cells #[.int .i64 a0_0,.int .i64 a0_1,.int .i64 a0_2,.string a0_3,.string a0_4,.slice (some ad103) l0_5.length c0_5,.slice A0_6 l0_6.length c0_6] 58 (0,0)) (by solve_by_elim only[BK101.out,qw,qx,qv])):gb104≠gb101));replace BK101:=U.mk (kv (g:=gb101) (o:=.cells #[.int .i64 a0_0,.int .i64 a0_1,.int .i64 a0_2,.string a0_3,.string a0_4,.slice (some ad103) l0_5.length c0_5,.slice A0_6 l0_6.length c0_6] 58 (0,0)) (by solve_by_elim only[BK101.out,qw,qx,qv]) hb);clear hb hbox hg;have hnb61:=NB104_101.out;have hnc61:=NB101_104.out;have hcz62_0:w60.cell? ⟨gb104,0,none⟩ = some (.int .i64 0):=(qj BK104.out 0).trans rfl;have hcz62_1:w60.cell? ⟨gb104,1,none⟩ = some (.int .i64 0):=(qj BK104.out 1).trans rfl;have hcz62_2:w60.cell? ⟨gb104,2,none⟩ = some (.string (⟨#[]⟩ : ByteArray)):=(qj BK104.out 2).trans rfl;have hcz62_3:w60.cell? ⟨gb104,3,none⟩ = some (.string (⟨#[]⟩ : ByteArray)):=(qj BK104.out 3).trans rfl;have hfz62_0:=qz BK104.out 0;have hfz62_1:=qz BK104.out 1;have hfz62_2:=qz BK104.out 2;have hfz62_3:=qz BK104.out 3))
               have n0_:U (((((w60.setCell ⟨gb104,0,none⟩ (.int .i64 ((vz l0_5 x42_3).f0))).setCell ⟨gb104,1,none⟩ (.int .i64 ((vz l0_5 x42_3).f1))).setCell ⟨gb104,2,none⟩ (.string ((vz l0_5 x42_3).f2))).setCell ⟨gb104,3,none⟩ (.string ((vz l0_5 x42_3).f3))).heap[gb101]? = some (.cells #[.int .i64 a0_0,.int .i64 a0_1,.int .i64 a0_2,.string a0_3,.string a0_4,.slice (some ad103) l0_5.length c0_5,.slice A0_6 l0_6.length c0_6] 58 (0,0))):=⟨by(with_reducible repeat(first|refine qw ?_ _|refine qx ?_|refine qv ?_ _));refine blk_far ?_ NB101_104.out _;(with_reducible repeat(first|refine qw ?_ _|refine qx ?_|refine qv ?_ _));refine blk_far ?_ NB101_104.out _;(with_reducible repeat(first|refine qw ?_ _|refine qx ?_|refine qv ?_ _));refine blk_far ?_ NB101_104.out _;(with_reducible repeat(first|refine qw ?_ _|refine qx ?_|refine qv ?_ _));refine blk_far ?_ NB101_104.out _;(with_reducible repeat(first|refine qw ?_ _|refine qx ?_|refine qv ?_ _));exact BK101.out⟩
               have n1_:U (((((w60.setCell ⟨gb104,0,none⟩ (.int .i64 ((vz l0_5 x42_3).f0))).setCell ⟨gb104,1,none⟩ (.int .i64 ((vz l0_5 x42_3).f1))).setCell ⟨gb104,2,none⟩ (.string ((vz l0_5 x42_3).f2))).setCell ⟨gb104,3,none⟩ (.string ((vz l0_5 x42_3).f3))).heap[gb104]? = some (.cells #[.int .i64 ((vz l0_5 x42_3).f0),.int .i64 ((vz l0_5 x42_3).f1),.string ((vz l0_5 x42_3).f2),.string ((vz l0_5 x42_3).f3)] 34 (0,0))):=⟨by(with_reducible repeat(first|refine qw ?_ _|refine qx ?_|refine qv ?_ _));refine blk_put (cs:=#[.int .i64 ((vz l0_5 x42_3).f0),.int .i64 ((vz l0_5 x42_3).f1),.string ((vz l0_5 x42_3).f2),.string (⟨#[]⟩ : ByteArray)]) ?_ 3 _ rfl;(with_reducible repeat(first|refine qw ?_ _|refine qx ?_|refine qv ?_ _));refine blk_put (cs:=#[.int .i64 ((vz l0_5 x42_3).f0),.int .i64 ((vz l0_5 x42_3).f1),.string (⟨#[]⟩ : ByteArray),.string (⟨#[]⟩ : ByteArray)]) ?_ 2 _ rfl;(with_reducible repeat(first|refine qw ?_ _|refine qx ?_|refine qv ?_ _));refine blk_put (cs:=#[.int .i64 ((vz l0_5 x42_3).f0),.int .i64 0,.string (⟨#[]⟩ : ByteArray),.string (⟨#[]⟩ : ByteArray)]) ?_ 1 _ rfl;(with_reducible repeat(first|refine qw ?_ _|refine qx ?_|refine qv ?_ _));refine blk_put (cs:=#[.int .i64 0,.int .i64 0,.string (⟨#[]⟩ : ByteArray),.string (⟨#[]⟩ : ByteArray)]) ?_ 0 _ rfl;(with_reducible repeat(first|refine qw ?_ _|refine qx ?_|refine qv ?_ _));exact BK104.out⟩
               have n2_:U (Below w.heap.size w ((((w60.setCell ⟨gb104,0,none⟩ (.int .i64 ((vz l0_5 x42_3).f0))).setCell ⟨gb104,1,none⟩ (.int .i64 ((vz l0_5 x42_3).f1))).setCell ⟨gb104,2,none⟩ (.string ((vz l0_5 x42_3).f2))).setCell ⟨gb104,3,none⟩ (.string ((vz l0_5 x42_3).f3)))):=⟨by repeat(first|(with_reducible first|exact HB.out|apply G|apply J|apply qq|refine qk ?_ GE101.out|refine qk ?_ GE104.out)|exact HB.out)⟩
               (try clear BK101)
               (try clear BK104)
               (try clear HB)
               generalize ((((w60.setCell ⟨gb104,0,none⟩ (.int .i64 ((vz l0_5 x42_3).f0))).setCell ⟨gb104,1,none⟩ (.int .i64 ((vz l0_5 x42_3).f1))).setCell ⟨gb104,2,none⟩ (.string ((vz l0_5 x42_3).f2))).setCell ⟨gb104,3,none⟩ (.string ((vz l0_5 x42_3).f3)))=w63 at n0_ n1_ n2_ ⊢
               have BK101:=n0_
               have BK104:=n1_
               have HB:=n2_
               clear n0_ n1_ n2_
               replace BK101:=U.mk (qx BK101.out)
               replace BK104:=U.mk (qx BK104.out)
               replace HB:=U.mk (qq HB.out)
               refine start_ (n:=23) (S:=fun w'=>w'.cell? ⟨gb104,0,none⟩ = some (.int .i64 ((vz l0_5 x42_3).f0))∧w'.cell? ⟨gb104,1,none⟩ = some (.int .i64 ((vz l0_5 x42_3).f1))∧w'.cell? ⟨gb104,2,none⟩ = some (.string ((vz l0_5 x42_3).f2))∧w'.cell? ⟨gb104,3,none⟩ = some (.string ((vz l0_5 x42_3).f3))∧w'.cell? ⟨gb101,0,none⟩ = some (.int .i64 a0_0)∧w'.cell? ⟨gb101,1,none⟩ = some (.int .i64 a0_1)∧w'.cell? ⟨gb101,2,none⟩ = some (.int .i64 a0_2)∧w'.cell? ⟨gb101,3,none⟩ = some (.string a0_3)∧w'.cell? ⟨gb101,4,none⟩ = some (.string a0_4)∧w'.cell? ⟨gb101,5,none⟩ = some (.slice (some ad103) l0_5.length c0_5)∧w'.cell? ⟨gb101,6,none⟩ = some (.slice A0_6 l0_6.length c0_6)) (ds:=[]) #[Y,Y,Y,Y,Y,Y,Y,Y,Y,Y,Y,Y,Y,Y,Y,Y,Y,Y,Y,Y,Y,Y,Y] (by kernel_rfl) rfl rfl ⟨(qj BK104.out 0).trans rfl,(qj BK104.out 1).trans rfl,(qj BK104.out 2).trans rfl,(qj BK104.out 3).trans rfl,(qj BK101.out 0).trans rfl,(qj BK101.out 1).trans rfl,(qj BK101.out 2).trans rfl,(qj BK101.out 3).trans rfl,(qj BK101.out 4).trans rfl,(qj BK101.out 5).trans rfl,(qj BK101.out 6).trans rfl⟩ (fun hHeld=>?_);refine with_tabW qzz.tab11 qzz.bits11 (fun HT_ HW_=>?_)
               generalize w63.drew=w64 at BK101 BK104 HB hHeld ⊢
               refine take_ (i:=0) (N:=some 47) (v:=?_) (a':=?_) #[Z,Y,Y,Y,Y,Y,Y,Y,Y,Y,Y,Y,Y,Y,Y,Y,Y,Y,Y,Y,Y,Y,Y] rfl rfl (take_ofW HT_.out HW_.out (by kernel_rfl)) (fun _ _ _ h=>h) (Or.inl ⟨by rfl,?_⟩) hHeld ?_ ?_
               rotate_left
               ·rintro w' ⟨s0,s1,s2,s3,s4,s5,s6,s7,s8,s9,s10⟩
                go_simp
                with_reducible rfl
               rotate_left
               ·simp only[Act.put,jq5,jq6,jq7,i64_w,i32_w]
                rfl
               refine one_ (i:=1) (N:=some 48) #[Z,Z,Y,Y,Y,Y,Y,Y,Y,Y,Y,Y,Y,Y,Y,Y,Y,Y,Y,Y,Y,Y,Y] rfl rfl (one_of HT_.out (by kernel_rfl)) (by decide) (fun K hK=>?_)
               refine goes_ Try.func25 (by kernel_rfl) rfl #[.agg #[.int .i64 ((vz l0_5 x42_3).f0),.int .i64 ((vz l0_5 x42_3).f1),.string ((vz l0_5 x42_3).f2),.string ((vz l0_5 x42_3).f3)]] (by rfl) rfl rfl (by(try simp only[jq0,jq1,jq2]);first|done|rfl|(simp only[jq3,jq4];rfl)) ?_
               with_reducible refine(qqx.calls k3 ((vz l0_5 x42_3).f0) ((vz l0_5 x42_3).f1) ((vz l0_5 x42_3).f2) ((vz l0_5 x42_3).f3) true _ A31.out).mono ?_
               rintro e w65 ⟨rfl,hb⟩
               refine⟨_,rfl,?_⟩
               replace BK101:=U.mk (kv (g:=gb101) (o:=.cells #[.int .i64 a0_0,.int .i64 a0_1,.int .i64 a0_2,.string a0_3,.string a0_4,.slice (some ad103) l0_5.length c0_5,.slice A0_6 l0_6.length c0_6] 58 (0,0)) (by solve_by_elim only[BK101.out,qw,qx,qv]) hb)
               replace BK104:=U.mk (kv (g:=gb104) (o:=.cells #[.int .i64 ((vz l0_5 x42_3).f0),.int .i64 ((vz l0_5 x42_3).f1),.string ((vz l0_5 x42_3).f2),.string ((vz l0_5 x42_3).f3)] 34 (0,0)) (by solve_by_elim only[BK104.out,qw,qx,qv]) hb)
               replace HB:=U.mk (zz (by solve_by_elim (maxDepth:=20) only[HB.out,G,J,qq,qk,GE101.out,qk,GE104.out]) hb)
               (try clear hb)
               (try clear hb2)
               (try clear hk)
               (try clear hi)
               refine hK.out _ _ ⟨(qj BK104.out 0).trans rfl,(qj BK104.out 1).trans rfl,(qj BK104.out 2).trans rfl,(qj BK104.out 3).trans rfl,(qj BK101.out 0).trans rfl,(qj BK101.out 1).trans rfl,(qj BK101.out 2).trans rfl,(qj BK101.out 3).trans rfl,(qj BK101.out 4).trans rfl,(qj BK101.out 5).trans rfl,(qj BK101.out 6).trans rfl⟩ (fun hHeld=>?_)
               clear hK K
               refine norm_ (a':=?_) ?_ ?_
               rotate_left
               ·show Act.put _ (some 48) _=_
                simp only[Act.put,jq5,jq6,jq7,i64_w,i32_w]
                rfl
               refine pure_ (i:=2) (N:=some 49) (v:=?_) (a':=?_) #[Z,Z,Z,Y,Y,Y,Y,Y,Y,Y,Y,Y,Y,Y,Y,Y,Y,Y,Y,Y,Y,Y,Y] rfl rfl (any_of HT_.out (by kernel_rfl)) (fun _ _ _ h=>h) (Or.inl ⟨by rfl,?_⟩) ?_ ?_
               rotate_left
               ·intro w'
                go_simp
                with_reducible rfl
               rotate_left
               ·simp only[Act.put,jq5,jq6,jq7,i64_w,i32_w]
                rfl
               refine pure_ (i:=3) (N:=some 50) (v:=?_) (a':=?_) #[Z,Z,Z,Z,Y,Y,Y,Y,Y,Y,Y,Y,Y,Y,Y,Y,Y,Y,Y,Y,Y,Y,Y] rfl rfl (any_of HT_.out (by kernel_rfl)) (fun _ _ _ h=>h) (Or.inl ⟨by rfl,?_⟩) ?_ ?_
               rotate_left
               ·intro w'
                go_simp
                with_reducible rfl
               rotate_left
               ·simp only[Act.put,jq5,jq6,jq7,i64_w,i32_w]
                rfl
               refine pure_ (i:=4) (N:=some 51) (v:=?_) (a':=?_) #[Z,Z,Z,Z,Z,Y,Y,Y,Y,Y,Y,Y,Y,Y,Y,Y,Y,Y,Y,Y,Y,Y,Y] rfl rfl (any_of HT_.out (by kernel_rfl)) (fun _ _ _ h=>h) (Or.inl ⟨by rfl,?_⟩) ?_ ?_
               rotate_left
               ·intro w'
                go_simp
                with_reducible rfl
               rotate_left
               ·simp only[Act.put,jq5,jq6,jq7,i64_w,i32_w]
                rfl
               refine take_ (i:=5) (N:=some 52) (v:=?_) (a':=?_) #[Z,Z,Z,Z,Z,Z,Y,Y,Y,Y,Y,Y,Y,Y,Y,Y,Y,Y,Y,Y,Y,Y,Y] rfl rfl (take_ofW HT_.out HW_.out (by kernel_rfl)) (fun _ _ _ h=>h) (Or.inl ⟨by rfl,?_⟩) hHeld ?_ ?_
               rotate_left
               ·rintro w' ⟨s0,s1,s2,s3,s4,s5,s6,s7,s8,s9,s10⟩
                go_simp
                with_reducible rfl
               rotate_left
               ·simp only[Act.put,jq5,jq6,jq7,i64_w,i32_w]
                rfl
               refine pure_ (i:=6) (N:=some 53) (v:=?_) (a':=?_) #[Z,Z,Z,Z,Z,Z,Z,Y,Y,Y,Y,Y,Y,Y,Y,Y,Y,Y,Y,Y,Y,Y,Y] rfl rfl (any_of HT_.out (by kernel_rfl)) (fun _ _ _ h=>h) (Or.inl ⟨by rfl,?_⟩) ?_ ?_
               rotate_left
               ·intro w'
                go_simp
                with_reducible rfl
               rotate_left
               ·simp only[Act.put,jq5,jq6,jq7,i64_w,i32_w]
                rfl
               refine pure_ (i:=7) (N:=some 54) (v:=?_) (a':=?_) #[Z,Z,Z,Z,Z,Z,Z,Z,Y,Y,Y,Y,Y,Y,Y,Y,Y,Y,Y,Y,Y,Y,Y] rfl rfl (any_of HT_.out (by kernel_rfl)) (fun _ _ _ h=>h) (Or.inl ⟨by rfl,?_⟩) ?_ ?_
               rotate_left
               ·intro w'
                go_simp
                with_reducible rfl
               rotate_left
               ·simp only[Act.put,jq5,jq6,jq7,i64_w,i32_w]
                rfl
               refine pure_ (i:=8) (N:=some 55) (v:=undef) (a':=?_) #[Z,Z,Z,Z,Z,Z,Z,Z,Z,Y,Y,Y,Y,Y,Y,Y,Y,Y,Y,Y,Y,Y,Y] rfl rfl (any_of HT_.out (by kernel_rfl)) (fun _ _ _ h=>h) (Or.inr ⟨by rfl,rfl⟩) ?_ ?_
               rotate_left
               ·simp only[Act.put,jq5,jq6,jq7,i64_w,i32_w]
                rfl
               refine pure_ (i:=9) (N:=some 56) (v:=undef) (a':=?_) #[Z,Z,Z,Z,Z,Z,Z,Z,Z,Z,Y,Y,Y,Y,Y,Y,Y,Y,Y,Y,Y,Y,Y] rfl rfl (any_of HT_.out (by kernel_rfl)) (fun _ _ _ h=>h) (Or.inr ⟨by rfl,rfl⟩) ?_ ?_
               rotate_left
               ·simp only[Act.put,jq5,jq6,jq7,i64_w,i32_w]
                rfl
               refine pure_ (i:=10) (N:=some 57) (v:=?_) (a':=?_) #[Z,Z,Z,Z,Z,Z,Z,Z,Z,Z,Z,Y,Y,Y,Y,Y,Y,Y,Y,Y,Y,Y,Y] rfl rfl (any_of HT_.out (by kernel_rfl)) (fun _ _ _ h=>h) (Or.inl ⟨by rfl,?_⟩) ?_ ?_
               rotate_left
               ·intro w'
                go_simp
                with_reducible rfl
               rotate_left
               ·simp only[Act.put,jq5,jq6,jq7,i64_w,i32_w]
                rfl
               refine pure_ (i:=11) (N:=some 58) (v:=?_) (a':=?_) #[Z,Z,Z,Z,Z,Z,Z,Z,Z,Z,Z,Z,Y,Y,Y,Y,Y,Y,Y,Y,Y,Y,Y] rfl rfl (any_of HT_.out (by kernel_rfl)) (fun _ _ _ h=>h) (Or.inl ⟨by rfl,?_⟩) ?_ ?_
               rotate_left
               ·intro w'
                go_simp
                with_reducible rfl
               rotate_left
               ·simp only[Act.put,jq5,jq6,jq7,i64_w,i32_w]
                rfl
               refine pure_ (i:=12) (N:=some 59) (v:=undef) (a':=?_) #[Z,Z,Z,Z,Z,Z,Z,Z,Z,Z,Z,Z,Z,Y,Y,Y,Y,Y,Y,Y,Y,Y,Y] rfl rfl (any_of HT_.out (by kernel_rfl)) (fun _ _ _ h=>h) (Or.inr ⟨by rfl,rfl⟩) ?_ ?_
               rotate_left
               ·simp only[Act.put,jq5,jq6,jq7,i64_w,i32_w]
                rfl
               refine pure_ (i:=13) (N:=some 60) (v:=undef) (a':=?_) #[Z,Z,Z,Z,Z,Z,Z,Z,Z,Z,Z,Z,Z,Z,Y,Y,Y,Y,Y,Y,Y,Y,Y] rfl rfl (any_of HT_.out (by kernel_rfl)) (fun _ _ _ h=>h) (Or.inr ⟨by rfl,rfl⟩) ?_ ?_
               rotate_left
               ·simp only[Act.put,jq5,jq6,jq7,i64_w,i32_w]
                rfl
               refine pure_ (i:=14) (N:=some 61) (v:=undef) (a':=?_) #[Z,Z,Z,Z,Z,Z,Z,Z,Z,Z,Z,Z,Z,Z,Z,Y,Y,Y,Y,Y,Y,Y,Y] rfl rfl (any_of HT_.out (by kernel_rfl)) (fun _ _ _ h=>h) (Or.inr ⟨by rfl,rfl⟩) ?_ ?_
               rotate_left
               ·simp only[Act.put,jq5,jq6,jq7,i64_w,i32_w]
                rfl
               refine pure_ (i:=15) (N:=some 62) (v:=undef) (a':=?_) #[Z,Z,Z,Z,Z,Z,Z,Z,Z,Z,Z,Z,Z,Z,Z,Z,Y,Y,Y,Y,Y,Y,Y] rfl rfl (any_of HT_.out (by kernel_rfl)) (fun _ _ _ h=>h) (Or.inr ⟨by rfl,rfl⟩) ?_ ?_
               rotate_left
               ·simp only[Act.put,jq5,jq6,jq7,i64_w,i32_w]
                rfl
               refine pure_ (i:=16) (N:=some 63) (v:=undef) (a':=?_) #[Z,Z,Z,Z,Z,Z,Z,Z,Z,Z,Z,Z,Z,Z,Z,Z,Z,Y,Y,Y,Y,Y,Y] rfl rfl (any_of HT_.out (by kernel_rfl)) (fun _ _ _ h=>h) (Or.inr ⟨by rfl,rfl⟩) ?_ ?_
               rotate_left
               ·simp only[Act.put,jq5,jq6,jq7,i64_w,i32_w]
                rfl
               refine pure_ (i:=17) (N:=some 64) (v:=undef) (a':=?_) #[Z,Z,Z,Z,Z,Z,Z,Z,Z,Z,Z,Z,Z,Z,Z,Z,Z,Z,Y,Y,Y,Y,Y] rfl rfl (any_of HT_.out (by kernel_rfl)) (fun _ _ _ h=>h) (Or.inr ⟨by rfl,rfl⟩) ?_ ?_
               rotate_left
               ·simp only[Act.put,jq5,jq6,jq7,i64_w,i32_w]
                rfl
               refine pure_ (i:=18) (N:=some 65) (v:=undef) (a':=?_) #[Z,Z,Z,Z,Z,Z,Z,Z,Z,Z,Z,Z,Z,Z,Z,Z,Z,Z,Z,Y,Y,Y,Y] rfl rfl (any_of HT_.out (by kernel_rfl)) (fun _ _ _ h=>h) (Or.inr ⟨by rfl,rfl⟩) ?_ ?_
               rotate_left
               ·simp only[Act.put,jq5,jq6,jq7,i64_w,i32_w]
                rfl
               refine pure_ (i:=19) (N:=some 66) (v:=undef) (a':=?_) #[Z,Z,Z,Z,Z,Z,Z,Z,Z,Z,Z,Z,Z,Z,Z,Z,Z,Z,Z,Z,Y,Y,Y] rfl rfl (any_of HT_.out (by kernel_rfl)) (fun _ _ _ h=>h) (Or.inr ⟨by rfl,rfl⟩) ?_ ?_
               rotate_left
               ·simp only[Act.put,jq5,jq6,jq7,i64_w,i32_w]
                rfl
               refine pure_ (i:=20) (N:=some 67) (v:=undef) (a':=?_) #[Z,Z,Z,Z,Z,Z,Z,Z,Z,Z,Z,Z,Z,Z,Z,Z,Z,Z,Z,Z,Z,Y,Y] rfl rfl (any_of HT_.out (by kernel_rfl)) (fun _ _ _ h=>h) (Or.inr ⟨by rfl,rfl⟩) ?_ ?_
               rotate_left
               ·simp only[Act.put,jq5,jq6,jq7,i64_w,i32_w]
                rfl
               refine pure_ (i:=21) (N:=some 68) (v:=?_) (a':=?_) #[Z,Z,Z,Z,Z,Z,Z,Z,Z,Z,Z,Z,Z,Z,Z,Z,Z,Z,Z,Z,Z,Z,Y] rfl rfl (any_of HT_.out (by kernel_rfl)) (fun _ _ _ h=>h) (Or.inl ⟨by rfl,?_⟩) ?_ ?_
               rotate_left
               ·intro w'
                go_simp
                with_reducible rfl
               rotate_left
               ·simp only[Act.put,jq5,jq6,jq7,i64_w,i32_w]
                rfl
               refine pure_ (i:=22) (N:=some 69) (v:=?_) (a':=?_) #[Z,Z,Z,Z,Z,Z,Z,Z,Z,Z,Z,Z,Z,Z,Z,Z,Z,Z,Z,Z,Z,Z,Z] rfl rfl (any_of HT_.out (by kernel_rfl)) (fun _ _ _ h=>h) (Or.inl ⟨by rfl,?_⟩) ?_ ?_
               rotate_left
               ·intro w'
                go_simp
                with_reducible rfl
               rotate_left
               ·simp only[Act.put,jq5,jq6,jq7,i64_w,i32_w]
                rfl
               refine done_ (done_of HT_.out (by kernel_rfl)) ?_
               try go_wp2
               go_roundg k3
               case measure=>have:=HJ16.out;have:=HJ21.out;have:=HK3.out;omega
               case rel=>exact⟨(wrap64 (x42_3 + 1)),(by first|rfl|(simp;done)|(simp[*];done)),H',⟨by have:=HJ16.out;have:=HJ21.out;have:=HK3.out;omega⟩,⟨by(with_reducible repeat(first|refine qw ?_ _|refine qx ?_|refine qv ?_ _));exact BK101.out⟩,⟨by repeat(first|(with_reducible first|exact HB.out|apply G|apply J|apply qq|refine qk ?_ GE101.out|refine qk ?_ GE104.out)|exact HB.out)⟩⟩
             ·replace c32:=jq9.mpr c32
              subst c32
              have H1:(some false)=some r:=by rw[if_neg (show ¬ (false=true) by decide)] at H;exact H
              clear H
              have H:=H1
              clear H1
              obtain rfl:=Option.some.inj H
              have p103 : 0≤(x42_3:Int):=of_decide_eq_true (by assumption)
              have q103:x42_3 < (l0_5.length:Int):=of_decide_eq_true (by assumption)
              obtain⟨ad103,e103,hx103_0,hx103_1,hx103_2,hx103_3⟩:=at_T34 HR0_5.out x42_3 p103 q103
              cases e103
              replace hx103_0:=(HB.out.cell (World.block_lt_of_cell? w _ hx103_0)).trans hx103_0
              replace hx103_1:=(HB.out.cell (World.block_lt_of_cell? w _ hx103_1)).trans hx103_1
              replace hx103_2:=(HB.out.cell (World.block_lt_of_cell? w _ hx103_2)).trans hx103_2
              replace hx103_3:=(HB.out.cell (World.block_lt_of_cell? w _ hx103_3)).trans hx103_3
              replace p103:=eq_true p103
              replace q103:=eq_true q103
              try go_wp2_with (first|((with_reducible refine gate_dst (N:=4) rfl ?_);(try (refine gate_guard (by rfl) ?_;dsimp only));refine box_event ?hg (N:=4) ?hd (cs:=#[.int .i64 0,.int .i64 0,.string (⟨#[]⟩ : ByteArray),.string (⟨#[]⟩ : ByteArray)]) (t:=34) ?hr ?_;(case hd=>rfl);(case hg=>rfl);(case hr=>first|(go_simp;done)|(go_simp;rfl));intro gb104 hg w66 hbox hb;have BK104:=U.mk (hbox);have GW104:=U.mk ((by rw[hg];exact(zj (by solve_by_elim (maxDepth:=20) only[HB.out,G,J,qq,qk,GE101.out])):w.heap.size≤gb104));have GE104:=U.mk ((by rw[hg];exact(zj (by solve_by_elim (maxDepth:=20) only[HB.out,G,J,qq,qk,GE101.out])):w.heap.size≤gb104));replace HB:=U.mk (zz (by solve_by_elim (maxDepth:=20) only[HB.out,G,J,qq,qk,GE101.out]) hb);have NB101_104:=U.mk ((by rw[hg];exact Nat.ne_of_lt (blk_lt (g:=gb101) (o:=.cells #[.int .i64 a0_0,.int .i64 a0_1,.int .i64 a0_2,.string a0_3,.string a0_4,.slice (some ad103) l0_5.length c0_5,.slice A0_6 l0_6.length c0_6] 58 (0,0)) (by solve_by_elim only[BK101.out,qw,qx,qv])):gb101≠gb104));have NB104_101:=U.mk ((by rw[hg];exact Nat.ne_of_gt (blk_lt (g:=gb101) (o:=.cells #[.int .i64 a0_0,.int .i64 a0_1,.int .i64 a0_2,.string a0_3,.string a0_4,.slice (some ad103) l0_5.length c0_5,.slice A0_6 l0_6.length c0_6] 58 (0,0)) (by solve_by_elim only[BK101.out,qw,qx,qv])):gb104≠gb101));replace BK101:=U.mk (kv (g:=gb101) (o:=.cells #[.int .i64 a0_0,.int .i64 a0_1,.int .i64 a0_2,.string a0_3,.string a0_4,.slice (some ad103) l0_5.length c0_5,.slice A0_6 l0_6.length c0_6] 58 (0,0)) (by solve_by_elim only[BK101.out,qw,qx,qv]) hb);clear hb hbox hg;have hnb67:=NB104_101.out;have hnc67:=NB101_104.out;have hcz68_0:w66.cell? ⟨gb104,0,none⟩ = some (.int .i64 0):=(qj BK104.out 0).trans rfl;have hcz68_1:w66.cell? ⟨gb104,1,none⟩ = some (.int .i64 0):=(qj BK104.out 1).trans rfl;have hcz68_2:w66.cell? ⟨gb104,2,none⟩ = some (.string (⟨#[]⟩ : ByteArray)):=(qj BK104.out 2).trans rfl;have hcz68_3:w66.cell? ⟨gb104,3,none⟩ = some (.string (⟨#[]⟩ : ByteArray)):=(qj BK104.out 3).trans rfl;have hfz68_0:=qz BK104.out 0;have hfz68_1:=qz BK104.out 1;have hfz68_2:=qz BK104.out 2;have hfz68_3:=qz BK104.out 3))
              have n0_:U (((((w66.setCell ⟨gb104,0,none⟩ (.int .i64 ((vz l0_5 x42_3).f0))).setCell ⟨gb104,1,none⟩ (.int .i64 ((vz l0_5 x42_3).f1))).setCell ⟨gb104,2,none⟩ (.string ((vz l0_5 x42_3).f2))).setCell ⟨gb104,3,none⟩ (.string ((vz l0_5 x42_3).f3))).heap[gb101]? = some (.cells #[.int .i64 a0_0,.int .i64 a0_1,.int .i64 a0_2,.string a0_3,.string a0_4,.slice (some ad103) l0_5.length c0_5,.slice A0_6 l0_6.length c0_6] 58 (0,0))):=⟨by(with_reducible repeat(first|refine qw ?_ _|refine qx ?_|refine qv ?_ _));refine blk_far ?_ NB101_104.out _;(with_reducible repeat(first|refine qw ?_ _|refine qx ?_|refine qv ?_ _));refine blk_far ?_ NB101_104.out _;(with_reducible repeat(first|refine qw ?_ _|refine qx ?_|refine qv ?_ _));refine blk_far ?_ NB101_104.out _;(with_reducible repeat(first|refine qw ?_ _|refine qx ?_|refine qv ?_ _));refine blk_far ?_ NB101_104.out _;(with_reducible repeat(first|refine qw ?_ _|refine qx ?_|refine qv ?_ _));exact BK101.out⟩
              have n1_:U (((((w66.setCell ⟨gb104,0,none⟩ (.int .i64 ((vz l0_5 x42_3).f0))).setCell ⟨gb104,1,none⟩ (.int .i64 ((vz l0_5 x42_3).f1))).setCell ⟨gb104,2,none⟩ (.string ((vz l0_5 x42_3).f2))).setCell ⟨gb104,3,none⟩ (.string ((vz l0_5 x42_3).f3))).heap[gb104]? = some (.cells #[.int .i64 ((vz l0_5 x42_3).f0),.int .i64 ((vz l0_5 x42_3).f1),.string ((vz l0_5 x42_3).f2),.string ((vz l0_5 x42_3).f3)] 34 (0,0))):=⟨by(with_reducible repeat(first|refine qw ?_ _|refine qx ?_|refine qv ?_ _));refine blk_put (cs:=#[.int .i64 ((vz l0_5 x42_3).f0),.int .i64 ((vz l0_5 x42_3).f1),.string ((vz l0_5 x42_3).f2),.string (⟨#[]⟩ : ByteArray)]) ?_ 3 _ rfl;(with_reducible repeat(first|refine qw ?_ _|refine qx ?_|refine qv ?_ _));refine blk_put (cs:=#[.int .i64 ((vz l0_5 x42_3).f0),.int .i64 ((vz l0_5 x42_3).f1),.string (⟨#[]⟩ : ByteArray),.string (⟨#[]⟩ : ByteArray)]) ?_ 2 _ rfl;(with_reducible repeat(first|refine qw ?_ _|refine qx ?_|refine qv ?_ _));refine blk_put (cs:=#[.int .i64 ((vz l0_5 x42_3).f0),.int .i64 0,.string (⟨#[]⟩ : ByteArray),.string (⟨#[]⟩ : ByteArray)]) ?_ 1 _ rfl;(with_reducible repeat(first|refine qw ?_ _|refine qx ?_|refine qv ?_ _));refine blk_put (cs:=#[.int .i64 0,.int .i64 0,.string (⟨#[]⟩ : ByteArray),.string (⟨#[]⟩ : ByteArray)]) ?_ 0 _ rfl;(with_reducible repeat(first|refine qw ?_ _|refine qx ?_|refine qv ?_ _));exact BK104.out⟩
              have n2_:U (Below w.heap.size w ((((w66.setCell ⟨gb104,0,none⟩ (.int .i64 ((vz l0_5 x42_3).f0))).setCell ⟨gb104,1,none⟩ (.int .i64 ((vz l0_5 x42_3).f1))).setCell ⟨gb104,2,none⟩ (.string ((vz l0_5 x42_3).f2))).setCell ⟨gb104,3,none⟩ (.string ((vz l0_5 x42_3).f3)))):=⟨by repeat(first|(with_reducible first|exact HB.out|apply G|apply J|apply qq|refine qk ?_ GE101.out|refine qk ?_ GE104.out)|exact HB.out)⟩
              (try clear BK101)
              (try clear BK104)
              (try clear HB)
              generalize ((((w66.setCell ⟨gb104,0,none⟩ (.int .i64 ((vz l0_5 x42_3).f0))).setCell ⟨gb104,1,none⟩ (.int .i64 ((vz l0_5 x42_3).f1))).setCell ⟨gb104,2,none⟩ (.string ((vz l0_5 x42_3).f2))).setCell ⟨gb104,3,none⟩ (.string ((vz l0_5 x42_3).f3)))=w69 at n0_ n1_ n2_ ⊢
              have BK101:=n0_
              have BK104:=n1_
              have HB:=n2_
              clear n0_ n1_ n2_
              replace BK101:=U.mk (qx BK101.out)
              replace BK104:=U.mk (qx BK104.out)
              replace HB:=U.mk (qq HB.out)
              refine start_ (n:=23) (S:=fun w'=>w'.cell? ⟨gb104,0,none⟩ = some (.int .i64 ((vz l0_5 x42_3).f0))∧w'.cell? ⟨gb104,1,none⟩ = some (.int .i64 ((vz l0_5 x42_3).f1))∧w'.cell? ⟨gb104,2,none⟩ = some (.string ((vz l0_5 x42_3).f2))∧w'.cell? ⟨gb104,3,none⟩ = some (.string ((vz l0_5 x42_3).f3))) (ds:=[]) #[Y,Y,Y,Y,Y,Y,Y,Y,Y,Y,Y,Y,Y,Y,Y,Y,Y,Y,Y,Y,Y,Y,Y] (by kernel_rfl) rfl rfl ⟨(qj BK104.out 0).trans rfl,(qj BK104.out 1).trans rfl,(qj BK104.out 2).trans rfl,(qj BK104.out 3).trans rfl⟩ (fun hHeld=>?_);refine with_tabW qzz.tab11 qzz.bits11 (fun HT_ HW_=>?_)
              generalize w69.drew=w70 at BK101 BK104 HB hHeld ⊢
              refine take_ (i:=0) (N:=some 47) (v:=?_) (a':=?_) #[Z,Y,Y,Y,Y,Y,Y,Y,Y,Y,Y,Y,Y,Y,Y,Y,Y,Y,Y,Y,Y,Y,Y] rfl rfl (take_ofW HT_.out HW_.out (by kernel_rfl)) (fun _ _ _ h=>h) (Or.inl ⟨by rfl,?_⟩) hHeld ?_ ?_
              rotate_left
              ·rintro w' ⟨s0,s1,s2,s3⟩
               go_simp
               with_reducible rfl
              rotate_left
              ·simp only[Act.put,jq5,jq6,jq7,i64_w,i32_w]
               rfl
              refine one_ (i:=1) (N:=some 48) #[Z,Z,Y,Y,Y,Y,Y,Y,Y,Y,Y,Y,Y,Y,Y,Y,Y,Y,Y,Y,Y,Y,Y] rfl rfl (one_of HT_.out (by kernel_rfl)) (by decide) (fun K hK=>?_)
              refine goes_ Try.func25 (by kernel_rfl) rfl #[.agg #[.int .i64 ((vz l0_5 x42_3).f0),.int .i64 ((vz l0_5 x42_3).f1),.string ((vz l0_5 x42_3).f2),.string ((vz l0_5 x42_3).f3)]] (by rfl) rfl rfl (by(try simp only[jq0,jq1,jq2]);first|done|rfl|(simp only[jq3,jq4];rfl)) ?_
              with_reducible refine(qqx.calls k3 ((vz l0_5 x42_3).f0) ((vz l0_5 x42_3).f1) ((vz l0_5 x42_3).f2) ((vz l0_5 x42_3).f3) false _ A31.out).mono ?_
              rintro e w71 ⟨rfl,hb⟩
              refine⟨_,rfl,?_⟩
              replace BK101:=U.mk (kv (g:=gb101) (o:=.cells #[.int .i64 a0_0,.int .i64 a0_1,.int .i64 a0_2,.string a0_3,.string a0_4,.slice (some ad103) l0_5.length c0_5,.slice A0_6 l0_6.length c0_6] 58 (0,0)) (by solve_by_elim only[BK101.out,qw,qx,qv]) hb)
              replace BK104:=U.mk (kv (g:=gb104) (o:=.cells #[.int .i64 ((vz l0_5 x42_3).f0),.int .i64 ((vz l0_5 x42_3).f1),.string ((vz l0_5 x42_3).f2),.string ((vz l0_5 x42_3).f3)] 34 (0,0)) (by solve_by_elim only[BK104.out,qw,qx,qv]) hb)
              replace HB:=U.mk (zz (by solve_by_elim (maxDepth:=20) only[HB.out,G,J,qq,qk,GE101.out,qk,GE104.out]) hb)
              (try clear hb)
              (try clear hb2)
              (try clear hk)
              (try clear hi)
              refine hK.out _ _ ⟨(qj BK104.out 0).trans rfl,(qj BK104.out 1).trans rfl,(qj BK104.out 2).trans rfl,(qj BK104.out 3).trans rfl⟩ (fun hHeld=>?_)
              clear hK K
              refine norm_ (a':=?_) ?_ ?_
              rotate_left
              ·show Act.put _ (some 48) _=_
               simp only[Act.put,jq5,jq6,jq7,i64_w,i32_w]
               rfl
              refine pure_ (i:=2) (N:=some 49) (v:=?_) (a':=?_) #[Z,Z,Z,Y,Y,Y,Y,Y,Y,Y,Y,Y,Y,Y,Y,Y,Y,Y,Y,Y,Y,Y,Y] rfl rfl (any_of HT_.out (by kernel_rfl)) (fun _ _ _ h=>h) (Or.inl ⟨by rfl,?_⟩) ?_ ?_
              rotate_left
              ·intro w'
               go_simp
               with_reducible rfl
              rotate_left
              ·simp only[Act.put,jq5,jq6,jq7,i64_w,i32_w]
               rfl
              refine pure_ (i:=3) (N:=some 50) (v:=?_) (a':=?_) #[Z,Z,Z,Z,Y,Y,Y,Y,Y,Y,Y,Y,Y,Y,Y,Y,Y,Y,Y,Y,Y,Y,Y] rfl rfl (any_of HT_.out (by kernel_rfl)) (fun _ _ _ h=>h) (Or.inl ⟨by rfl,?_⟩) ?_ ?_
              rotate_left
              ·intro w'
               go_simp
               with_reducible rfl
              rotate_left
              ·simp only[Act.put,jq5,jq6,jq7,i64_w,i32_w]
               rfl
              refine pure_ (i:=4) (N:=some 51) (v:=undef) (a':=?_) #[Z,Z,Z,Z,Z,Y,Y,Y,Y,Y,Y,Y,Y,Y,Y,Y,Y,Y,Y,Y,Y,Y,Y] rfl rfl (any_of HT_.out (by kernel_rfl)) (fun _ _ _ h=>h) (Or.inr ⟨by rfl,rfl⟩) ?_ ?_
              rotate_left
              ·simp only[Act.put,jq5,jq6,jq7,i64_w,i32_w]
               rfl
              refine pure_ (i:=5) (N:=some 52) (v:=undef) (a':=?_) #[Z,Z,Z,Z,Z,Z,Y,Y,Y,Y,Y,Y,Y,Y,Y,Y,Y,Y,Y,Y,Y,Y,Y] rfl rfl (any_of HT_.out (by kernel_rfl)) (fun _ _ _ h=>h) (Or.inr ⟨by rfl,rfl⟩) ?_ ?_
              rotate_left
              ·simp only[Act.put,jq5,jq6,jq7,i64_w,i32_w]
               rfl
              refine pure_ (i:=6) (N:=some 53) (v:=undef) (a':=?_) #[Z,Z,Z,Z,Z,Z,Z,Y,Y,Y,Y,Y,Y,Y,Y,Y,Y,Y,Y,Y,Y,Y,Y] rfl rfl (any_of HT_.out (by kernel_rfl)) (fun _ _ _ h=>h) (Or.inr ⟨by rfl,rfl⟩) ?_ ?_
              rotate_left
              ·simp only[Act.put,jq5,jq6,jq7,i64_w,i32_w]
               rfl
              refine pure_ (i:=7) (N:=some 54) (v:=undef) (a':=?_) #[Z,Z,Z,Z,Z,Z,Z,Z,Y,Y,Y,Y,Y,Y,Y,Y,Y,Y,Y,Y,Y,Y,Y] rfl rfl (any_of HT_.out (by kernel_rfl)) (fun _ _ _ h=>h) (Or.inr ⟨by rfl,rfl⟩) ?_ ?_
              rotate_left
              ·simp only[Act.put,jq5,jq6,jq7,i64_w,i32_w]
               rfl
              refine pure_ (i:=8) (N:=some 55) (v:=undef) (a':=?_) #[Z,Z,Z,Z,Z,Z,Z,Z,Z,Y,Y,Y,Y,Y,Y,Y,Y,Y,Y,Y,Y,Y,Y] rfl rfl (any_of HT_.out (by kernel_rfl)) (fun _ _ _ h=>h) (Or.inr ⟨by rfl,rfl⟩) ?_ ?_
              rotate_left
              ·simp only[Act.put,jq5,jq6,jq7,i64_w,i32_w]
               rfl
              refine pure_ (i:=9) (N:=some 56) (v:=undef) (a':=?_) #[Z,Z,Z,Z,Z,Z,Z,Z,Z,Z,Y,Y,Y,Y,Y,Y,Y,Y,Y,Y,Y,Y,Y] rfl rfl (any_of HT_.out (by kernel_rfl)) (fun _ _ _ h=>h) (Or.inr ⟨by rfl,rfl⟩) ?_ ?_
              rotate_left
              ·simp only[Act.put,jq5,jq6,jq7,i64_w,i32_w]
               rfl
              refine pure_ (i:=10) (N:=some 57) (v:=undef) (a':=?_) #[Z,Z,Z,Z,Z,Z,Z,Z,Z,Z,Z,Y,Y,Y,Y,Y,Y,Y,Y,Y,Y,Y,Y] rfl rfl (any_of HT_.out (by kernel_rfl)) (fun _ _ _ h=>h) (Or.inr ⟨by rfl,rfl⟩) ?_ ?_
              rotate_left
              ·simp only[Act.put,jq5,jq6,jq7,i64_w,i32_w]
               rfl
              refine pure_ (i:=11) (N:=some 58) (v:=undef) (a':=?_) #[Z,Z,Z,Z,Z,Z,Z,Z,Z,Z,Z,Z,Y,Y,Y,Y,Y,Y,Y,Y,Y,Y,Y] rfl rfl (any_of HT_.out (by kernel_rfl)) (fun _ _ _ h=>h) (Or.inr ⟨by rfl,rfl⟩) ?_ ?_
              rotate_left
              ·simp only[Act.put,jq5,jq6,jq7,i64_w,i32_w]
               rfl
              refine pure_ (i:=12) (N:=some 59) (v:=undef) (a':=?_) #[Z,Z,Z,Z,Z,Z,Z,Z,Z,Z,Z,Z,Z,Y,Y,Y,Y,Y,Y,Y,Y,Y,Y] rfl rfl (any_of HT_.out (by kernel_rfl)) (fun _ _ _ h=>h) (Or.inr ⟨by rfl,rfl⟩) ?_ ?_
              rotate_left
              ·simp only[Act.put,jq5,jq6,jq7,i64_w,i32_w]
               rfl
              refine pure_ (i:=13) (N:=some 60) (v:=undef) (a':=?_) #[Z,Z,Z,Z,Z,Z,Z,Z,Z,Z,Z,Z,Z,Z,Y,Y,Y,Y,Y,Y,Y,Y,Y] rfl rfl (any_of HT_.out (by kernel_rfl)) (fun _ _ _ h=>h) (Or.inr ⟨by rfl,rfl⟩) ?_ ?_
              rotate_left
              ·simp only[Act.put,jq5,jq6,jq7,i64_w,i32_w]
               rfl
              refine pure_ (i:=14) (N:=some 61) (v:=undef) (a':=?_) #[Z,Z,Z,Z,Z,Z,Z,Z,Z,Z,Z,Z,Z,Z,Z,Y,Y,Y,Y,Y,Y,Y,Y] rfl rfl (any_of HT_.out (by kernel_rfl)) (fun _ _ _ h=>h) (Or.inr ⟨by rfl,rfl⟩) ?_ ?_
              rotate_left
              ·simp only[Act.put,jq5,jq6,jq7,i64_w,i32_w]
               rfl
              refine pure_ (i:=15) (N:=some 62) (v:=undef) (a':=?_) #[Z,Z,Z,Z,Z,Z,Z,Z,Z,Z,Z,Z,Z,Z,Z,Z,Y,Y,Y,Y,Y,Y,Y] rfl rfl (any_of HT_.out (by kernel_rfl)) (fun _ _ _ h=>h) (Or.inr ⟨by rfl,rfl⟩) ?_ ?_
              rotate_left
              ·simp only[Act.put,jq5,jq6,jq7,i64_w,i32_w]
               rfl
              refine pure_ (i:=16) (N:=some 63) (v:=undef) (a':=?_) #[Z,Z,Z,Z,Z,Z,Z,Z,Z,Z,Z,Z,Z,Z,Z,Z,Z,Y,Y,Y,Y,Y,Y] rfl rfl (any_of HT_.out (by kernel_rfl)) (fun _ _ _ h=>h) (Or.inr ⟨by rfl,rfl⟩) ?_ ?_
              rotate_left
              ·simp only[Act.put,jq5,jq6,jq7,i64_w,i32_w]
               rfl
              refine pure_ (i:=17) (N:=some 64) (v:=undef) (a':=?_) #[Z,Z,Z,Z,Z,Z,Z,Z,Z,Z,Z,Z,Z,Z,Z,Z,Z,Z,Y,Y,Y,Y,Y] rfl rfl (any_of HT_.out (by kernel_rfl)) (fun _ _ _ h=>h) (Or.inr ⟨by rfl,rfl⟩) ?_ ?_
              rotate_left
              ·simp only[Act.put,jq5,jq6,jq7,i64_w,i32_w]
               rfl
              refine pure_ (i:=18) (N:=some 65) (v:=undef) (a':=?_) #[Z,Z,Z,Z,Z,Z,Z,Z,Z,Z,Z,Z,Z,Z,Z,Z,Z,Z,Z,Y,Y,Y,Y] rfl rfl (any_of HT_.out (by kernel_rfl)) (fun _ _ _ h=>h) (Or.inr ⟨by rfl,rfl⟩) ?_ ?_
              rotate_left
              ·simp only[Act.put,jq5,jq6,jq7,i64_w,i32_w]
               rfl
              refine pure_ (i:=19) (N:=some 66) (v:=undef) (a':=?_) #[Z,Z,Z,Z,Z,Z,Z,Z,Z,Z,Z,Z,Z,Z,Z,Z,Z,Z,Z,Z,Y,Y,Y] rfl rfl (any_of HT_.out (by kernel_rfl)) (fun _ _ _ h=>h) (Or.inr ⟨by rfl,rfl⟩) ?_ ?_
              rotate_left
              ·simp only[Act.put,jq5,jq6,jq7,i64_w,i32_w]
               rfl
              refine pure_ (i:=20) (N:=some 67) (v:=undef) (a':=?_) #[Z,Z,Z,Z,Z,Z,Z,Z,Z,Z,Z,Z,Z,Z,Z,Z,Z,Z,Z,Z,Z,Y,Y] rfl rfl (any_of HT_.out (by kernel_rfl)) (fun _ _ _ h=>h) (Or.inr ⟨by rfl,rfl⟩) ?_ ?_
              rotate_left
              ·simp only[Act.put,jq5,jq6,jq7,i64_w,i32_w]
               rfl
              refine pure_ (i:=21) (N:=some 68) (v:=undef) (a':=?_) #[Z,Z,Z,Z,Z,Z,Z,Z,Z,Z,Z,Z,Z,Z,Z,Z,Z,Z,Z,Z,Z,Z,Y] rfl rfl (any_of HT_.out (by kernel_rfl)) (fun _ _ _ h=>h) (Or.inr ⟨by rfl,rfl⟩) ?_ ?_
              rotate_left
              ·simp only[Act.put,jq5,jq6,jq7,i64_w,i32_w]
               rfl
              refine pure_ (i:=22) (N:=some 69) (v:=?_) (a':=?_) #[Z,Z,Z,Z,Z,Z,Z,Z,Z,Z,Z,Z,Z,Z,Z,Z,Z,Z,Z,Z,Z,Z,Z] rfl rfl (any_of HT_.out (by kernel_rfl)) (fun _ _ _ h=>h) (Or.inl ⟨by rfl,?_⟩) ?_ ?_
              rotate_left
              ·intro w'
               go_simp
               with_reducible rfl
              rotate_left
              ·simp only[Act.put,jq5,jq6,jq7,i64_w,i32_w]
               rfl
              refine done_ (done_of HT_.out (by kernel_rfl)) ?_
              try go_wp2
              go_ret
              exact⟨by first|rfl|(simp[*,jv,jk] <;> rfl),by repeat(first|(with_reducible first|exact HB.out|apply G|apply J|apply qq|refine qk ?_ GE101.out|refine qk ?_ GE104.out)|exact HB.out)⟩
            ·rw[if_neg c30] at H
             exact absurd H (by simp)
           ·rw[if_neg c29] at H
            exact absurd H (by simp)
          ·rw[if_neg c28] at H
           have c28b0:decide (x42_3 < (l0_5.length:Int))=false:=decide_eq_false c28
           clear c28
           by_cases c72:a0_0=2
           ·rw[if_pos c72] at H
            have c72b0:(a0_0 == 2)=true:=beq_iff_eq.mpr c72
            have c72b1:(a0_0 != 2)=false:=bne_eq_false_iff_eq.mpr c72
            clear c72
            obtain rfl:=Option.some.inj H
            have hcz73_0:wr.cell? ⟨gb101,0,none⟩ = some (.int .i64 a0_0):=(qj BK101.out 0).trans rfl
            have hcz73_1:wr.cell? ⟨gb101,1,none⟩ = some (.int .i64 a0_1):=(qj BK101.out 1).trans rfl
            have hcz73_2:wr.cell? ⟨gb101,2,none⟩ = some (.int .i64 a0_2):=(qj BK101.out 2).trans rfl
            have hcz73_3:wr.cell? ⟨gb101,3,none⟩ = some (.string a0_3):=(qj BK101.out 3).trans rfl
            have hcz73_4:wr.cell? ⟨gb101,4,none⟩ = some (.string a0_4):=(qj BK101.out 4).trans rfl
            have hcz73_5:wr.cell? ⟨gb101,5,none⟩ = some (.slice A0_5 l0_5.length c0_5):=(qj BK101.out 5).trans rfl
            have hcz73_6:wr.cell? ⟨gb101,6,none⟩ = some (.slice A0_6 l0_6.length c0_6):=(qj BK101.out 6).trans rfl
            have hfz73_0:=qz BK101.out 0
            have hfz73_1:=qz BK101.out 1
            have hfz73_2:=qz BK101.out 2
            have hfz73_3:=qz BK101.out 3
            have hfz73_4:=qz BK101.out 4
            have hfz73_5:=qz BK101.out 5
            have hfz73_6:=qz BK101.out 6
            go_wp2
            go_ret
            exact⟨by first|rfl|(simp[*,jv,jk] <;> rfl),by repeat(first|(with_reducible first|exact HB.out|apply G|apply J|apply qq|refine qk ?_ GE101.out)|exact HB.out)⟩
           ·rw[if_neg c72] at H
            have c72b0:(a0_0 == 2)=false:=beq_eq_false_iff_ne.mpr c72
            have c72b1:(a0_0 != 2)=true:=bne_iff_ne.mpr c72
            by_cases c74:(l0_6.length:Int)=(l0_5.length:Int)
            ·rw[if_pos c74] at H
             have c74b0:((l0_6.length:Int) == (l0_5.length:Int))=true:=beq_iff_eq.mpr c74
             have c74b1:((l0_6.length:Int) != (l0_5.length:Int))=false:=bne_eq_false_iff_eq.mpr c74
             have c74b2:(l0_6.length == l0_5.length)=true:=by first|simpa using c74|(simp at c74 ⊢;omega)
             clear c74
             have H':=U.mk H
             clear H
             have hcz75_0:wr.cell? ⟨gb101,0,none⟩ = some (.int .i64 a0_0):=(qj BK101.out 0).trans rfl
             have hcz75_1:wr.cell? ⟨gb101,1,none⟩ = some (.int .i64 a0_1):=(qj BK101.out 1).trans rfl
             have hcz75_2:wr.cell? ⟨gb101,2,none⟩ = some (.int .i64 a0_2):=(qj BK101.out 2).trans rfl
             have hcz75_3:wr.cell? ⟨gb101,3,none⟩ = some (.string a0_3):=(qj BK101.out 3).trans rfl
             have hcz75_4:wr.cell? ⟨gb101,4,none⟩ = some (.string a0_4):=(qj BK101.out 4).trans rfl
             have hcz75_5:wr.cell? ⟨gb101,5,none⟩ = some (.slice A0_5 l0_5.length c0_5):=(qj BK101.out 5).trans rfl
             have hcz75_6:wr.cell? ⟨gb101,6,none⟩ = some (.slice A0_6 l0_6.length c0_6):=(qj BK101.out 6).trans rfl
             have hfz75_0:=qz BK101.out 0
             have hfz75_1:=qz BK101.out 1
             have hfz75_2:=qz BK101.out 2
             have hfz75_3:=qz BK101.out 3
             have hfz75_4:=qz BK101.out 4
             have hfz75_5:=qz BK101.out 5
             have hfz75_6:=qz BK101.out 6
             go_wp2
             go_loopg [88] k3 (fun kq v88 w'=>∃ (x88_4:Int),v88=.int .i64 x88_4∧U (qzz.l1 kq l0_6 (l0_6.length:Int) x88_4 a0_0 a0_1 a0_2 a0_3 a0_4 l0_5 l0_6=some r)∧U (kq≤k3)∧U (w'.heap[gb101]? = some (.cells #[.int .i64 a0_0,.int .i64 a0_1,.int .i64 a0_2,.string a0_3,.string a0_4,(.slice A0_5 l0_5.length c0_5),(.slice A0_6 l0_6.length c0_6)] 58 (0,0)))∧U (Below w.heap.size w w'))
             case atStart=>exact⟨(0),(by first|rfl|(simp;done)|(simp[*];done)),H',⟨Nat.le_refl _⟩,⟨by(with_reducible repeat(first|refine qw ?_ _|refine qx ?_|refine qv ?_ _));exact BK101.out⟩,⟨by repeat(first|(with_reducible first|exact HB.out|apply G|apply J|apply qq|refine qk ?_ GE101.out)|exact HB.out)⟩⟩
             case round =>
              clear H'
              try clear p1
              try clear q1
              try clear hx1
              try clear c2
              try clear p2
              try clear c3
              try clear c6
              try clear p6
              try clear c7
              try clear p10
              try clear q10
              try clear hx10
              try clear c25
              try clear c28
              try clear c28b0
              try clear c29
              try clear c30
              try clear c32
              try clear c33
              try clear c33b0
              try clear c33b1
              try clear c61
              try clear p64
              try clear c67
              try clear c72
              try clear c72b0
              try clear c72b1
              try clear c74
              try clear c74b0
              try clear c74b1
              try clear c74b2
              try clear hcz62_0
              try clear hcz62_1
              try clear hcz62_2
              try clear hcz62_3
              try clear hcz68_0
              try clear hcz68_1
              try clear hcz68_2
              try clear hcz68_3
              try clear hcz73_0
              try clear hcz73_1
              try clear hcz73_2
              try clear hcz73_3
              try clear hcz73_4
              try clear hcz73_5
              try clear hcz73_6
              try clear hcz75_0
              try clear hcz75_1
              try clear hcz75_2
              try clear hcz75_3
              try clear hcz75_4
              try clear hcz75_5
              try clear hcz75_6
              try clear hfz62_0
              try clear hfz62_1
              try clear hfz62_2
              try clear hfz62_3
              try clear hfz68_0
              try clear hfz68_1
              try clear hfz68_2
              try clear hfz68_3
              try clear hfz73_0
              try clear hfz73_1
              try clear hfz73_2
              try clear hfz73_3
              try clear hfz73_4
              try clear hfz73_5
              try clear hfz73_6
              try clear hfz75_0
              try clear hfz75_1
              try clear hfz75_2
              try clear hfz75_3
              try clear hfz75_4
              try clear hfz75_5
              try clear hfz75_6
              try clear hx103_0
              try clear hx103_1
              try clear hx103_2
              try clear hx103_3
              try clear p103
              try clear q103
              obtain⟨x88_4,rfl,HA,HK4,BK101,HB⟩:=hrel
              cases gk with
              | zero=>exact absurd HA.out (by simp[qzz.l1])
              | succ k4 =>
               have H:=HA.out
               clear HA
               simp only[qzz.l1] at H
               by_cases c76:x88_4 < (l0_6.length:Int)
               ·rw[if_pos c76] at H
                have c76b0:decide (x88_4 < (l0_6.length:Int))=true:=decide_eq_true c76
                clear c76
                by_cases c77 : 0≤x88_4
                ·rw[if_pos c77] at H
                 have c77b0:decide (0≤x88_4)=true:=decide_eq_true c77
                 clear c77
                 by_cases c78:x88_4 < (l0_6.length:Int)
                 ·rw[if_pos c78] at H
                  have c78b0:decide (x88_4 < (l0_6.length:Int))=true:=decide_eq_true c78
                  clear c78
                  replace H:=jq8.mp H
                  obtain⟨t109,A790,H⟩:=H
                  try dsimp only at H
                  have A79:=U.mk A790
                  clear A790
                  by_cases c80:t109=true
                  ·subst c80
                   have H1:(if x88_4 > 0 then(if 0≤(wrap64 (x88_4 - 1)) then(if (wrap64 (x88_4 - 1)) < (l0_6.length:Int) then((qzx.f k4 (rdOf ByteArray.empty l0_6 (wrap64 (x88_4 - 1))) (rdOf ByteArray.empty l0_6 x88_4)).bind fun t111=>(if t111 ≥ 0 then(some false) else(qzz.l1 k4 l0_6 (l0_6.length:Int) (wrap64 (x88_4 + 1)) a0_0 a0_1 a0_2 a0_3 a0_4 l0_5 l0_6))) else(none)) else(none)) else(qzz.l1 k4 l0_6 (l0_6.length:Int) (wrap64 (x88_4 + 1)) a0_0 a0_1 a0_2 a0_3 a0_4 l0_5 l0_6))=some r:=by rw[if_pos rfl] at H;exact H
                   clear H
                   have H:=H1
                   clear H1
                   by_cases c81:x88_4 > 0
                   ·rw[if_pos c81] at H
                    have c81b0:decide (0 < x88_4)=true:=decide_eq_true c81
                    clear c81
                    obtain⟨ji82,hji82⟩ : ∃ j_:Int,(wrap64 (x88_4 - 1))=j_:=⟨_,rfl⟩
                    replace H:(if 0≤(ji82) then(if (ji82) < (l0_6.length:Int) then((qzx.f k4 (rdOf ByteArray.empty l0_6 (ji82)) (rdOf ByteArray.empty l0_6 x88_4)).bind fun t111=>(if t111 ≥ 0 then(some false) else(qzz.l1 k4 l0_6 (l0_6.length:Int) (wrap64 (x88_4 + 1)) a0_0 a0_1 a0_2 a0_3 a0_4 l0_5 l0_6))) else(none)) else(none))=some r:=by first|(rw[hji82] at H;exact H)|(simp only[hji82] at H ⊢;exact H)
                    (try rw[hji82] at A79)
                    have hji82w:(IntKind.i64.wrap (x88_4 - 1))=ji82:=(i64_w _).trans hji82
                    by_cases c83 : 0≤(ji82)
                    ·rw[if_pos c83] at H
                     have c83b0:decide (0≤(ji82))=true:=decide_eq_true c83
                     clear c83
                     by_cases c84:(ji82) < (l0_6.length:Int)
                     ·rw[if_pos c84] at H
                      have c84b0:decide ((ji82) < (l0_6.length:Int))=true:=decide_eq_true c84
                      clear c84
                      replace H:=jq8.mp H
                      obtain⟨t111,A850,H⟩:=H
                      try dsimp only at H
                      have A85:=U.mk A850
                      clear A850
                      by_cases c86:t111 ≥ 0
                      ·rw[if_pos c86] at H
                       have c86b0:decide (0≤t111)=true:=decide_eq_true c86
                       clear c86
                       obtain rfl:=Option.some.inj H
                       have p108 : 0≤(x88_4:Int):=of_decide_eq_true (by assumption)
                       have q108:x88_4 < (l0_6.length:Int):=of_decide_eq_true (by assumption)
                       obtain⟨ad108,e108,hx108_0⟩:=Kd.at_string HR0_6.out x88_4 p108 q108
                       cases e108
                       replace hx108_0:=(HB.out.cell (World.block_lt_of_cell? w _ hx108_0)).trans hx108_0
                       replace p108:=eq_true p108
                       replace q108:=eq_true q108
                       go_wp2_with (first|((with_reducible refine jw (f:=73) rfl ?_);refine goesL_ (some 94) rfl rfl Try.func73 (by kernel_rfl) rfl #[.string (rdOf ByteArray.empty l0_6 x88_4)] rfl (by(try simp only[jq0,jq1,jq2]);first|done|rfl|(simp only[jq3,jq4];rfl)) ?_;(with_reducible refine(qzq.calls k4 (rdOf ByteArray.empty l0_6 x88_4) true _ A79.out).mono ?_);rintro e w' ⟨rfl,⟨nd,rfl⟩⟩;refine⟨_,rfl,?_⟩;have hcz87_0:wr.cell? ⟨gb101,0,none⟩ = some (.int .i64 a0_0):=(qj BK101.out 0).trans rfl;have hcz87_1:wr.cell? ⟨gb101,1,none⟩ = some (.int .i64 a0_1):=(qj BK101.out 1).trans rfl;have hcz87_2:wr.cell? ⟨gb101,2,none⟩ = some (.int .i64 a0_2):=(qj BK101.out 2).trans rfl;have hcz87_3:wr.cell? ⟨gb101,3,none⟩ = some (.string a0_3):=(qj BK101.out 3).trans rfl;have hcz87_4:wr.cell? ⟨gb101,4,none⟩ = some (.string a0_4):=(qj BK101.out 4).trans rfl;have hcz87_5:wr.cell? ⟨gb101,5,none⟩ = some (.slice A0_5 l0_5.length c0_5):=(qj BK101.out 5).trans rfl;have hcz87_6:wr.cell? ⟨gb101,6,none⟩ = some (.slice (some ad108) l0_6.length c0_6):=(qj BK101.out 6).trans rfl;have hfz87_0:=qz BK101.out 0;have hfz87_1:=qz BK101.out 1;have hfz87_2:=qz BK101.out 2;have hfz87_3:=qz BK101.out 3;have hfz87_4:=qz BK101.out 4;have hfz87_5:=qz BK101.out 5;have hfz87_6:=qz BK101.out 6;have p110 : 0≤((ji82):Int):=of_decide_eq_true (by assumption);have q110:(ji82) < (l0_6.length:Int):=of_decide_eq_true (by assumption);obtain⟨ad110,e110,hx110_0⟩:=Kd.at_string HR0_6.out (ji82) p110 q110;obtain rfl:ad108=ad110:=(by injection e110);replace hx110_0:=(HB.out.cell (World.block_lt_of_cell? w _ hx110_0)).trans hx110_0;replace p110:=eq_true p110;replace q110:=eq_true q110)|(go_at_call 98;(with_reducible refine(qzx.calls k4 (rdOf ByteArray.empty l0_6 (ji82)) (rdOf ByteArray.empty l0_6 x88_4) t111 _ A85.out).mono ?_);rintro e w' ⟨rfl,⟨nd,rfl⟩⟩))
                       go_ret
                       exact⟨by first|rfl|(simp[jv,jk] <;> rfl)|(simp only[← hji82];first|rfl|(simp[jv,jk] <;> rfl))|(simp[*,jv,jk] <;> rfl),by repeat(first|(with_reducible first|exact HB.out|apply G|apply J|apply qq|refine qk ?_ GE101.out)|exact HB.out)⟩
                      ·rw[if_neg c86] at H
                       have c86b0:decide (0≤t111)=false:=decide_eq_false c86
                       clear c86
                       have H':=U.mk H
                       clear H
                       have p108 : 0≤(x88_4:Int):=of_decide_eq_true (by assumption)
                       have q108:x88_4 < (l0_6.length:Int):=of_decide_eq_true (by assumption)
                       obtain⟨ad108,e108,hx108_0⟩:=Kd.at_string HR0_6.out x88_4 p108 q108
                       cases e108
                       replace hx108_0:=(HB.out.cell (World.block_lt_of_cell? w _ hx108_0)).trans hx108_0
                       replace p108:=eq_true p108
                       replace q108:=eq_true q108
                       go_wp2_with (first|((with_reducible refine jw (f:=73) rfl ?_);refine goesL_ (some 94) rfl rfl Try.func73 (by kernel_rfl) rfl #[.string (rdOf ByteArray.empty l0_6 x88_4)] rfl (by(try simp only[jq0,jq1,jq2]);first|done|rfl|(simp only[jq3,jq4];rfl)) ?_;(with_reducible refine(qzq.calls k4 (rdOf ByteArray.empty l0_6 x88_4) true _ A79.out).mono ?_);rintro e w' ⟨rfl,⟨nd,rfl⟩⟩;refine⟨_,rfl,?_⟩;have hcz88_0:wr.cell? ⟨gb101,0,none⟩ = some (.int .i64 a0_0):=(qj BK101.out 0).trans rfl;have hcz88_1:wr.cell? ⟨gb101,1,none⟩ = some (.int .i64 a0_1):=(qj BK101.out 1).trans rfl;have hcz88_2:wr.cell? ⟨gb101,2,none⟩ = some (.int .i64 a0_2):=(qj BK101.out 2).trans rfl;have hcz88_3:wr.cell? ⟨gb101,3,none⟩ = some (.string a0_3):=(qj BK101.out 3).trans rfl;have hcz88_4:wr.cell? ⟨gb101,4,none⟩ = some (.string a0_4):=(qj BK101.out 4).trans rfl;have hcz88_5:wr.cell? ⟨gb101,5,none⟩ = some (.slice A0_5 l0_5.length c0_5):=(qj BK101.out 5).trans rfl;have hcz88_6:wr.cell? ⟨gb101,6,none⟩ = some (.slice (some ad108) l0_6.length c0_6):=(qj BK101.out 6).trans rfl;have hfz88_0:=qz BK101.out 0;have hfz88_1:=qz BK101.out 1;have hfz88_2:=qz BK101.out 2;have hfz88_3:=qz BK101.out 3;have hfz88_4:=qz BK101.out 4;have hfz88_5:=qz BK101.out 5;have hfz88_6:=qz BK101.out 6;have p110 : 0≤((ji82):Int):=of_decide_eq_true (by assumption);have q110:(ji82) < (l0_6.length:Int):=of_decide_eq_true (by assumption);obtain⟨ad110,e110,hx110_0⟩:=Kd.at_string HR0_6.out (ji82) p110 q110;obtain rfl:ad108=ad110:=(by injection e110);replace hx110_0:=(HB.out.cell (World.block_lt_of_cell? w _ hx110_0)).trans hx110_0;replace p110:=eq_true p110;replace q110:=eq_true q110)|(go_at_call 98;(with_reducible refine(qzx.calls k4 (rdOf ByteArray.empty l0_6 (ji82)) (rdOf ByteArray.empty l0_6 x88_4) t111 _ A85.out).mono ?_);rintro e w' ⟨rfl,⟨nd,rfl⟩⟩))
                       go_roundg k4
                       case measure=>have:=HJ16.out;have:=HJ21.out;have:=HK3.out;have:=HK4.out;omega
                       case rel=>exact⟨(wrap64 (x88_4 + 1)),(by first|rfl|(simp;done)|(simp[*];done)),H',⟨by have:=HJ16.out;have:=HJ21.out;have:=HK3.out;have:=HK4.out;omega⟩,⟨by(with_reducible repeat(first|refine qw ?_ _|refine qx ?_|refine qv ?_ _));exact BK101.out⟩,⟨by repeat(first|(with_reducible first|exact HB.out|apply G|apply J|apply qq|refine qk ?_ GE101.out)|exact HB.out)⟩⟩
                     ·rw[if_neg c84] at H
                      exact absurd H (by simp)
                    ·rw[if_neg c83] at H
                     exact absurd H (by simp)
                   ·rw[if_neg c81] at H
                    have c81b0:decide (0 < x88_4)=false:=decide_eq_false c81
                    clear c81
                    have H':=U.mk H
                    clear H
                    have p108 : 0≤(x88_4:Int):=of_decide_eq_true (by assumption)
                    have q108:x88_4 < (l0_6.length:Int):=of_decide_eq_true (by assumption)
                    obtain⟨ad108,e108,hx108_0⟩:=Kd.at_string HR0_6.out x88_4 p108 q108
                    cases e108
                    replace hx108_0:=(HB.out.cell (World.block_lt_of_cell? w _ hx108_0)).trans hx108_0
                    replace p108:=eq_true p108
                    replace q108:=eq_true q108
                    go_wp2_with (first|((with_reducible refine jw (f:=73) rfl ?_);refine goesL_ (some 94) rfl rfl Try.func73 (by kernel_rfl) rfl #[.string (rdOf ByteArray.empty l0_6 x88_4)] rfl (by(try simp only[jq0,jq1,jq2]);first|done|rfl|(simp only[jq3,jq4];rfl)) ?_;(with_reducible refine(qzq.calls k4 (rdOf ByteArray.empty l0_6 x88_4) true _ A79.out).mono ?_);rintro e w' ⟨rfl,⟨nd,rfl⟩⟩;refine⟨_,rfl,?_⟩))
                    go_roundg k4
                    case measure=>have:=HJ16.out;have:=HJ21.out;have:=HK3.out;have:=HK4.out;omega
                    case rel=>exact⟨(wrap64 (x88_4 + 1)),(by first|rfl|(simp;done)|(simp[*];done)),H',⟨by have:=HJ16.out;have:=HJ21.out;have:=HK3.out;have:=HK4.out;omega⟩,⟨by(with_reducible repeat(first|refine qw ?_ _|refine qx ?_|refine qv ?_ _));exact BK101.out⟩,⟨by repeat(first|(with_reducible first|exact HB.out|apply G|apply J|apply qq|refine qk ?_ GE101.out)|exact HB.out)⟩⟩
                  ·replace c80:=jq9.mpr c80
                   subst c80
                   have H1:(some false)=some r:=by rw[if_neg (show ¬ (false=true) by decide)] at H;exact H
                   clear H
                   have H:=H1
                   clear H1
                   obtain rfl:=Option.some.inj H
                   have p108 : 0≤(x88_4:Int):=of_decide_eq_true (by assumption)
                   have q108:x88_4 < (l0_6.length:Int):=of_decide_eq_true (by assumption)
                   obtain⟨ad108,e108,hx108_0⟩:=Kd.at_string HR0_6.out x88_4 p108 q108
                   cases e108
                   replace hx108_0:=(HB.out.cell (World.block_lt_of_cell? w _ hx108_0)).trans hx108_0
                   replace p108:=eq_true p108
                   replace q108:=eq_true q108
                   go_wp2_with (first|((with_reducible refine jw (f:=73) rfl ?_);refine goesL_ (some 94) rfl rfl Try.func73 (by kernel_rfl) rfl #[.string (rdOf ByteArray.empty l0_6 x88_4)] rfl (by(try simp only[jq0,jq1,jq2]);first|done|rfl|(simp only[jq3,jq4];rfl)) ?_;(with_reducible refine(qzq.calls k4 (rdOf ByteArray.empty l0_6 x88_4) false _ A79.out).mono ?_);rintro e w' ⟨rfl,⟨nd,rfl⟩⟩;refine⟨_,rfl,?_⟩))
                   go_ret
                   exact⟨by first|rfl|(simp[*,jv,jk] <;> rfl),by repeat(first|(with_reducible first|exact HB.out|apply G|apply J|apply qq|refine qk ?_ GE101.out)|exact HB.out)⟩
                 ·rw[if_neg c78] at H
                  exact absurd H (by simp)
                ·rw[if_neg c77] at H
                 exact absurd H (by simp)
               ·rw[if_neg c76] at H
                have c76b0:decide (x88_4 < (l0_6.length:Int))=false:=decide_eq_false c76
                clear c76
                obtain rfl:=Option.some.inj H
                go_wp2
                go_ret
                exact⟨by first|rfl|(simp[*,jv,jk] <;> rfl),by repeat(first|(with_reducible first|exact HB.out|apply G|apply J|apply qq|refine qk ?_ GE101.out)|exact HB.out)⟩
            ·rw[if_neg c74] at H
             have c74b0:((l0_6.length:Int) == (l0_5.length:Int))=false:=beq_eq_false_iff_ne.mpr c74
             have c74b1:((l0_6.length:Int) != (l0_5.length:Int))=true:=bne_iff_ne.mpr c74
             have c74b2:(l0_6.length == l0_5.length)=false:=by first|simpa using c74|(simp at c74 ⊢;omega)
             obtain rfl:=Option.some.inj H
             have hcz89_0:wr.cell? ⟨gb101,0,none⟩ = some (.int .i64 a0_0):=(qj BK101.out 0).trans rfl
             have hcz89_1:wr.cell? ⟨gb101,1,none⟩ = some (.int .i64 a0_1):=(qj BK101.out 1).trans rfl
             have hcz89_2:wr.cell? ⟨gb101,2,none⟩ = some (.int .i64 a0_2):=(qj BK101.out 2).trans rfl
             have hcz89_3:wr.cell? ⟨gb101,3,none⟩ = some (.string a0_3):=(qj BK101.out 3).trans rfl
             have hcz89_4:wr.cell? ⟨gb101,4,none⟩ = some (.string a0_4):=(qj BK101.out 4).trans rfl
             have hcz89_5:wr.cell? ⟨gb101,5,none⟩ = some (.slice A0_5 l0_5.length c0_5):=(qj BK101.out 5).trans rfl
             have hcz89_6:wr.cell? ⟨gb101,6,none⟩ = some (.slice A0_6 l0_6.length c0_6):=(qj BK101.out 6).trans rfl
             have hfz89_0:=qz BK101.out 0
             have hfz89_1:=qz BK101.out 1
             have hfz89_2:=qz BK101.out 2
             have hfz89_3:=qz BK101.out 3
             have hfz89_4:=qz BK101.out 4
             have hfz89_5:=qz BK101.out 5
             have hfz89_6:=qz BK101.out 6
             go_wp2
             go_ret
             exact⟨by first|rfl|(simp[*,jv,jk] <;> rfl),by repeat(first|(with_reducible first|exact HB.out|apply G|apply J|apply qq|refine qk ?_ GE101.out)|exact HB.out)⟩
    ·replace c21:=jq9.mpr c21
     subst c21
     have H1:(some false)=some r:=by rw[if_neg (show ¬ (false=true) by decide)] at H;exact H
     clear H
     have H:=H1
     clear H1
     obtain rfl:=Option.some.inj H
     go_wp2
     go_ret
     exact⟨by first|rfl|(simp[*,jv,jk] <;> rfl),by repeat(first|(with_reducible first|exact HB.out|apply G|apply J|apply qq|refine qk ?_ GE101.out)|exact HB.out)⟩
end Go.Proofs.Ytccbjchlcelkgaa.Pr
namespace Go.Proofs.Ytccbjchlcelkgaa.Pr
open Go.RowKit Go.Proofs.YtccbjchlcelkgaaW.PrintWords Go.Proofs.YtccbjchlcelkgaaW.PrintLast Go.Proofs.YtccbjchlcelkgaaW.PrintMore
attribute [local go_sem] max2_int min2_int max_two min_two max_three min_three max_four min_four
set_option linter.unusedVariables false
set_option linter.unusedSimpArgs false
def qqz.l0:Nat→List (S34)→List (S34)→Int→Int→Int→Int→Int→ByteArray→ByteArray→List (S34)→List ByteArray→Option (Bool)
 | 0,_,_,_,_,_,_,_,_,_,_,_=>none
 | k + 1,x3,x5,x28,x29,x116000,x116001,x116002,x116003,x116004,x116005,x116006=>if x29 < x28 then(if 0≤(wrap64 ((wrap64 ((x3.length:Int) - 1)) - x29)) then(if (wrap64 ((wrap64 ((x3.length:Int) - 1)) - x29)) < (x3.length:Int) then(if 0≤x29 then(if x29 < (x3.length:Int) then((some (([(⟨(vz x3 (wrap64 ((wrap64 ((x3.length:Int) - 1)) - x29))).f0,(vz x3 (wrap64 ((wrap64 ((x3.length:Int) - 1)) - x29))).f1,(vz x3 (wrap64 ((wrap64 ((x3.length:Int) - 1)) - x29))).f2,(vz x3 (wrap64 ((wrap64 ((x3.length:Int) - 1)) - x29))).f3⟩ : S34),(⟨(vz x3 x29).f0,(vz x3 x29).f1,(vz x3 x29).f2,(vz x3 x29).f3⟩ : S34)]:List (S34)):List (S34))).bind fun y130=>(if x5.length + y130.length < 2932031007402 then(qqz.l0 k x3 (x5 ++ y130) x28 (wrap64 (x29 + 1)) x116000 x116001 x116002 x116003 x116004 x116005 x116006) else(none))) else(none)) else(none)) else(none)) else(none)) else((wx.f k x5).bind fun bt136=>((qqv.f k bt136.1 bt136.2.1 bt136.2.2.1 bt136.2.2.2.1 bt136.2.2.2.2.1 bt136.2.2.2.2.2.1 bt136.2.2.2.2.2.2 x116000 x116001 x116002 x116003 x116004 x116005 x116006).bind fun t147=>(if t147=true then((qzz.f k x116000 x116001 x116002 x116003 x116004 x116005 x116006).bind fun t148=>(if t148=true then((wx.f k x116005).bind fun bt149=>((qqv.f k bt149.1 bt149.2.1 bt149.2.2.1 bt149.2.2.2.1 bt149.2.2.2.2.1 bt149.2.2.2.2.2.1 bt149.2.2.2.2.2.2 x116000 x116001 x116002 x116003 x116004 x116005 x116006).bind fun t160=>(some t160))) else(none))) else(none))))
def qqz.f (k:Nat) (l0:List Int):Option (Bool):=if (l0.length:Int) > 1048576 then(some true) else((qqw.f k l0).bind fun t101=>((wx.f k t101).bind fun bt104=>((qzj.f k t101).bind fun bt116=>((qqv.f k bt104.1 bt104.2.1 bt104.2.2.1 bt104.2.2.2.1 bt104.2.2.2.2.1 bt104.2.2.2.2.2.1 bt104.2.2.2.2.2.2 bt116.1 bt116.2.1 bt116.2.2.1 bt116.2.2.2.1 bt116.2.2.2.2.1 bt116.2.2.2.2.2.1 bt116.2.2.2.2.2.2).bind fun t127=>(if t127=true then(if bt104.1=0 then(some true) else(if (t101.length:Int) > 400 then(some true) else(qqz.l0 k t101 ([]:List (S34)) (t101.length:Int) 0 bt104.1 bt104.2.1 bt104.2.2.1 bt104.2.2.2.1 bt104.2.2.2.2.1 bt104.2.2.2.2.2.1 bt104.2.2.2.2.2.2))) else(none))))))
def qqz.T13:Bool × List (List Nat × List Nat):=(true,[([],[]),([],[]),([],[]),([2],[2]),([3],[3]),([],[]),([4,5],[4,5]),([1,6],[1,6]),([7],[7]),([],[]),([],[]),([9,10],[9,10]),([11],[11]),([8,12],[8,12]),([0,13],[0,13]),([14,14,0,1,2,3,4,5,6,7,8,9,10,11,12,13,14],[0,14])])
def qqz.B13:List Nat:=[0,0,0,4,12,0,60,126,254,0,0,1536,3584,8190,16383,32767]
theorem qqz.tab13:rtab .any (opsOf Try.f8 13)=qqz.T13:=by kernel_rfl
theorem qqz.bits13:waitsOk qqz.T13.2 qqz.B13=true:=by kernel_rfl
def qqz.T15:Bool × List (List Nat × List Nat):=(true,[([],[]),([0],[0]),([],[]),([1,2,1],[1,2]),([3],[3]),([4,3],[4]),([5],[5]),([6,5,5],[5,6]),([7,5],[5,7]),([5,8],[5,8])])
def qqz.B15:List Nat:=[0,1,0,7,15,31,63,127,255,511]
theorem qqz.tab15:rtab .any (opsOf Try.f8 15)=qqz.T15:=by kernel_rfl
theorem qqz.bits15:waitsOk qqz.T15.2 qqz.B15=true:=by kernel_rfl
theorem qqz.calls (k:Nat) (A0:Option Addr) (c0:Nat) (l0:List Int) (r:Bool) (w:World) (hr0:Kd.C (Kd.int .u8) w A0 l0.length l0) (hc0:l0.length≤c0) (h:qqz.f k l0=some r) :
  Calls Try.prog 8 #[.slice A0 l0.length c0] w fun e w'=>e=.returned (.bool r)∧Below w.heap.size w w':=by
 have hu58:=Try.underlying58
 have hu34:=Try.underlying34
 have HR0:=U.mk hr0
 have HC0:=U.mk hc0
 clear hr0 hc0
 have HB:=U.mk (Below.refl w.heap.size w)
 unfold qqz.f at h
 have H:=h
 clear h
 by_cases c2:(l0.length:Int) > 1048576
 ·rw[if_pos c2] at H
  have c2b0:decide (1048576 < (l0.length:Int))=true:=decide_eq_true c2
  have c2b1:decide (1048576 < l0.length)=true:=decide_eq_true (by omega)
  clear c2
  obtain rfl:=Option.some.inj H
  go_enter Try.func8,Try.ntmps8
  go_wp2
  go_ret
  exact⟨by first|rfl|(simp[*,jv,jk] <;> rfl),by repeat(first|(with_reducible first|exact HB.out|apply G|apply J|apply qq)|exact HB.out)⟩
 ·rw[if_neg c2] at H
  have c2b0:decide (1048576 < (l0.length:Int))=false:=decide_eq_false c2
  have c2b1:decide (1048576 < l0.length)=false:=decide_eq_false (by omega)
  clear c2
  replace H:=jq8.mp H
  obtain⟨t101,A30,H⟩:=H
  try dsimp only at H
  have A3:=U.mk A30
  clear A30
  replace H:=jq8.mp H
  obtain⟨⟨t104,t105,t106,t107,t108,t109,t112⟩,A40,H⟩:=H
  try dsimp only at H
  have A4:=U.mk A40
  clear A40
  replace H:=jq8.mp H
  obtain⟨⟨t116,t117,t118,t119,t120,t121,t124⟩,A50,H⟩:=H
  try dsimp only at H
  have A5:=U.mk A50
  clear A50
  replace H:=jq8.mp H
  obtain⟨t127,A60,H⟩:=H
  try dsimp only at H
  have A6:=U.mk A60
  clear A60
  by_cases c7:t127=true
  ·subst c7
   have H1:(if t104=0 then(some true) else(if (t101.length:Int) > 400 then(some true) else(qqz.l0 k t101 ([]:List (S34)) (t101.length:Int) 0 t104 t105 t106 t107 t108 t109 t112)))=some r:=by rw[if_pos rfl] at H;exact H
   clear H
   have H:=H1
   clear H1
   by_cases c8:t104=0
   ·rw[if_pos c8] at H
    have c8b0:(t104 == 0)=true:=beq_iff_eq.mpr c8
    have c8b1:(t104 != 0)=false:=bne_eq_false_iff_eq.mpr c8
    clear c8
    obtain rfl:=Option.some.inj H
    go_enter Try.func8,Try.ntmps8
    try go_wp2_with (first|((with_reducible refine jw (f:=36) rfl ?_);refine goesL_ (some 11) rfl rfl Try.func36 (by kernel_rfl) rfl #[.slice A0 l0.length c0] rfl (by(try simp only[jq0,jq1,jq2]);first|done|rfl|(simp only[jq3,jq4];rfl)) ?_;(with_reducible refine(qqw.calls k _ _ l0 t101 _ ?side1 ?side2 A3.out).mono ?_);(case side1=>solve_by_elim only[HR0.out,Kd.C_alloc,Kd.C_drewN,Kd.C_drew]);(case side2=>exact HC0.out);rintro e w9 ⟨v102,rfl,ho0,hb⟩;refine⟨_,rfl,?_⟩;have HO103:=U.mk (Kd.R_lower ho0 (zj (by solve_by_elim only[HB.out,G,J,qq])));replace HB:=U.mk (zz (by solve_by_elim only[HB.out,G,J,qq]) hb);(try clear hb ho0);obtain⟨Ao10,co10,eo10⟩:=Kd.R_slice HO103.out;subst eo10)|((with_reducible refine jw (f:=37) rfl ?_);refine goesL_ (some 13) rfl rfl Try.func37 (by kernel_rfl) rfl #[.slice Ao10 t101.length co10] rfl (by(try simp only[jq0,jq1,jq2]);first|done|rfl|(simp only[jq3,jq4];rfl)) ?_;(with_reducible refine(wx.calls k _ _ t101 t104 t105 t106 t107 t108 t109 t112 _ ?side1 ?side2 A4.out).mono ?_);(case side1=>solve_by_elim only[(Kd.R_reads' HO103.out).2.2,Kd.C_alloc,Kd.C_drewN,Kd.C_drew]);(case side2=>exact(Kd.R_reads' HO103.out).2.1);rintro e w11 ⟨v110,v113,rfl,ho0,ho1,hb⟩;refine⟨_,rfl,?_⟩;have HO111:=U.mk (Kd.R_lower (Kd.R_new' ho0 (Kd.R_lt (by solve_by_elim only[HO103.out,Kd.zv,Kd.zk,Kd.zw]))) (zj (by solve_by_elim only[HB.out,G,J,qq])));replace HO103:=U.mk (Kd.R_elder' (by solve_by_elim only[HO103.out,Kd.zv,Kd.zk,Kd.zw]) (Kd.R_base ho0) hb);have HO114:=U.mk (Kd.R_lower ho1 (zj (by solve_by_elim only[HB.out,G,J,qq])));replace HB:=U.mk (zz (by solve_by_elim only[HB.out,G,J,qq]) hb);(try clear hb ho0 ho1))|((with_reducible refine gate_dst (N:=4) rfl ?_);(try (refine gate_guard (by rfl) ?_;dsimp only));refine box_event ?hg (N:=4) ?hd (cs:=#[.int .i64 0,.int .i64 0,.int .i64 0,.string (⟨#[]⟩ : ByteArray),.string (⟨#[]⟩ : ByteArray),.slice none 0 0,.slice none 0 0]) (t:=58) ?hr ?_;(case hd=>rfl);(case hg=>rfl);(case hr=>first|(go_simp;done)|(go_simp;rfl));intro gb115 hg w12 hbox hb;replace HO103:=U.mk (Kd.R_below (by solve_by_elim only[HO103.out,Kd.zv,Kd.zk,Kd.zw]) hb);replace HO111:=U.mk (Kd.R_below (by solve_by_elim only[HO111.out,Kd.zv,Kd.zk,Kd.zw]) hb);replace HO114:=U.mk (Kd.R_below (by solve_by_elim only[HO114.out,Kd.zv,Kd.zk,Kd.zw]) hb);have BK115:=U.mk (hbox);have GW115:=U.mk ((by rw[hg];exact(zj (by solve_by_elim only[HB.out,G,J,qq])):w.heap.size≤gb115));have GE115:=U.mk ((by rw[hg];exact(zj (by solve_by_elim only[HB.out,G,J,qq])):w.heap.size≤gb115));replace HB:=U.mk (zz (by solve_by_elim only[HB.out,G,J,qq]) hb);clear hb hbox hg;have hcz13_0:w12.cell? ⟨gb115,0,none⟩ = some (.int .i64 0):=(qj BK115.out 0).trans rfl;have hcz13_1:w12.cell? ⟨gb115,1,none⟩ = some (.int .i64 0):=(qj BK115.out 1).trans rfl;have hcz13_2:w12.cell? ⟨gb115,2,none⟩ = some (.int .i64 0):=(qj BK115.out 2).trans rfl;have hcz13_3:w12.cell? ⟨gb115,3,none⟩ = some (.string (⟨#[]⟩ : ByteArray)):=(qj BK115.out 3).trans rfl;have hcz13_4:w12.cell? ⟨gb115,4,none⟩ = some (.string (⟨#[]⟩ : ByteArray)):=(qj BK115.out 4).trans rfl;have hcz13_5:w12.cell? ⟨gb115,5,none⟩ = some (.slice none 0 0):=(qj BK115.out 5).trans rfl;have hcz13_6:w12.cell? ⟨gb115,6,none⟩ = some (.slice none 0 0):=(qj BK115.out 6).trans rfl;have hfz13_0:=qz BK115.out 0;have hfz13_1:=qz BK115.out 1;have hfz13_2:=qz BK115.out 2;have hfz13_3:=qz BK115.out 3;have hfz13_4:=qz BK115.out 4;have hfz13_5:=qz BK115.out 5;have hfz13_6:=qz BK115.out 6;obtain⟨Ao14,co14,eo14⟩:=Kd.R_slice HO111.out;subst eo14;obtain⟨Ao15,co15,eo15⟩:=Kd.R_slice HO114.out;subst eo15))
    have n0_:U (Kd.R k34 34 (((((((w12.setCell ⟨gb115,0,none⟩ (.int .i64 t104)).setCell ⟨gb115,1,none⟩ (.int .i64 t105)).setCell ⟨gb115,2,none⟩ (.int .i64 t106)).setCell ⟨gb115,3,none⟩ (.string t107)).setCell ⟨gb115,4,none⟩ (.string t108)).setCell ⟨gb115,5,none⟩ (.slice Ao14 t109.length co14)).setCell ⟨gb115,6,none⟩ (.slice Ao15 t112.length co15)) w.heap.size (fun k_=>some k_≠(.slice Ao14 t109.length co14:Value).ownBlock) (.slice Ao10 t101.length co10) t101):=⟨by(with_reducible repeat(first|apply Kd.zv|apply Kd.zk|apply Kd.zw));exact Kd.R_mono (Kd.R_far (p:=⟨gb115,6,none⟩) (Kd.R_far (p:=⟨gb115,5,none⟩) (Kd.R_far (p:=⟨gb115,4,none⟩) (Kd.R_far (p:=⟨gb115,3,none⟩) (Kd.R_far (p:=⟨gb115,2,none⟩) (Kd.R_far (p:=⟨gb115,1,none⟩) (Kd.R_far (p:=⟨gb115,0,none⟩) (Kd.R_types HO103.out BK115.out (by decide)) (fun _ hk=>hk.2) (.int .i64 t104)) (fun _ hk=>hk.2) (.int .i64 t105)) (fun _ hk=>hk.2) (.int .i64 t106)) (fun _ hk=>hk.2) (.string t107)) (fun _ hk=>hk.2) (.string t108)) (fun _ hk=>hk.2) (.slice Ao14 t109.length co14)) (fun _ hk=>hk.2) (.slice Ao15 t112.length co15)) (fun _ hk=>hk.1.2)⟩
    have n1_:U (Kd.R k34 34 (((((((w12.setCell ⟨gb115,0,none⟩ (.int .i64 t104)).setCell ⟨gb115,1,none⟩ (.int .i64 t105)).setCell ⟨gb115,2,none⟩ (.int .i64 t106)).setCell ⟨gb115,3,none⟩ (.string t107)).setCell ⟨gb115,4,none⟩ (.string t108)).setCell ⟨gb115,5,none⟩ (.slice Ao14 t109.length co14)).setCell ⟨gb115,6,none⟩ (.slice Ao15 t112.length co15)) w.heap.size (fun k_=>some k_≠(.slice Ao10 t101.length co10:Value).ownBlock) (.slice Ao14 t109.length co14) t109):=⟨by(with_reducible repeat(first|apply Kd.zv|apply Kd.zk|apply Kd.zw));exact Kd.R_mono (Kd.R_far (p:=⟨gb115,6,none⟩) (Kd.R_far (p:=⟨gb115,5,none⟩) (Kd.R_far (p:=⟨gb115,4,none⟩) (Kd.R_far (p:=⟨gb115,3,none⟩) (Kd.R_far (p:=⟨gb115,2,none⟩) (Kd.R_far (p:=⟨gb115,1,none⟩) (Kd.R_far (p:=⟨gb115,0,none⟩) (Kd.R_types HO111.out BK115.out (by decide)) (fun _ hk=>hk.2) (.int .i64 t104)) (fun _ hk=>hk.2) (.int .i64 t105)) (fun _ hk=>hk.2) (.int .i64 t106)) (fun _ hk=>hk.2) (.string t107)) (fun _ hk=>hk.2) (.string t108)) (fun _ hk=>hk.2) (.slice Ao14 t109.length co14)) (fun _ hk=>hk.2) (.slice Ao15 t112.length co15)) (fun _ hk=>hk.1.2)⟩
    have n2_:U (Kd.R Kd.string 9 (((((((w12.setCell ⟨gb115,0,none⟩ (.int .i64 t104)).setCell ⟨gb115,1,none⟩ (.int .i64 t105)).setCell ⟨gb115,2,none⟩ (.int .i64 t106)).setCell ⟨gb115,3,none⟩ (.string t107)).setCell ⟨gb115,4,none⟩ (.string t108)).setCell ⟨gb115,5,none⟩ (.slice Ao14 t109.length co14)).setCell ⟨gb115,6,none⟩ (.slice Ao15 t112.length co15)) w.heap.size (fun _=>True) (.slice Ao15 t112.length co15) t112):=⟨by(with_reducible repeat(first|apply Kd.zv|apply Kd.zk|apply Kd.zw));exact Kd.R_mono (Kd.R_far (p:=⟨gb115,6,none⟩) (Kd.R_far (p:=⟨gb115,5,none⟩) (Kd.R_far (p:=⟨gb115,4,none⟩) (Kd.R_far (p:=⟨gb115,3,none⟩) (Kd.R_far (p:=⟨gb115,2,none⟩) (Kd.R_far (p:=⟨gb115,1,none⟩) (Kd.R_far (p:=⟨gb115,0,none⟩) (Kd.R_types HO114.out BK115.out (by decide)) (fun _ hk=>hk.2) (.int .i64 t104)) (fun _ hk=>hk.2) (.int .i64 t105)) (fun _ hk=>hk.2) (.int .i64 t106)) (fun _ hk=>hk.2) (.string t107)) (fun _ hk=>hk.2) (.string t108)) (fun _ hk=>hk.2) (.slice Ao14 t109.length co14)) (fun _ hk=>hk.2) (.slice Ao15 t112.length co15)) (fun _ hk=>trivial)⟩
    have n3_:U ((((((((w12.setCell ⟨gb115,0,none⟩ (.int .i64 t104)).setCell ⟨gb115,1,none⟩ (.int .i64 t105)).setCell ⟨gb115,2,none⟩ (.int .i64 t106)).setCell ⟨gb115,3,none⟩ (.string t107)).setCell ⟨gb115,4,none⟩ (.string t108)).setCell ⟨gb115,5,none⟩ (.slice Ao14 t109.length co14)).setCell ⟨gb115,6,none⟩ (.slice Ao15 t112.length co15)).heap[gb115]? = some (.cells #[.int .i64 t104,.int .i64 t105,.int .i64 t106,.string t107,.string t108,.slice Ao14 t109.length co14,.slice Ao15 t112.length co15] 58 (0,0))):=⟨by(with_reducible repeat(first|refine qw ?_ _|refine qx ?_|refine qv ?_ _));refine blk_put (cs:=#[.int .i64 t104,.int .i64 t105,.int .i64 t106,.string t107,.string t108,.slice Ao14 t109.length co14,.slice none 0 0]) ?_ 6 _ rfl;(with_reducible repeat(first|refine qw ?_ _|refine qx ?_|refine qv ?_ _));refine blk_put (cs:=#[.int .i64 t104,.int .i64 t105,.int .i64 t106,.string t107,.string t108,.slice none 0 0,.slice none 0 0]) ?_ 5 _ rfl;(with_reducible repeat(first|refine qw ?_ _|refine qx ?_|refine qv ?_ _));refine blk_put (cs:=#[.int .i64 t104,.int .i64 t105,.int .i64 t106,.string t107,.string (⟨#[]⟩ : ByteArray),.slice none 0 0,.slice none 0 0]) ?_ 4 _ rfl;(with_reducible repeat(first|refine qw ?_ _|refine qx ?_|refine qv ?_ _));refine blk_put (cs:=#[.int .i64 t104,.int .i64 t105,.int .i64 t106,.string (⟨#[]⟩ : ByteArray),.string (⟨#[]⟩ : ByteArray),.slice none 0 0,.slice none 0 0]) ?_ 3 _ rfl;(with_reducible repeat(first|refine qw ?_ _|refine qx ?_|refine qv ?_ _));refine blk_put (cs:=#[.int .i64 t104,.int .i64 t105,.int .i64 0,.string (⟨#[]⟩ : ByteArray),.string (⟨#[]⟩ : ByteArray),.slice none 0 0,.slice none 0 0]) ?_ 2 _ rfl;(with_reducible repeat(first|refine qw ?_ _|refine qx ?_|refine qv ?_ _));refine blk_put (cs:=#[.int .i64 t104,.int .i64 0,.int .i64 0,.string (⟨#[]⟩ : ByteArray),.string (⟨#[]⟩ : ByteArray),.slice none 0 0,.slice none 0 0]) ?_ 1 _ rfl;(with_reducible repeat(first|refine qw ?_ _|refine qx ?_|refine qv ?_ _));refine blk_put (cs:=#[.int .i64 0,.int .i64 0,.int .i64 0,.string (⟨#[]⟩ : ByteArray),.string (⟨#[]⟩ : ByteArray),.slice none 0 0,.slice none 0 0]) ?_ 0 _ rfl;(with_reducible repeat(first|refine qw ?_ _|refine qx ?_|refine qv ?_ _));exact BK115.out⟩
    have n4_:U (Below w.heap.size w (((((((w12.setCell ⟨gb115,0,none⟩ (.int .i64 t104)).setCell ⟨gb115,1,none⟩ (.int .i64 t105)).setCell ⟨gb115,2,none⟩ (.int .i64 t106)).setCell ⟨gb115,3,none⟩ (.string t107)).setCell ⟨gb115,4,none⟩ (.string t108)).setCell ⟨gb115,5,none⟩ (.slice Ao14 t109.length co14)).setCell ⟨gb115,6,none⟩ (.slice Ao15 t112.length co15))):=⟨by repeat(first|(with_reducible first|exact HB.out|apply G|apply J|apply qq|refine qk ?_ GE115.out)|exact HB.out)⟩
    (try clear HO103)
    (try clear HO111)
    (try clear HO114)
    (try clear BK115)
    (try clear HB)
    generalize (((((((w12.setCell ⟨gb115,0,none⟩ (.int .i64 t104)).setCell ⟨gb115,1,none⟩ (.int .i64 t105)).setCell ⟨gb115,2,none⟩ (.int .i64 t106)).setCell ⟨gb115,3,none⟩ (.string t107)).setCell ⟨gb115,4,none⟩ (.string t108)).setCell ⟨gb115,5,none⟩ (.slice Ao14 t109.length co14)).setCell ⟨gb115,6,none⟩ (.slice Ao15 t112.length co15))=w16 at n0_ n1_ n2_ n3_ n4_ ⊢
    have HO103:=n0_
    have HO111:=n1_
    have HO114:=n2_
    have BK115:=n3_
    have HB:=n4_
    clear n0_ n1_ n2_ n3_ n4_
    replace HO103:=U.mk (Kd.zw HO103.out)
    replace HO111:=U.mk (Kd.zw HO111.out)
    replace HO114:=U.mk (Kd.zw HO114.out)
    replace BK115:=U.mk (qx BK115.out)
    replace HB:=U.mk (qq HB.out)
    refine start_ (n:=5) (S:=fun w'=>w'.cell? ⟨gb115,0,none⟩ = some (.int .i64 t104)∧w'.cell? ⟨gb115,1,none⟩ = some (.int .i64 t105)∧w'.cell? ⟨gb115,2,none⟩ = some (.int .i64 t106)∧w'.cell? ⟨gb115,3,none⟩ = some (.string t107)∧w'.cell? ⟨gb115,4,none⟩ = some (.string t108)∧w'.cell? ⟨gb115,5,none⟩ = some (.slice Ao14 t109.length co14)∧w'.cell? ⟨gb115,6,none⟩ = some (.slice Ao15 t112.length co15)) (ds:=[]) #[Y,Y,Y,Y,Y] (by kernel_rfl) rfl rfl ⟨(qj BK115.out 0).trans rfl,(qj BK115.out 1).trans rfl,(qj BK115.out 2).trans rfl,(qj BK115.out 3).trans rfl,(qj BK115.out 4).trans rfl,(qj BK115.out 5).trans rfl,(qj BK115.out 6).trans rfl⟩ (fun hHeld=>?_)
    generalize w16.drew=w17 at HO103 HO111 HO114 BK115 HB hHeld ⊢
    refine pure_ (i:=1) (N:=some 15) (v:=?_) (a':=?_) #[Y,Z,Y,Y,Y] rfl rfl (by kernel_rfl) (fun _ _ _ h=>h) (Or.inl ⟨by rfl,?_⟩) ?_ ?_
    rotate_left
    ·intro w'
     go_simp
     with_reducible rfl
    rotate_left
    ·simp only[Act.put,jq5,jq6,jq7,i64_w,i32_w]
     rfl
    refine take_ (i:=0) (N:=some 14) (v:=?_) (a':=?_) #[Z,Z,Y,Y,Y] rfl rfl (by kernel_rfl) (fun _ _ _ h=>h) (Or.inl ⟨by rfl,?_⟩) hHeld ?_ ?_
    rotate_left
    ·rintro w' ⟨s0,s1,s2,s3,s4,s5,s6⟩
     go_simp
     with_reducible rfl
    rotate_left
    ·simp only[Act.put,jq5,jq6,jq7,i64_w,i32_w]
     rfl
    refine one_ (i:=2) (N:=some 16) #[Z,Z,Z,Y,Y] rfl rfl (by kernel_rfl) (by decide) (fun K hK=>?_)
    refine goes_ Try.func39 (by kernel_rfl) rfl #[.slice Ao10 t101.length co10] (by rfl) rfl rfl (by(try simp only[jq0,jq1,jq2]);first|done|rfl|(simp only[jq3,jq4];rfl)) ?_
    with_reducible refine(qzj.calls k _ _ t101 t116 t117 t118 t119 t120 t121 t124 _ ?side1 ?side2 A5.out).mono ?_
    (case side1=>solve_by_elim only[(Kd.R_reads' HO103.out).2.2,Kd.C_alloc,Kd.C_drewN,Kd.C_drew])
    (case side2=>exact(Kd.R_reads' HO103.out).2.1)
    rintro e w18 ⟨v122,v125,rfl,ho0,ho1,hb⟩
    refine⟨_,rfl,?_⟩
    have HO123:=U.mk (Kd.R_lower (Kd.R_new' (Kd.R_new' ho0 (Kd.R_lt (by solve_by_elim only[HO103.out,Kd.zv,Kd.zk,Kd.zw]))) (Kd.R_lt (by solve_by_elim only[HO111.out,Kd.zv,Kd.zk,Kd.zw]))) (zj (by solve_by_elim (maxDepth:=20) only[HB.out,G,J,qq,qk,GE115.out])))
    replace HO103:=U.mk (Kd.R_elder' (by solve_by_elim only[HO103.out,Kd.zv,Kd.zk,Kd.zw]) (Kd.R_base ho0) hb)
    replace HO111:=U.mk (Kd.R_elder' (by solve_by_elim only[HO111.out,Kd.zv,Kd.zk,Kd.zw]) (Kd.R_base ho0) hb)
    have HO126:=U.mk (Kd.R_lower (Kd.R_new' ho1 (Kd.R_lt (by solve_by_elim only[HO114.out,Kd.zv,Kd.zk,Kd.zw]))) (zj (by solve_by_elim (maxDepth:=20) only[HB.out,G,J,qq,qk,GE115.out])))
    replace HO114:=U.mk (Kd.R_elder' (by solve_by_elim only[HO114.out,Kd.zv,Kd.zk,Kd.zw]) (Kd.R_base ho1) hb)
    replace BK115:=U.mk (kv (g:=gb115) (o:=.cells #[.int .i64 t104,.int .i64 t105,.int .i64 t106,.string t107,.string t108,.slice Ao14 t109.length co14,.slice Ao15 t112.length co15] 58 (0,0)) (by solve_by_elim only[BK115.out,qw,qx,qv]) hb)
    replace HB:=U.mk (zz (by solve_by_elim (maxDepth:=20) only[HB.out,G,J,qq,qk,GE115.out]) hb)
    (try clear hb)
    (try clear hb2)
    (try clear hk)
    (try clear hi)
    (try clear ho0)
    (try clear ho1)
    obtain⟨Ao19,co19,eo19⟩:=Kd.R_slice HO123.out
    (first|subst eo19|(injection eo19 with f1_ f2_ f3_;have f4_:=f1_.symm;have f5_:=f3_.symm;clear f1_ f2_ f3_;subst f4_;subst f5_))
    obtain⟨Ao20,co20,eo20⟩:=Kd.R_slice HO126.out
    (first|subst eo20|(injection eo20 with f1_ f2_ f3_;have f4_:=f1_.symm;have f5_:=f3_.symm;clear f1_ f2_ f3_;subst f4_;subst f5_))
    refine hK.out _ _ ⟨(qj BK115.out 0).trans rfl,(qj BK115.out 1).trans rfl,(qj BK115.out 2).trans rfl,(qj BK115.out 3).trans rfl,(qj BK115.out 4).trans rfl,(qj BK115.out 5).trans rfl,(qj BK115.out 6).trans rfl⟩ (fun hHeld=>?_)
    clear hK K
    refine norm_ (a':=?_) ?_ ?_
    rotate_left
    ·show Act.put _ (some 16) _=_
     simp only[Act.put,jq5,jq6,jq7,i64_w,i32_w]
     rfl
    refine one_ (i:=3) (N:=some 17) #[Z,Z,Z,Z,Y] rfl rfl (by kernel_rfl) (by decide) (fun K hK=>?_)
    refine goes_ Try.func38 (by kernel_rfl) rfl #[.agg #[.int .i64 t104,.int .i64 t105,.int .i64 t106,.string t107,.string t108,.slice Ao14 t109.length co14,.slice Ao15 t112.length co15],.agg #[.int .i64 t116,.int .i64 t117,.int .i64 t118,.string t119,.string t120,.slice Ao19 t121.length co19,.slice Ao20 t124.length co20]] (by rfl) rfl rfl (by(try simp only[jq0,jq1,jq2]);first|done|rfl|(simp only[jq3,jq4];rfl)) ?_
    with_reducible refine(qqv.calls k t104 t105 t106 t107 t108 _ _ t109 _ _ t112 t116 t117 t118 t119 t120 _ _ t121 _ _ t124 true _ ?side1 ?side2 ?side3 ?side4 ?side5 ?side6 ?side7 ?side8 A6.out).mono ?_
    (case side1=>solve_by_elim only[(Kd.R_reads' HO111.out).2.2,Kd.C_alloc,Kd.C_drewN,Kd.C_drew])
    (case side2=>exact(Kd.R_reads' HO111.out).2.1)
    (case side3=>solve_by_elim only[(Kd.R_reads' HO114.out).2.2,Kd.C_alloc,Kd.C_drewN,Kd.C_drew])
    (case side4=>exact(Kd.R_reads' HO114.out).2.1)
    (case side5=>solve_by_elim only[(Kd.R_reads' HO123.out).2.2,Kd.C_alloc,Kd.C_drewN,Kd.C_drew])
    (case side6=>exact(Kd.R_reads' HO123.out).2.1)
    (case side7=>solve_by_elim only[(Kd.R_reads' HO126.out).2.2,Kd.C_alloc,Kd.C_drewN,Kd.C_drew])
    (case side8=>exact(Kd.R_reads' HO126.out).2.1)
    rintro e w21 ⟨rfl,hb⟩
    refine⟨_,rfl,?_⟩
    replace HO103:=U.mk (Kd.R_below (by solve_by_elim only[HO103.out,Kd.zv,Kd.zk,Kd.zw]) hb)
    replace HO111:=U.mk (Kd.R_below (by solve_by_elim only[HO111.out,Kd.zv,Kd.zk,Kd.zw]) hb)
    replace HO114:=U.mk (Kd.R_below (by solve_by_elim only[HO114.out,Kd.zv,Kd.zk,Kd.zw]) hb)
    replace HO123:=U.mk (Kd.R_below (by solve_by_elim only[HO123.out,Kd.zv,Kd.zk,Kd.zw]) hb)
    replace HO126:=U.mk (Kd.R_below (by solve_by_elim only[HO126.out,Kd.zv,Kd.zk,Kd.zw]) hb)
    replace BK115:=U.mk (kv (g:=gb115) (o:=.cells #[.int .i64 t104,.int .i64 t105,.int .i64 t106,.string t107,.string t108,.slice Ao14 t109.length co14,.slice Ao15 t112.length co15] 58 (0,0)) (by solve_by_elim only[BK115.out,qw,qx,qv]) hb)
    replace HB:=U.mk (zz (by solve_by_elim (maxDepth:=20) only[HB.out,G,J,qq,qk,GE115.out]) hb)
    (try clear hb)
    (try clear hb2)
    (try clear hk)
    (try clear hi)
    refine hK.out _ _ ⟨(qj BK115.out 0).trans rfl,(qj BK115.out 1).trans rfl,(qj BK115.out 2).trans rfl,(qj BK115.out 3).trans rfl,(qj BK115.out 4).trans rfl,(qj BK115.out 5).trans rfl,(qj BK115.out 6).trans rfl⟩ (fun hHeld=>?_)
    clear hK K
    refine norm_ (a':=?_) ?_ ?_
    rotate_left
    ·show Act.put _ (some 17) _=_
     simp only[Act.put,jq5,jq6,jq7,i64_w,i32_w]
     rfl
    refine pure_ (i:=4) (N:=some 18) (v:=?_) (a':=?_) #[Z,Z,Z,Z,Z] rfl rfl (by kernel_rfl) (fun _ _ _ h=>h) (Or.inl ⟨by rfl,?_⟩) ?_ ?_
    rotate_left
    ·intro w'
     go_simp
     with_reducible rfl
    rotate_left
    ·simp only[Act.put,jq5,jq6,jq7,i64_w,i32_w]
     rfl
    refine done_ (by kernel_rfl) ?_
    have hcz22_0:w21.cell? ⟨gb115,0,none⟩ = some (.int .i64 t104):=(qj BK115.out 0).trans rfl
    have hcz22_1:w21.cell? ⟨gb115,1,none⟩ = some (.int .i64 t105):=(qj BK115.out 1).trans rfl
    have hcz22_2:w21.cell? ⟨gb115,2,none⟩ = some (.int .i64 t106):=(qj BK115.out 2).trans rfl
    have hcz22_3:w21.cell? ⟨gb115,3,none⟩ = some (.string t107):=(qj BK115.out 3).trans rfl
    have hcz22_4:w21.cell? ⟨gb115,4,none⟩ = some (.string t108):=(qj BK115.out 4).trans rfl
    have hcz22_5:w21.cell? ⟨gb115,5,none⟩ = some (.slice Ao14 t109.length co14):=(qj BK115.out 5).trans rfl
    have hcz22_6:w21.cell? ⟨gb115,6,none⟩ = some (.slice Ao15 t112.length co15):=(qj BK115.out 6).trans rfl
    have hfz22_0:=qz BK115.out 0
    have hfz22_1:=qz BK115.out 1
    have hfz22_2:=qz BK115.out 2
    have hfz22_3:=qz BK115.out 3
    have hfz22_4:=qz BK115.out 4
    have hfz22_5:=qz BK115.out 5
    have hfz22_6:=qz BK115.out 6
    try go_wp2
    go_ret
    exact⟨by first|rfl|(simp[*,jv,jk] <;> rfl),by repeat(first|(with_reducible first|exact HB.out|apply G|apply J|apply qq|refine qk ?_ GE115.out)|exact HB.out)⟩
   ·rw[if_neg c8] at H
    have c8b0:(t104 == 0)=false:=beq_eq_false_iff_ne.mpr c8
    have c8b1:(t104 != 0)=true:=bne_iff_ne.mpr c8
    by_cases c23:(t101.length:Int) > 400
    ·rw[if_pos c23] at H
     have c23b0:decide (400 < (t101.length:Int))=true:=decide_eq_true c23
     have c23b1:decide (400 < t101.length)=true:=decide_eq_true (by omega)
     clear c23
     obtain rfl:=Option.some.inj H
     go_enter Try.func8,Try.ntmps8
     try go_wp2_with (first|((with_reducible refine jw (f:=36) rfl ?_);refine goesL_ (some 11) rfl rfl Try.func36 (by kernel_rfl) rfl #[.slice A0 l0.length c0] rfl (by(try simp only[jq0,jq1,jq2]);first|done|rfl|(simp only[jq3,jq4];rfl)) ?_;(with_reducible refine(qqw.calls k _ _ l0 t101 _ ?side1 ?side2 A3.out).mono ?_);(case side1=>solve_by_elim only[HR0.out,Kd.C_alloc,Kd.C_drewN,Kd.C_drew]);(case side2=>exact HC0.out);rintro e w24 ⟨v102,rfl,ho0,hb⟩;refine⟨_,rfl,?_⟩;have HO103:=U.mk (Kd.R_lower ho0 (zj (by solve_by_elim only[HB.out,G,J,qq])));replace HB:=U.mk (zz (by solve_by_elim only[HB.out,G,J,qq]) hb);(try clear hb ho0);obtain⟨Ao25,co25,eo25⟩:=Kd.R_slice HO103.out;subst eo25)|((with_reducible refine jw (f:=37) rfl ?_);refine goesL_ (some 13) rfl rfl Try.func37 (by kernel_rfl) rfl #[.slice Ao25 t101.length co25] rfl (by(try simp only[jq0,jq1,jq2]);first|done|rfl|(simp only[jq3,jq4];rfl)) ?_;(with_reducible refine(wx.calls k _ _ t101 t104 t105 t106 t107 t108 t109 t112 _ ?side1 ?side2 A4.out).mono ?_);(case side1=>solve_by_elim only[(Kd.R_reads' HO103.out).2.2,Kd.C_alloc,Kd.C_drewN,Kd.C_drew]);(case side2=>exact(Kd.R_reads' HO103.out).2.1);rintro e w26 ⟨v110,v113,rfl,ho0,ho1,hb⟩;refine⟨_,rfl,?_⟩;have HO111:=U.mk (Kd.R_lower (Kd.R_new' ho0 (Kd.R_lt (by solve_by_elim only[HO103.out,Kd.zv,Kd.zk,Kd.zw]))) (zj (by solve_by_elim only[HB.out,G,J,qq])));replace HO103:=U.mk (Kd.R_elder' (by solve_by_elim only[HO103.out,Kd.zv,Kd.zk,Kd.zw]) (Kd.R_base ho0) hb);have HO114:=U.mk (Kd.R_lower ho1 (zj (by solve_by_elim only[HB.out,G,J,qq])));replace HB:=U.mk (zz (by solve_by_elim only[HB.out,G,J,qq]) hb);(try clear hb ho0 ho1))|((with_reducible refine gate_dst (N:=4) rfl ?_);(try (refine gate_guard (by rfl) ?_;dsimp only));refine box_event ?hg (N:=4) ?hd (cs:=#[.int .i64 0,.int .i64 0,.int .i64 0,.string (⟨#[]⟩ : ByteArray),.string (⟨#[]⟩ : ByteArray),.slice none 0 0,.slice none 0 0]) (t:=58) ?hr ?_;(case hd=>rfl);(case hg=>rfl);(case hr=>first|(go_simp;done)|(go_simp;rfl));intro gb115 hg w27 hbox hb;replace HO103:=U.mk (Kd.R_below (by solve_by_elim only[HO103.out,Kd.zv,Kd.zk,Kd.zw]) hb);replace HO111:=U.mk (Kd.R_below (by solve_by_elim only[HO111.out,Kd.zv,Kd.zk,Kd.zw]) hb);replace HO114:=U.mk (Kd.R_below (by solve_by_elim only[HO114.out,Kd.zv,Kd.zk,Kd.zw]) hb);have BK115:=U.mk (hbox);have GW115:=U.mk ((by rw[hg];exact(zj (by solve_by_elim only[HB.out,G,J,qq])):w.heap.size≤gb115));have GE115:=U.mk ((by rw[hg];exact(zj (by solve_by_elim only[HB.out,G,J,qq])):w.heap.size≤gb115));replace HB:=U.mk (zz (by solve_by_elim only[HB.out,G,J,qq]) hb);clear hb hbox hg;have hcz28_0:w27.cell? ⟨gb115,0,none⟩ = some (.int .i64 0):=(qj BK115.out 0).trans rfl;have hcz28_1:w27.cell? ⟨gb115,1,none⟩ = some (.int .i64 0):=(qj BK115.out 1).trans rfl;have hcz28_2:w27.cell? ⟨gb115,2,none⟩ = some (.int .i64 0):=(qj BK115.out 2).trans rfl;have hcz28_3:w27.cell? ⟨gb115,3,none⟩ = some (.string (⟨#[]⟩ : ByteArray)):=(qj BK115.out 3).trans rfl;have hcz28_4:w27.cell? ⟨gb115,4,none⟩ = some (.string (⟨#[]⟩ : ByteArray)):=(qj BK115.out 4).trans rfl;have hcz28_5:w27.cell? ⟨gb115,5,none⟩ = some (.slice none 0 0):=(qj BK115.out 5).trans rfl;have hcz28_6:w27.cell? ⟨gb115,6,none⟩ = some (.slice none 0 0):=(qj BK115.out 6).trans rfl;have hfz28_0:=qz BK115.out 0;have hfz28_1:=qz BK115.out 1;have hfz28_2:=qz BK115.out 2;have hfz28_3:=qz BK115.out 3;have hfz28_4:=qz BK115.out 4;have hfz28_5:=qz BK115.out 5;have hfz28_6:=qz BK115.out 6;obtain⟨Ao29,co29,eo29⟩:=Kd.R_slice HO111.out;subst eo29;obtain⟨Ao30,co30,eo30⟩:=Kd.R_slice HO114.out;subst eo30))
     have n0_:U (Kd.R k34 34 (((((((w27.setCell ⟨gb115,0,none⟩ (.int .i64 t104)).setCell ⟨gb115,1,none⟩ (.int .i64 t105)).setCell ⟨gb115,2,none⟩ (.int .i64 t106)).setCell ⟨gb115,3,none⟩ (.string t107)).setCell ⟨gb115,4,none⟩ (.string t108)).setCell ⟨gb115,5,none⟩ (.slice Ao29 t109.length co29)).setCell ⟨gb115,6,none⟩ (.slice Ao30 t112.length co30)) w.heap.size (fun k_=>some k_≠(.slice Ao29 t109.length co29:Value).ownBlock) (.slice Ao25 t101.length co25) t101):=⟨by(with_reducible repeat(first|apply Kd.zv|apply Kd.zk|apply Kd.zw));exact Kd.R_mono (Kd.R_far (p:=⟨gb115,6,none⟩) (Kd.R_far (p:=⟨gb115,5,none⟩) (Kd.R_far (p:=⟨gb115,4,none⟩) (Kd.R_far (p:=⟨gb115,3,none⟩) (Kd.R_far (p:=⟨gb115,2,none⟩) (Kd.R_far (p:=⟨gb115,1,none⟩) (Kd.R_far (p:=⟨gb115,0,none⟩) (Kd.R_types HO103.out BK115.out (by decide)) (fun _ hk=>hk.2) (.int .i64 t104)) (fun _ hk=>hk.2) (.int .i64 t105)) (fun _ hk=>hk.2) (.int .i64 t106)) (fun _ hk=>hk.2) (.string t107)) (fun _ hk=>hk.2) (.string t108)) (fun _ hk=>hk.2) (.slice Ao29 t109.length co29)) (fun _ hk=>hk.2) (.slice Ao30 t112.length co30)) (fun _ hk=>hk.1.2)⟩
     have n1_:U (Kd.R k34 34 (((((((w27.setCell ⟨gb115,0,none⟩ (.int .i64 t104)).setCell ⟨gb115,1,none⟩ (.int .i64 t105)).setCell ⟨gb115,2,none⟩ (.int .i64 t106)).setCell ⟨gb115,3,none⟩ (.string t107)).setCell ⟨gb115,4,none⟩ (.string t108)).setCell ⟨gb115,5,none⟩ (.slice Ao29 t109.length co29)).setCell ⟨gb115,6,none⟩ (.slice Ao30 t112.length co30)) w.heap.size (fun k_=>some k_≠(.slice Ao25 t101.length co25:Value).ownBlock) (.slice Ao29 t109.length co29) t109):=⟨by(with_reducible repeat(first|apply Kd.zv|apply Kd.zk|apply Kd.zw));exact Kd.R_mono (Kd.R_far (p:=⟨gb115,6,none⟩) (Kd.R_far (p:=⟨gb115,5,none⟩) (Kd.R_far (p:=⟨gb115,4,none⟩) (Kd.R_far (p:=⟨gb115,3,none⟩) (Kd.R_far (p:=⟨gb115,2,none⟩) (Kd.R_far (p:=⟨gb115,1,none⟩) (Kd.R_far (p:=⟨gb115,0,none⟩) (Kd.R_types HO111.out BK115.out (by decide)) (fun _ hk=>hk.2) (.int .i64 t104)) (fun _ hk=>hk.2) (.int .i64 t105)) (fun _ hk=>hk.2) (.int .i64 t106)) (fun _ hk=>hk.2) (.string t107)) (fun _ hk=>hk.2) (.string t108)) (fun _ hk=>hk.2) (.slice Ao29 t109.length co29)) (fun _ hk=>hk.2) (.slice Ao30 t112.length co30)) (fun _ hk=>hk.1.2)⟩
     have n2_:U (Kd.R Kd.string 9 (((((((w27.setCell ⟨gb115,0,none⟩ (.int .i64 t104)).setCell ⟨gb115,1,none⟩ (.int .i64 t105)).setCell ⟨gb115,2,none⟩ (.int .i64 t106)).setCell ⟨gb115,3,none⟩ (.string t107)).setCell ⟨gb115,4,none⟩ (.string t108)).setCell ⟨gb115,5,none⟩ (.slice Ao29 t109.length co29)).setCell ⟨gb115,6,none⟩ (.slice Ao30 t112.length co30)) w.heap.size (fun _=>True) (.slice Ao30 t112.length co30) t112):=⟨by(with_reducible repeat(first|apply Kd.zv|apply Kd.zk|apply Kd.zw));exact Kd.R_mono (Kd.R_far (p:=⟨gb115,6,none⟩) (Kd.R_far (p:=⟨gb115,5,none⟩) (Kd.R_far (p:=⟨gb115,4,none⟩) (Kd.R_far (p:=⟨gb115,3,none⟩) (Kd.R_far (p:=⟨gb115,2,none⟩) (Kd.R_far (p:=⟨gb115,1,none⟩) (Kd.R_far (p:=⟨gb115,0,none⟩) (Kd.R_types HO114.out BK115.out (by decide)) (fun _ hk=>hk.2) (.int .i64 t104)) (fun _ hk=>hk.2) (.int .i64 t105)) (fun _ hk=>hk.2) (.int .i64 t106)) (fun _ hk=>hk.2) (.string t107)) (fun _ hk=>hk.2) (.string t108)) (fun _ hk=>hk.2) (.slice Ao29 t109.length co29)) (fun _ hk=>hk.2) (.slice Ao30 t112.length co30)) (fun _ hk=>trivial)⟩
     have n3_:U ((((((((w27.setCell ⟨gb115,0,none⟩ (.int .i64 t104)).setCell ⟨gb115,1,none⟩ (.int .i64 t105)).setCell ⟨gb115,2,none⟩ (.int .i64 t106)).setCell ⟨gb115,3,none⟩ (.string t107)).setCell ⟨gb115,4,none⟩ (.string t108)).setCell ⟨gb115,5,none⟩ (.slice Ao29 t109.length co29)).setCell ⟨gb115,6,none⟩ (.slice Ao30 t112.length co30)).heap[gb115]? = some (.cells #[.int .i64 t104,.int .i64 t105,.int .i64 t106,.string t107,.string t108,.slice Ao29 t109.length co29,.slice Ao30 t112.length co30] 58 (0,0))):=⟨by(with_reducible repeat(first|refine qw ?_ _|refine qx ?_|refine qv ?_ _));refine blk_put (cs:=#[.int .i64 t104,.int .i64 t105,.int .i64 t106,.string t107,.string t108,.slice Ao29 t109.length co29,.slice none 0 0]) ?_ 6 _ rfl;(with_reducible repeat(first|refine qw ?_ _|refine qx ?_|refine qv ?_ _));refine blk_put (cs:=#[.int .i64 t104,.int .i64 t105,.int .i64 t106,.string t107,.string t108,.slice none 0 0,.slice none 0 0]) ?_ 5 _ rfl;(with_reducible repeat(first|refine qw ?_ _|refine qx ?_|refine qv ?_ _));refine blk_put (cs:=#[.int .i64 t104,.int .i64 t105,.int .i64 t106,.string t107,.string (⟨#[]⟩ : ByteArray),.slice none 0 0,.slice none 0 0]) ?_ 4 _ rfl;(with_reducible repeat(first|refine qw ?_ _|refine qx ?_|refine qv ?_ _));refine blk_put (cs:=#[.int .i64 t104,.int .i64 t105,.int .i64 t106,.string (⟨#[]⟩ : ByteArray),.string (⟨#[]⟩ : ByteArray),.slice none 0 0,.slice none 0 0]) ?_ 3 _ rfl;(with_reducible repeat(first|refine qw ?_ _|refine qx ?_|refine qv ?_ _));refine blk_put (cs:=#[.int .i64 t104,.int .i64 t105,.int .i64 0,.string (⟨#[]⟩ : ByteArray),.string (⟨#[]⟩ : ByteArray),.slice none 0 0,.slice none 0 0]) ?_ 2 _ rfl;(with_reducible repeat(first|refine qw ?_ _|refine qx ?_|refine qv ?_ _));refine blk_put (cs:=#[.int .i64 t104,.int .i64 0,.int .i64 0,.string (⟨#[]⟩ : ByteArray),.string (⟨#[]⟩ : ByteArray),.slice none 0 0,.slice none 0 0]) ?_ 1 _ rfl;(with_reducible repeat(first|refine qw ?_ _|refine qx ?_|refine qv ?_ _));refine blk_put (cs:=#[.int .i64 0,.int .i64 0,.int .i64 0,.string (⟨#[]⟩ : ByteArray),.string (⟨#[]⟩ : ByteArray),.slice none 0 0,.slice none 0 0]) ?_ 0 _ rfl;(with_reducible repeat(first|refine qw ?_ _|refine qx ?_|refine qv ?_ _));exact BK115.out⟩
     have n4_:U (Below w.heap.size w (((((((w27.setCell ⟨gb115,0,none⟩ (.int .i64 t104)).setCell ⟨gb115,1,none⟩ (.int .i64 t105)).setCell ⟨gb115,2,none⟩ (.int .i64 t106)).setCell ⟨gb115,3,none⟩ (.string t107)).setCell ⟨gb115,4,none⟩ (.string t108)).setCell ⟨gb115,5,none⟩ (.slice Ao29 t109.length co29)).setCell ⟨gb115,6,none⟩ (.slice Ao30 t112.length co30))):=⟨by repeat(first|(with_reducible first|exact HB.out|apply G|apply J|apply qq|refine qk ?_ GE115.out)|exact HB.out)⟩
     (try clear HO103)
     (try clear HO111)
     (try clear HO114)
     (try clear BK115)
     (try clear HB)
     generalize (((((((w27.setCell ⟨gb115,0,none⟩ (.int .i64 t104)).setCell ⟨gb115,1,none⟩ (.int .i64 t105)).setCell ⟨gb115,2,none⟩ (.int .i64 t106)).setCell ⟨gb115,3,none⟩ (.string t107)).setCell ⟨gb115,4,none⟩ (.string t108)).setCell ⟨gb115,5,none⟩ (.slice Ao29 t109.length co29)).setCell ⟨gb115,6,none⟩ (.slice Ao30 t112.length co30))=w31 at n0_ n1_ n2_ n3_ n4_ ⊢
     have HO103:=n0_
     have HO111:=n1_
     have HO114:=n2_
     have BK115:=n3_
     have HB:=n4_
     clear n0_ n1_ n2_ n3_ n4_
     replace HO103:=U.mk (Kd.zw HO103.out)
     replace HO111:=U.mk (Kd.zw HO111.out)
     replace HO114:=U.mk (Kd.zw HO114.out)
     replace BK115:=U.mk (qx BK115.out)
     replace HB:=U.mk (qq HB.out)
     refine start_ (n:=5) (S:=fun w'=>w'.cell? ⟨gb115,0,none⟩ = some (.int .i64 t104)∧w'.cell? ⟨gb115,1,none⟩ = some (.int .i64 t105)∧w'.cell? ⟨gb115,2,none⟩ = some (.int .i64 t106)∧w'.cell? ⟨gb115,3,none⟩ = some (.string t107)∧w'.cell? ⟨gb115,4,none⟩ = some (.string t108)∧w'.cell? ⟨gb115,5,none⟩ = some (.slice Ao29 t109.length co29)∧w'.cell? ⟨gb115,6,none⟩ = some (.slice Ao30 t112.length co30)) (ds:=[]) #[Y,Y,Y,Y,Y] (by kernel_rfl) rfl rfl ⟨(qj BK115.out 0).trans rfl,(qj BK115.out 1).trans rfl,(qj BK115.out 2).trans rfl,(qj BK115.out 3).trans rfl,(qj BK115.out 4).trans rfl,(qj BK115.out 5).trans rfl,(qj BK115.out 6).trans rfl⟩ (fun hHeld=>?_)
     generalize w31.drew=w32 at HO103 HO111 HO114 BK115 HB hHeld ⊢
     refine pure_ (i:=1) (N:=some 15) (v:=?_) (a':=?_) #[Y,Z,Y,Y,Y] rfl rfl (by kernel_rfl) (fun _ _ _ h=>h) (Or.inl ⟨by rfl,?_⟩) ?_ ?_
     rotate_left
     ·intro w'
      go_simp
      with_reducible rfl
     rotate_left
     ·simp only[Act.put,jq5,jq6,jq7,i64_w,i32_w]
      rfl
     refine take_ (i:=0) (N:=some 14) (v:=?_) (a':=?_) #[Z,Z,Y,Y,Y] rfl rfl (by kernel_rfl) (fun _ _ _ h=>h) (Or.inl ⟨by rfl,?_⟩) hHeld ?_ ?_
     rotate_left
     ·rintro w' ⟨s0,s1,s2,s3,s4,s5,s6⟩
      go_simp
      with_reducible rfl
     rotate_left
     ·simp only[Act.put,jq5,jq6,jq7,i64_w,i32_w]
      rfl
     refine one_ (i:=2) (N:=some 16) #[Z,Z,Z,Y,Y] rfl rfl (by kernel_rfl) (by decide) (fun K hK=>?_)
     refine goes_ Try.func39 (by kernel_rfl) rfl #[.slice Ao25 t101.length co25] (by rfl) rfl rfl (by(try simp only[jq0,jq1,jq2]);first|done|rfl|(simp only[jq3,jq4];rfl)) ?_
     with_reducible refine(qzj.calls k _ _ t101 t116 t117 t118 t119 t120 t121 t124 _ ?side1 ?side2 A5.out).mono ?_
     (case side1=>solve_by_elim only[(Kd.R_reads' HO103.out).2.2,Kd.C_alloc,Kd.C_drewN,Kd.C_drew])
     (case side2=>exact(Kd.R_reads' HO103.out).2.1)
     rintro e w33 ⟨v122,v125,rfl,ho0,ho1,hb⟩
     refine⟨_,rfl,?_⟩
     have HO123:=U.mk (Kd.R_lower (Kd.R_new' (Kd.R_new' ho0 (Kd.R_lt (by solve_by_elim only[HO103.out,Kd.zv,Kd.zk,Kd.zw]))) (Kd.R_lt (by solve_by_elim only[HO111.out,Kd.zv,Kd.zk,Kd.zw]))) (zj (by solve_by_elim (maxDepth:=20) only[HB.out,G,J,qq,qk,GE115.out])))
     replace HO103:=U.mk (Kd.R_elder' (by solve_by_elim only[HO103.out,Kd.zv,Kd.zk,Kd.zw]) (Kd.R_base ho0) hb)
     replace HO111:=U.mk (Kd.R_elder' (by solve_by_elim only[HO111.out,Kd.zv,Kd.zk,Kd.zw]) (Kd.R_base ho0) hb)
     have HO126:=U.mk (Kd.R_lower (Kd.R_new' ho1 (Kd.R_lt (by solve_by_elim only[HO114.out,Kd.zv,Kd.zk,Kd.zw]))) (zj (by solve_by_elim (maxDepth:=20) only[HB.out,G,J,qq,qk,GE115.out])))
     replace HO114:=U.mk (Kd.R_elder' (by solve_by_elim only[HO114.out,Kd.zv,Kd.zk,Kd.zw]) (Kd.R_base ho1) hb)
     replace BK115:=U.mk (kv (g:=gb115) (o:=.cells #[.int .i64 t104,.int .i64 t105,.int .i64 t106,.string t107,.string t108,.slice Ao29 t109.length co29,.slice Ao30 t112.length co30] 58 (0,0)) (by solve_by_elim only[BK115.out,qw,qx,qv]) hb)
     replace HB:=U.mk (zz (by solve_by_elim (maxDepth:=20) only[HB.out,G,J,qq,qk,GE115.out]) hb)
     (try clear hb)
     (try clear hb2)
     (try clear hk)
     (try clear hi)
     (try clear ho0)
     (try clear ho1)
     obtain⟨Ao34,co34,eo34⟩:=Kd.R_slice HO123.out
     (first|subst eo34|(injection eo34 with f1_ f2_ f3_;have f4_:=f1_.symm;have f5_:=f3_.symm;clear f1_ f2_ f3_;subst f4_;subst f5_))
     obtain⟨Ao35,co35,eo35⟩:=Kd.R_slice HO126.out
     (first|subst eo35|(injection eo35 with f1_ f2_ f3_;have f4_:=f1_.symm;have f5_:=f3_.symm;clear f1_ f2_ f3_;subst f4_;subst f5_))
     refine hK.out _ _ ⟨(qj BK115.out 0).trans rfl,(qj BK115.out 1).trans rfl,(qj BK115.out 2).trans rfl,(qj BK115.out 3).trans rfl,(qj BK115.out 4).trans rfl,(qj BK115.out 5).trans rfl,(qj BK115.out 6).trans rfl⟩ (fun hHeld=>?_)
     clear hK K
     refine norm_ (a':=?_) ?_ ?_
     rotate_left
     ·show Act.put _ (some 16) _=_
      simp only[Act.put,jq5,jq6,jq7,i64_w,i32_w]
      rfl
     refine one_ (i:=3) (N:=some 17) #[Z,Z,Z,Z,Y] rfl rfl (by kernel_rfl) (by decide) (fun K hK=>?_)
     refine goes_ Try.func38 (by kernel_rfl) rfl #[.agg #[.int .i64 t104,.int .i64 t105,.int .i64 t106,.string t107,.string t108,.slice Ao29 t109.length co29,.slice Ao30 t112.length co30],.agg #[.int .i64 t116,.int .i64 t117,.int .i64 t118,.string t119,.string t120,.slice Ao34 t121.length co34,.slice Ao35 t124.length co35]] (by rfl) rfl rfl (by(try simp only[jq0,jq1,jq2]);first|done|rfl|(simp only[jq3,jq4];rfl)) ?_
     with_reducible refine(qqv.calls k t104 t105 t106 t107 t108 _ _ t109 _ _ t112 t116 t117 t118 t119 t120 _ _ t121 _ _ t124 true _ ?side1 ?side2 ?side3 ?side4 ?side5 ?side6 ?side7 ?side8 A6.out).mono ?_
     (case side1=>solve_by_elim only[(Kd.R_reads' HO111.out).2.2,Kd.C_alloc,Kd.C_drewN,Kd.C_drew])
     (case side2=>exact(Kd.R_reads' HO111.out).2.1)
     (case side3=>solve_by_elim only[(Kd.R_reads' HO114.out).2.2,Kd.C_alloc,Kd.C_drewN,Kd.C_drew])
     (case side4=>exact(Kd.R_reads' HO114.out).2.1)
     (case side5=>solve_by_elim only[(Kd.R_reads' HO123.out).2.2,Kd.C_alloc,Kd.C_drewN,Kd.C_drew])
     (case side6=>exact(Kd.R_reads' HO123.out).2.1)
     (case side7=>solve_by_elim only[(Kd.R_reads' HO126.out).2.2,Kd.C_alloc,Kd.C_drewN,Kd.C_drew])
     (case side8=>exact(Kd.R_reads' HO126.out).2.1)
     rintro e w36 ⟨rfl,hb⟩
     refine⟨_,rfl,?_⟩
     replace HO103:=U.mk (Kd.R_below (by solve_by_elim only[HO103.out,Kd.zv,Kd.zk,Kd.zw]) hb)
     replace HO111:=U.mk (Kd.R_below (by solve_by_elim only[HO111.out,Kd.zv,Kd.zk,Kd.zw]) hb)
     replace HO114:=U.mk (Kd.R_below (by solve_by_elim only[HO114.out,Kd.zv,Kd.zk,Kd.zw]) hb)
     replace HO123:=U.mk (Kd.R_below (by solve_by_elim only[HO123.out,Kd.zv,Kd.zk,Kd.zw]) hb)
     replace HO126:=U.mk (Kd.R_below (by solve_by_elim only[HO126.out,Kd.zv,Kd.zk,Kd.zw]) hb)
     replace BK115:=U.mk (kv (g:=gb115) (o:=.cells #[.int .i64 t104,.int .i64 t105,.int .i64 t106,.string t107,.string t108,.slice Ao29 t109.length co29,.slice Ao30 t112.length co30] 58 (0,0)) (by solve_by_elim only[BK115.out,qw,qx,qv]) hb)
     replace HB:=U.mk (zz (by solve_by_elim (maxDepth:=20) only[HB.out,G,J,qq,qk,GE115.out]) hb)
     (try clear hb)
     (try clear hb2)
     (try clear hk)
     (try clear hi)
     refine hK.out _ _ ⟨(qj BK115.out 0).trans rfl,(qj BK115.out 1).trans rfl,(qj BK115.out 2).trans rfl,(qj BK115.out 3).trans rfl,(qj BK115.out 4).trans rfl,(qj BK115.out 5).trans rfl,(qj BK115.out 6).trans rfl⟩ (fun hHeld=>?_)
     clear hK K
     refine norm_ (a':=?_) ?_ ?_
     rotate_left
     ·show Act.put _ (some 17) _=_
      simp only[Act.put,jq5,jq6,jq7,i64_w,i32_w]
      rfl
     refine pure_ (i:=4) (N:=some 18) (v:=?_) (a':=?_) #[Z,Z,Z,Z,Z] rfl rfl (by kernel_rfl) (fun _ _ _ h=>h) (Or.inl ⟨by rfl,?_⟩) ?_ ?_
     rotate_left
     ·intro w'
      go_simp
      with_reducible rfl
     rotate_left
     ·simp only[Act.put,jq5,jq6,jq7,i64_w,i32_w]
      rfl
     refine done_ (by kernel_rfl) ?_
     have hcz37_0:w36.cell? ⟨gb115,0,none⟩ = some (.int .i64 t104):=(qj BK115.out 0).trans rfl
     have hcz37_1:w36.cell? ⟨gb115,1,none⟩ = some (.int .i64 t105):=(qj BK115.out 1).trans rfl
     have hcz37_2:w36.cell? ⟨gb115,2,none⟩ = some (.int .i64 t106):=(qj BK115.out 2).trans rfl
     have hcz37_3:w36.cell? ⟨gb115,3,none⟩ = some (.string t107):=(qj BK115.out 3).trans rfl
     have hcz37_4:w36.cell? ⟨gb115,4,none⟩ = some (.string t108):=(qj BK115.out 4).trans rfl
     have hcz37_5:w36.cell? ⟨gb115,5,none⟩ = some (.slice Ao29 t109.length co29):=(qj BK115.out 5).trans rfl
     have hcz37_6:w36.cell? ⟨gb115,6,none⟩ = some (.slice Ao30 t112.length co30):=(qj BK115.out 6).trans rfl
     have hfz37_0:=qz BK115.out 0
     have hfz37_1:=qz BK115.out 1
     have hfz37_2:=qz BK115.out 2
     have hfz37_3:=qz BK115.out 3
     have hfz37_4:=qz BK115.out 4
     have hfz37_5:=qz BK115.out 5
     have hfz37_6:=qz BK115.out 6
     try go_wp2
     go_ret
     exact⟨by first|rfl|(simp[*,jv,jk] <;> rfl),by repeat(first|(with_reducible first|exact HB.out|apply G|apply J|apply qq|refine qk ?_ GE115.out)|exact HB.out)⟩
    ·rw[if_neg c23] at H
     have c23b0:decide (400 < (t101.length:Int))=false:=decide_eq_false c23
     have c23b1:decide (400 < t101.length)=false:=decide_eq_false (by omega)
     clear c23
     have H':=U.mk H
     clear H
     go_enter Try.func8,Try.ntmps8
     try go_wp2_with (first|((with_reducible refine jw (f:=36) rfl ?_);refine goesL_ (some 11) rfl rfl Try.func36 (by kernel_rfl) rfl #[.slice A0 l0.length c0] rfl (by(try simp only[jq0,jq1,jq2]);first|done|rfl|(simp only[jq3,jq4];rfl)) ?_;(with_reducible refine(qqw.calls k _ _ l0 t101 _ ?side1 ?side2 A3.out).mono ?_);(case side1=>solve_by_elim only[HR0.out,Kd.C_alloc,Kd.C_drewN,Kd.C_drew]);(case side2=>exact HC0.out);rintro e w38 ⟨v102,rfl,ho0,hb⟩;refine⟨_,rfl,?_⟩;have HO103:=U.mk (Kd.R_lower ho0 (zj (by solve_by_elim only[HB.out,G,J,qq])));replace HB:=U.mk (zz (by solve_by_elim only[HB.out,G,J,qq]) hb);(try clear hb ho0);obtain⟨Ao39,co39,eo39⟩:=Kd.R_slice HO103.out;subst eo39)|((with_reducible refine jw (f:=37) rfl ?_);refine goesL_ (some 13) rfl rfl Try.func37 (by kernel_rfl) rfl #[.slice Ao39 t101.length co39] rfl (by(try simp only[jq0,jq1,jq2]);first|done|rfl|(simp only[jq3,jq4];rfl)) ?_;(with_reducible refine(wx.calls k _ _ t101 t104 t105 t106 t107 t108 t109 t112 _ ?side1 ?side2 A4.out).mono ?_);(case side1=>solve_by_elim only[(Kd.R_reads' HO103.out).2.2,Kd.C_alloc,Kd.C_drewN,Kd.C_drew]);(case side2=>exact(Kd.R_reads' HO103.out).2.1);rintro e w40 ⟨v110,v113,rfl,ho0,ho1,hb⟩;refine⟨_,rfl,?_⟩;have HO111:=U.mk (Kd.R_lower (Kd.R_new' ho0 (Kd.R_lt (by solve_by_elim only[HO103.out,Kd.zv,Kd.zk,Kd.zw]))) (zj (by solve_by_elim only[HB.out,G,J,qq])));replace HO103:=U.mk (Kd.R_elder' (by solve_by_elim only[HO103.out,Kd.zv,Kd.zk,Kd.zw]) (Kd.R_base ho0) hb);have HO114:=U.mk (Kd.R_lower ho1 (zj (by solve_by_elim only[HB.out,G,J,qq])));replace HB:=U.mk (zz (by solve_by_elim only[HB.out,G,J,qq]) hb);(try clear hb ho0 ho1))|((with_reducible refine gate_dst (N:=4) rfl ?_);(try (refine gate_guard (by rfl) ?_;dsimp only));refine box_event ?hg (N:=4) ?hd (cs:=#[.int .i64 0,.int .i64 0,.int .i64 0,.string (⟨#[]⟩ : ByteArray),.string (⟨#[]⟩ : ByteArray),.slice none 0 0,.slice none 0 0]) (t:=58) ?hr ?_;(case hd=>rfl);(case hg=>rfl);(case hr=>first|(go_simp;done)|(go_simp;rfl));intro gb115 hg w41 hbox hb;replace HO103:=U.mk (Kd.R_below (by solve_by_elim only[HO103.out,Kd.zv,Kd.zk,Kd.zw]) hb);replace HO111:=U.mk (Kd.R_below (by solve_by_elim only[HO111.out,Kd.zv,Kd.zk,Kd.zw]) hb);replace HO114:=U.mk (Kd.R_below (by solve_by_elim only[HO114.out,Kd.zv,Kd.zk,Kd.zw]) hb);have BK115:=U.mk (hbox);have GW115:=U.mk ((by rw[hg];exact(zj (by solve_by_elim only[HB.out,G,J,qq])):w.heap.size≤gb115));have GE115:=U.mk ((by rw[hg];exact(zj (by solve_by_elim only[HB.out,G,J,qq])):w.heap.size≤gb115));replace HB:=U.mk (zz (by solve_by_elim only[HB.out,G,J,qq]) hb);clear hb hbox hg;have hcz42_0:w41.cell? ⟨gb115,0,none⟩ = some (.int .i64 0):=(qj BK115.out 0).trans rfl;have hcz42_1:w41.cell? ⟨gb115,1,none⟩ = some (.int .i64 0):=(qj BK115.out 1).trans rfl;have hcz42_2:w41.cell? ⟨gb115,2,none⟩ = some (.int .i64 0):=(qj BK115.out 2).trans rfl;have hcz42_3:w41.cell? ⟨gb115,3,none⟩ = some (.string (⟨#[]⟩ : ByteArray)):=(qj BK115.out 3).trans rfl;have hcz42_4:w41.cell? ⟨gb115,4,none⟩ = some (.string (⟨#[]⟩ : ByteArray)):=(qj BK115.out 4).trans rfl;have hcz42_5:w41.cell? ⟨gb115,5,none⟩ = some (.slice none 0 0):=(qj BK115.out 5).trans rfl;have hcz42_6:w41.cell? ⟨gb115,6,none⟩ = some (.slice none 0 0):=(qj BK115.out 6).trans rfl;have hfz42_0:=qz BK115.out 0;have hfz42_1:=qz BK115.out 1;have hfz42_2:=qz BK115.out 2;have hfz42_3:=qz BK115.out 3;have hfz42_4:=qz BK115.out 4;have hfz42_5:=qz BK115.out 5;have hfz42_6:=qz BK115.out 6;obtain⟨Ao43,co43,eo43⟩:=Kd.R_slice HO111.out;subst eo43;obtain⟨Ao44,co44,eo44⟩:=Kd.R_slice HO114.out;subst eo44))
     have n0_:U (Kd.R k34 34 (((((((w41.setCell ⟨gb115,0,none⟩ (.int .i64 t104)).setCell ⟨gb115,1,none⟩ (.int .i64 t105)).setCell ⟨gb115,2,none⟩ (.int .i64 t106)).setCell ⟨gb115,3,none⟩ (.string t107)).setCell ⟨gb115,4,none⟩ (.string t108)).setCell ⟨gb115,5,none⟩ (.slice Ao43 t109.length co43)).setCell ⟨gb115,6,none⟩ (.slice Ao44 t112.length co44)) w.heap.size (fun k_=>some k_≠(.slice Ao43 t109.length co43:Value).ownBlock) (.slice Ao39 t101.length co39) t101):=⟨by(with_reducible repeat(first|apply Kd.zv|apply Kd.zk|apply Kd.zw));exact Kd.R_mono (Kd.R_far (p:=⟨gb115,6,none⟩) (Kd.R_far (p:=⟨gb115,5,none⟩) (Kd.R_far (p:=⟨gb115,4,none⟩) (Kd.R_far (p:=⟨gb115,3,none⟩) (Kd.R_far (p:=⟨gb115,2,none⟩) (Kd.R_far (p:=⟨gb115,1,none⟩) (Kd.R_far (p:=⟨gb115,0,none⟩) (Kd.R_types HO103.out BK115.out (by decide)) (fun _ hk=>hk.2) (.int .i64 t104)) (fun _ hk=>hk.2) (.int .i64 t105)) (fun _ hk=>hk.2) (.int .i64 t106)) (fun _ hk=>hk.2) (.string t107)) (fun _ hk=>hk.2) (.string t108)) (fun _ hk=>hk.2) (.slice Ao43 t109.length co43)) (fun _ hk=>hk.2) (.slice Ao44 t112.length co44)) (fun _ hk=>hk.1.2)⟩
     have n1_:U (Kd.R k34 34 (((((((w41.setCell ⟨gb115,0,none⟩ (.int .i64 t104)).setCell ⟨gb115,1,none⟩ (.int .i64 t105)).setCell ⟨gb115,2,none⟩ (.int .i64 t106)).setCell ⟨gb115,3,none⟩ (.string t107)).setCell ⟨gb115,4,none⟩ (.string t108)).setCell ⟨gb115,5,none⟩ (.slice Ao43 t109.length co43)).setCell ⟨gb115,6,none⟩ (.slice Ao44 t112.length co44)) w.heap.size (fun k_=>some k_≠(.slice Ao39 t101.length co39:Value).ownBlock) (.slice Ao43 t109.length co43) t109):=⟨by(with_reducible repeat(first|apply Kd.zv|apply Kd.zk|apply Kd.zw));exact Kd.R_mono (Kd.R_far (p:=⟨gb115,6,none⟩) (Kd.R_far (p:=⟨gb115,5,none⟩) (Kd.R_far (p:=⟨gb115,4,none⟩) (Kd.R_far (p:=⟨gb115,3,none⟩) (Kd.R_far (p:=⟨gb115,2,none⟩) (Kd.R_far (p:=⟨gb115,1,none⟩) (Kd.R_far (p:=⟨gb115,0,none⟩) (Kd.R_types HO111.out BK115.out (by decide)) (fun _ hk=>hk.2) (.int .i64 t104)) (fun _ hk=>hk.2) (.int .i64 t105)) (fun _ hk=>hk.2) (.int .i64 t106)) (fun _ hk=>hk.2) (.string t107)) (fun _ hk=>hk.2) (.string t108)) (fun _ hk=>hk.2) (.slice Ao43 t109.length co43)) (fun _ hk=>hk.2) (.slice Ao44 t112.length co44)) (fun _ hk=>hk.1.2)⟩
     have n2_:U (Kd.R Kd.string 9 (((((((w41.setCell ⟨gb115,0,none⟩ (.int .i64 t104)).setCell ⟨gb115,1,none⟩ (.int .i64 t105)).setCell ⟨gb115,2,none⟩ (.int .i64 t106)).setCell ⟨gb115,3,none⟩ (.string t107)).setCell ⟨gb115,4,none⟩ (.string t108)).setCell ⟨gb115,5,none⟩ (.slice Ao43 t109.length co43)).setCell ⟨gb115,6,none⟩ (.slice Ao44 t112.length co44)) w.heap.size (fun _=>True) (.slice Ao44 t112.length co44) t112):=⟨by(with_reducible repeat(first|apply Kd.zv|apply Kd.zk|apply Kd.zw));exact Kd.R_mono (Kd.R_far (p:=⟨gb115,6,none⟩) (Kd.R_far (p:=⟨gb115,5,none⟩) (Kd.R_far (p:=⟨gb115,4,none⟩) (Kd.R_far (p:=⟨gb115,3,none⟩) (Kd.R_far (p:=⟨gb115,2,none⟩) (Kd.R_far (p:=⟨gb115,1,none⟩) (Kd.R_far (p:=⟨gb115,0,none⟩) (Kd.R_types HO114.out BK115.out (by decide)) (fun _ hk=>hk.2) (.int .i64 t104)) (fun _ hk=>hk.2) (.int .i64 t105)) (fun _ hk=>hk.2) (.int .i64 t106)) (fun _ hk=>hk.2) (.string t107)) (fun _ hk=>hk.2) (.string t108)) (fun _ hk=>hk.2) (.slice Ao43 t109.length co43)) (fun _ hk=>hk.2) (.slice Ao44 t112.length co44)) (fun _ hk=>trivial)⟩
     have n3_:U ((((((((w41.setCell ⟨gb115,0,none⟩ (.int .i64 t104)).setCell ⟨gb115,1,none⟩ (.int .i64 t105)).setCell ⟨gb115,2,none⟩ (.int .i64 t106)).setCell ⟨gb115,3,none⟩ (.string t107)).setCell ⟨gb115,4,none⟩ (.string t108)).setCell ⟨gb115,5,none⟩ (.slice Ao43 t109.length co43)).setCell ⟨gb115,6,none⟩ (.slice Ao44 t112.length co44)).heap[gb115]? = some (.cells #[.int .i64 t104,.int .i64 t105,.int .i64 t106,.string t107,.string t108,.slice Ao43 t109.length co43,.slice Ao44 t112.length co44] 58 (0,0))):=⟨by(with_reducible repeat(first|refine qw ?_ _|refine qx ?_|refine qv ?_ _));refine blk_put (cs:=#[.int .i64 t104,.int .i64 t105,.int .i64 t106,.string t107,.string t108,.slice Ao43 t109.length co43,.slice none 0 0]) ?_ 6 _ rfl;(with_reducible repeat(first|refine qw ?_ _|refine qx ?_|refine qv ?_ _));refine blk_put (cs:=#[.int .i64 t104,.int .i64 t105,.int .i64 t106,.string t107,.string t108,.slice none 0 0,.slice none 0 0]) ?_ 5 _ rfl;(with_reducible repeat(first|refine qw ?_ _|refine qx ?_|refine qv ?_ _));refine blk_put (cs:=#[.int .i64 t104,.int .i64 t105,.int .i64 t106,.string t107,.string (⟨#[]⟩ : ByteArray),.slice none 0 0,.slice none 0 0]) ?_ 4 _ rfl;(with_reducible repeat(first|refine qw ?_ _|refine qx ?_|refine qv ?_ _));refine blk_put (cs:=#[.int .i64 t104,.int .i64 t105,.int .i64 t106,.string (⟨#[]⟩ : ByteArray),.string (⟨#[]⟩ : ByteArray),.slice none 0 0,.slice none 0 0]) ?_ 3 _ rfl;(with_reducible repeat(first|refine qw ?_ _|refine qx ?_|refine qv ?_ _));refine blk_put (cs:=#[.int .i64 t104,.int .i64 t105,.int .i64 0,.string (⟨#[]⟩ : ByteArray),.string (⟨#[]⟩ : ByteArray),.slice none 0 0,.slice none 0 0]) ?_ 2 _ rfl;(with_reducible repeat(first|refine qw ?_ _|refine qx ?_|refine qv ?_ _));refine blk_put (cs:=#[.int .i64 t104,.int .i64 0,.int .i64 0,.string (⟨#[]⟩ : ByteArray),.string (⟨#[]⟩ : ByteArray),.slice none 0 0,.slice none 0 0]) ?_ 1 _ rfl;(with_reducible repeat(first|refine qw ?_ _|refine qx ?_|refine qv ?_ _));refine blk_put (cs:=#[.int .i64 0,.int .i64 0,.int .i64 0,.string (⟨#[]⟩ : ByteArray),.string (⟨#[]⟩ : ByteArray),.slice none 0 0,.slice none 0 0]) ?_ 0 _ rfl;(with_reducible repeat(first|refine qw ?_ _|refine qx ?_|refine qv ?_ _));exact BK115.out⟩
     have n4_:U (Below w.heap.size w (((((((w41.setCell ⟨gb115,0,none⟩ (.int .i64 t104)).setCell ⟨gb115,1,none⟩ (.int .i64 t105)).setCell ⟨gb115,2,none⟩ (.int .i64 t106)).setCell ⟨gb115,3,none⟩ (.string t107)).setCell ⟨gb115,4,none⟩ (.string t108)).setCell ⟨gb115,5,none⟩ (.slice Ao43 t109.length co43)).setCell ⟨gb115,6,none⟩ (.slice Ao44 t112.length co44))):=⟨by repeat(first|(with_reducible first|exact HB.out|apply G|apply J|apply qq|refine qk ?_ GE115.out)|exact HB.out)⟩
     (try clear HO103)
     (try clear HO111)
     (try clear HO114)
     (try clear BK115)
     (try clear HB)
     generalize (((((((w41.setCell ⟨gb115,0,none⟩ (.int .i64 t104)).setCell ⟨gb115,1,none⟩ (.int .i64 t105)).setCell ⟨gb115,2,none⟩ (.int .i64 t106)).setCell ⟨gb115,3,none⟩ (.string t107)).setCell ⟨gb115,4,none⟩ (.string t108)).setCell ⟨gb115,5,none⟩ (.slice Ao43 t109.length co43)).setCell ⟨gb115,6,none⟩ (.slice Ao44 t112.length co44))=w45 at n0_ n1_ n2_ n3_ n4_ ⊢
     have HO103:=n0_
     have HO111:=n1_
     have HO114:=n2_
     have BK115:=n3_
     have HB:=n4_
     clear n0_ n1_ n2_ n3_ n4_
     replace HO103:=U.mk (Kd.zw HO103.out)
     replace HO111:=U.mk (Kd.zw HO111.out)
     replace HO114:=U.mk (Kd.zw HO114.out)
     replace BK115:=U.mk (qx BK115.out)
     replace HB:=U.mk (qq HB.out)
     refine start_ (n:=5) (S:=fun w'=>w'.cell? ⟨gb115,0,none⟩ = some (.int .i64 t104)∧w'.cell? ⟨gb115,1,none⟩ = some (.int .i64 t105)∧w'.cell? ⟨gb115,2,none⟩ = some (.int .i64 t106)∧w'.cell? ⟨gb115,3,none⟩ = some (.string t107)∧w'.cell? ⟨gb115,4,none⟩ = some (.string t108)∧w'.cell? ⟨gb115,5,none⟩ = some (.slice Ao43 t109.length co43)∧w'.cell? ⟨gb115,6,none⟩ = some (.slice Ao44 t112.length co44)) (ds:=[]) #[Y,Y,Y,Y,Y] (by kernel_rfl) rfl rfl ⟨(qj BK115.out 0).trans rfl,(qj BK115.out 1).trans rfl,(qj BK115.out 2).trans rfl,(qj BK115.out 3).trans rfl,(qj BK115.out 4).trans rfl,(qj BK115.out 5).trans rfl,(qj BK115.out 6).trans rfl⟩ (fun hHeld=>?_)
     generalize w45.drew=w46 at HO103 HO111 HO114 BK115 HB hHeld ⊢
     refine pure_ (i:=1) (N:=some 15) (v:=?_) (a':=?_) #[Y,Z,Y,Y,Y] rfl rfl (by kernel_rfl) (fun _ _ _ h=>h) (Or.inl ⟨by rfl,?_⟩) ?_ ?_
     rotate_left
     ·intro w'
      go_simp
      with_reducible rfl
     rotate_left
     ·simp only[Act.put,jq5,jq6,jq7,i64_w,i32_w]
      rfl
     refine take_ (i:=0) (N:=some 14) (v:=?_) (a':=?_) #[Z,Z,Y,Y,Y] rfl rfl (by kernel_rfl) (fun _ _ _ h=>h) (Or.inl ⟨by rfl,?_⟩) hHeld ?_ ?_
     rotate_left
     ·rintro w' ⟨s0,s1,s2,s3,s4,s5,s6⟩
      go_simp
      with_reducible rfl
     rotate_left
     ·simp only[Act.put,jq5,jq6,jq7,i64_w,i32_w]
      rfl
     refine one_ (i:=2) (N:=some 16) #[Z,Z,Z,Y,Y] rfl rfl (by kernel_rfl) (by decide) (fun K hK=>?_)
     refine goes_ Try.func39 (by kernel_rfl) rfl #[.slice Ao39 t101.length co39] (by rfl) rfl rfl (by(try simp only[jq0,jq1,jq2]);first|done|rfl|(simp only[jq3,jq4];rfl)) ?_
     with_reducible refine(qzj.calls k _ _ t101 t116 t117 t118 t119 t120 t121 t124 _ ?side1 ?side2 A5.out).mono ?_
     (case side1=>solve_by_elim only[(Kd.R_reads' HO103.out).2.2,Kd.C_alloc,Kd.C_drewN,Kd.C_drew])
     (case side2=>exact(Kd.R_reads' HO103.out).2.1)
     rintro e w47 ⟨v122,v125,rfl,ho0,ho1,hb⟩
     refine⟨_,rfl,?_⟩
     have HO123:=U.mk (Kd.R_lower (Kd.R_new' (Kd.R_new' ho0 (Kd.R_lt (by solve_by_elim only[HO103.out,Kd.zv,Kd.zk,Kd.zw]))) (Kd.R_lt (by solve_by_elim only[HO111.out,Kd.zv,Kd.zk,Kd.zw]))) (zj (by solve_by_elim (maxDepth:=20) only[HB.out,G,J,qq,qk,GE115.out])))
     replace HO103:=U.mk (Kd.R_elder' (by solve_by_elim only[HO103.out,Kd.zv,Kd.zk,Kd.zw]) (Kd.R_base ho0) hb)
     replace HO111:=U.mk (Kd.R_elder' (by solve_by_elim only[HO111.out,Kd.zv,Kd.zk,Kd.zw]) (Kd.R_base ho0) hb)
     have HO126:=U.mk (Kd.R_lower (Kd.R_new' ho1 (Kd.R_lt (by solve_by_elim only[HO114.out,Kd.zv,Kd.zk,Kd.zw]))) (zj (by solve_by_elim (maxDepth:=20) only[HB.out,G,J,qq,qk,GE115.out])))
     replace HO114:=U.mk (Kd.R_elder' (by solve_by_elim only[HO114.out,Kd.zv,Kd.zk,Kd.zw]) (Kd.R_base ho1) hb)
     replace BK115:=U.mk (kv (g:=gb115) (o:=.cells #[.int .i64 t104,.int .i64 t105,.int .i64 t106,.string t107,.string t108,.slice Ao43 t109.length co43,.slice Ao44 t112.length co44] 58 (0,0)) (by solve_by_elim only[BK115.out,qw,qx,qv]) hb)
     replace HB:=U.mk (zz (by solve_by_elim (maxDepth:=20) only[HB.out,G,J,qq,qk,GE115.out]) hb)
     (try clear hb)
     (try clear hb2)
     (try clear hk)
     (try clear hi)
     (try clear ho0)
     (try clear ho1)
     obtain⟨Ao48,co48,eo48⟩:=Kd.R_slice HO123.out
     (first|subst eo48|(injection eo48 with f1_ f2_ f3_;have f4_:=f1_.symm;have f5_:=f3_.symm;clear f1_ f2_ f3_;subst f4_;subst f5_))
     obtain⟨Ao49,co49,eo49⟩:=Kd.R_slice HO126.out
     (first|subst eo49|(injection eo49 with f1_ f2_ f3_;have f4_:=f1_.symm;have f5_:=f3_.symm;clear f1_ f2_ f3_;subst f4_;subst f5_))
     refine hK.out _ _ ⟨(qj BK115.out 0).trans rfl,(qj BK115.out 1).trans rfl,(qj BK115.out 2).trans rfl,(qj BK115.out 3).trans rfl,(qj BK115.out 4).trans rfl,(qj BK115.out 5).trans rfl,(qj BK115.out 6).trans rfl⟩ (fun hHeld=>?_)
     clear hK K
     refine norm_ (a':=?_) ?_ ?_
     rotate_left
     ·show Act.put _ (some 16) _=_
      simp only[Act.put,jq5,jq6,jq7,i64_w,i32_w]
      rfl
     refine one_ (i:=3) (N:=some 17) #[Z,Z,Z,Z,Y] rfl rfl (by kernel_rfl) (by decide) (fun K hK=>?_)
     refine goes_ Try.func38 (by kernel_rfl) rfl #[.agg #[.int .i64 t104,.int .i64 t105,.int .i64 t106,.string t107,.string t108,.slice Ao43 t109.length co43,.slice Ao44 t112.length co44],.agg #[.int .i64 t116,.int .i64 t117,.int .i64 t118,.string t119,.string t120,.slice Ao48 t121.length co48,.slice Ao49 t124.length co49]] (by rfl) rfl rfl (by(try simp only[jq0,jq1,jq2]);first|done|rfl|(simp only[jq3,jq4];rfl)) ?_
     with_reducible refine(qqv.calls k t104 t105 t106 t107 t108 _ _ t109 _ _ t112 t116 t117 t118 t119 t120 _ _ t121 _ _ t124 true _ ?side1 ?side2 ?side3 ?side4 ?side5 ?side6 ?side7 ?side8 A6.out).mono ?_
     (case side1=>solve_by_elim only[(Kd.R_reads' HO111.out).2.2,Kd.C_alloc,Kd.C_drewN,Kd.C_drew])
     (case side2=>exact(Kd.R_reads' HO111.out).2.1)
     (case side3=>solve_by_elim only[(Kd.R_reads' HO114.out).2.2,Kd.C_alloc,Kd.C_drewN,Kd.C_drew])
     (case side4=>exact(Kd.R_reads' HO114.out).2.1)
     (case side5=>solve_by_elim only[(Kd.R_reads' HO123.out).2.2,Kd.C_alloc,Kd.C_drewN,Kd.C_drew])
     (case side6=>exact(Kd.R_reads' HO123.out).2.1)
     (case side7=>solve_by_elim only[(Kd.R_reads' HO126.out).2.2,Kd.C_alloc,Kd.C_drewN,Kd.C_drew])
     (case side8=>exact(Kd.R_reads' HO126.out).2.1)
     rintro e w50 ⟨rfl,hb⟩
     refine⟨_,rfl,?_⟩
     replace HO103:=U.mk (Kd.R_below (by solve_by_elim only[HO103.out,Kd.zv,Kd.zk,Kd.zw]) hb)
     replace HO111:=U.mk (Kd.R_below (by solve_by_elim only[HO111.out,Kd.zv,Kd.zk,Kd.zw]) hb)
     replace HO114:=U.mk (Kd.R_below (by solve_by_elim only[HO114.out,Kd.zv,Kd.zk,Kd.zw]) hb)
     replace HO123:=U.mk (Kd.R_below (by solve_by_elim only[HO123.out,Kd.zv,Kd.zk,Kd.zw]) hb)
     replace HO126:=U.mk (Kd.R_below (by solve_by_elim only[HO126.out,Kd.zv,Kd.zk,Kd.zw]) hb)
     replace BK115:=U.mk (kv (g:=gb115) (o:=.cells #[.int .i64 t104,.int .i64 t105,.int .i64 t106,.string t107,.string t108,.slice Ao43 t109.length co43,.slice Ao44 t112.length co44] 58 (0,0)) (by solve_by_elim only[BK115.out,qw,qx,qv]) hb)
     replace HB:=U.mk (zz (by solve_by_elim (maxDepth:=20) only[HB.out,G,J,qq,qk,GE115.out]) hb)
     (try clear hb)
     (try clear hb2)
     (try clear hk)
     (try clear hi)
     refine hK.out _ _ ⟨(qj BK115.out 0).trans rfl,(qj BK115.out 1).trans rfl,(qj BK115.out 2).trans rfl,(qj BK115.out 3).trans rfl,(qj BK115.out 4).trans rfl,(qj BK115.out 5).trans rfl,(qj BK115.out 6).trans rfl⟩ (fun hHeld=>?_)
     clear hK K
     refine norm_ (a':=?_) ?_ ?_
     rotate_left
     ·show Act.put _ (some 17) _=_
      simp only[Act.put,jq5,jq6,jq7,i64_w,i32_w]
      rfl
     refine pure_ (i:=4) (N:=some 18) (v:=?_) (a':=?_) #[Z,Z,Z,Z,Z] rfl rfl (by kernel_rfl) (fun _ _ _ h=>h) (Or.inl ⟨by rfl,?_⟩) ?_ ?_
     rotate_left
     ·intro w'
      go_simp
      with_reducible rfl
     rotate_left
     ·simp only[Act.put,jq5,jq6,jq7,i64_w,i32_w]
      rfl
     refine done_ (by kernel_rfl) ?_
     have hcz51_0:w50.cell? ⟨gb115,0,none⟩ = some (.int .i64 t104):=(qj BK115.out 0).trans rfl
     have hcz51_1:w50.cell? ⟨gb115,1,none⟩ = some (.int .i64 t105):=(qj BK115.out 1).trans rfl
     have hcz51_2:w50.cell? ⟨gb115,2,none⟩ = some (.int .i64 t106):=(qj BK115.out 2).trans rfl
     have hcz51_3:w50.cell? ⟨gb115,3,none⟩ = some (.string t107):=(qj BK115.out 3).trans rfl
     have hcz51_4:w50.cell? ⟨gb115,4,none⟩ = some (.string t108):=(qj BK115.out 4).trans rfl
     have hcz51_5:w50.cell? ⟨gb115,5,none⟩ = some (.slice Ao43 t109.length co43):=(qj BK115.out 5).trans rfl
     have hcz51_6:w50.cell? ⟨gb115,6,none⟩ = some (.slice Ao44 t112.length co44):=(qj BK115.out 6).trans rfl
     have hfz51_0:=qz BK115.out 0
     have hfz51_1:=qz BK115.out 1
     have hfz51_2:=qz BK115.out 2
     have hfz51_3:=qz BK115.out 3
     have hfz51_4:=qz BK115.out 4
     have hfz51_5:=qz BK115.out 5
     have hfz51_6:=qz BK115.out 6
     try go_wp2
     go_loopg [5,29] k (fun kq v5 v29 w'=>∃ (x5_1:List (S34)) (x29_1:Int),v29=.int .i64 x29_1∧U (qqz.l0 kq t101 x5_1 (t101.length:Int) x29_1 t104 t105 t106 t107 t108 t109 t112=some r)∧U (kq≤k)∧U (Kd.R k34 34 w' w.heap.size (fun k_=>some k_≠(v5:Value).ownBlock∧some k_≠((.slice Ao43 t109.length co43):Value).ownBlock) (.slice Ao39 t101.length co39) t101)∧U (Kd.R k34 34 w' w.heap.size (fun k_=>some k_≠((.slice Ao39 t101.length co39):Value).ownBlock∧some k_≠((.slice Ao43 t109.length co43):Value).ownBlock) v5 x5_1)∧U (Kd.R k34 34 w' w.heap.size (fun k_=>some k_≠((.slice Ao39 t101.length co39):Value).ownBlock∧some k_≠(v5:Value).ownBlock) (.slice Ao43 t109.length co43) t109)∧U (Kd.R Kd.string 9 w' w.heap.size (fun _=>True) (.slice Ao44 t112.length co44) t112)∧U (w'.heap[gb115]? = some (.cells #[.int .i64 t104,.int .i64 t105,.int .i64 t106,.string t107,.string t108,(.slice Ao43 t109.length co43),(.slice Ao44 t112.length co44)] 58 (0,0)))∧U (Below w.heap.size w w'))
     case atStart=>exact⟨(([]:List (S34))),(0),(by first|rfl|(simp;done)|(simp[*];done)),H',⟨Nat.le_refl _⟩,⟨by(with_reducible repeat(first|apply Kd.zv|apply Kd.zk|apply Kd.zw));exact Kd.R_mono HO103.out (fun _ hk=>⟨(by simp[Value.ownBlock]),hk.1⟩)⟩,⟨by first|exact Kd.R_nil _ _ _ _ _|exact Kd.N_nil _ _ _ _ _|exact Kd.V_nil _ _ _ _ _|exact Kd.Q_nil _ _ _ _ _|exact Kd.S_nil _ _ _ _ _⟩,⟨by(with_reducible repeat(first|apply Kd.zv|apply Kd.zk|apply Kd.zw));exact Kd.R_mono HO111.out (fun _ hk=>⟨hk.1,(by simp[Value.ownBlock])⟩)⟩,⟨by(with_reducible repeat(first|apply Kd.zv|apply Kd.zk|apply Kd.zw));exact Kd.R_mono HO114.out (fun _ hk=>trivial)⟩,⟨by(with_reducible repeat(first|refine qw ?_ _|refine qx ?_|refine qv ?_ _));exact BK115.out⟩,⟨by repeat(first|(with_reducible first|exact HB.out|apply G|apply J|apply qq|refine qk ?_ GE115.out)|exact HB.out)⟩⟩
     case round =>
      clear H'
      try clear c2
      try clear c2b0
      try clear c2b1
      try clear p2
      try clear c3
      try clear c7
      try clear c8
      try clear c8b0
      try clear c8b1
      try clear c23
      try clear c23b0
      try clear c23b1
      try clear c36
      try clear c37
      try clear c38
      try clear c39
      try clear hcz13_0
      try clear hcz13_1
      try clear hcz13_2
      try clear hcz13_3
      try clear hcz13_4
      try clear hcz13_5
      try clear hcz13_6
      try clear hcz22_0
      try clear hcz22_1
      try clear hcz22_2
      try clear hcz22_3
      try clear hcz22_4
      try clear hcz22_5
      try clear hcz22_6
      try clear hcz28_0
      try clear hcz28_1
      try clear hcz28_2
      try clear hcz28_3
      try clear hcz28_4
      try clear hcz28_5
      try clear hcz28_6
      try clear hcz37_0
      try clear hcz37_1
      try clear hcz37_2
      try clear hcz37_3
      try clear hcz37_4
      try clear hcz37_5
      try clear hcz37_6
      try clear hcz42_0
      try clear hcz42_1
      try clear hcz42_2
      try clear hcz42_3
      try clear hcz42_4
      try clear hcz42_5
      try clear hcz42_6
      try clear hcz51_0
      try clear hcz51_1
      try clear hcz51_2
      try clear hcz51_3
      try clear hcz51_4
      try clear hcz51_5
      try clear hcz51_6
      try clear hfz13_0
      try clear hfz13_1
      try clear hfz13_2
      try clear hfz13_3
      try clear hfz13_4
      try clear hfz13_5
      try clear hfz13_6
      try clear hfz22_0
      try clear hfz22_1
      try clear hfz22_2
      try clear hfz22_3
      try clear hfz22_4
      try clear hfz22_5
      try clear hfz22_6
      try clear hfz28_0
      try clear hfz28_1
      try clear hfz28_2
      try clear hfz28_3
      try clear hfz28_4
      try clear hfz28_5
      try clear hfz28_6
      try clear hfz37_0
      try clear hfz37_1
      try clear hfz37_2
      try clear hfz37_3
      try clear hfz37_4
      try clear hfz37_5
      try clear hfz37_6
      try clear hfz42_0
      try clear hfz42_1
      try clear hfz42_2
      try clear hfz42_3
      try clear hfz42_4
      try clear hfz42_5
      try clear hfz42_6
      try clear hfz51_0
      try clear hfz51_1
      try clear hfz51_2
      try clear hfz51_3
      try clear hfz51_4
      try clear hfz51_5
      try clear hfz51_6
      obtain⟨x5_1,x29_1,rfl,HA,HK1,HO_3,HO_5,HO_116005,HO_116006,BK115,HB⟩:=hrel
      cases gk with
      | zero=>exact absurd HA.out (by simp[qqz.l0])
      | succ k1 =>
       have H:=HA.out
       clear HA
       simp only[qqz.l0] at H
       by_cases c52:x29_1 < (t101.length:Int)
       ·rw[if_pos c52] at H
        have c52b0:decide (x29_1 < (t101.length:Int))=true:=decide_eq_true c52
        clear c52
        obtain⟨ji53,hji53⟩ : ∃ j_:Int,(wrap64 ((wrap64 ((t101.length:Int) - 1)) - x29_1))=j_:=⟨_,rfl⟩
        replace H:(if 0≤(ji53) then(if (ji53) < (t101.length:Int) then(if 0≤x29_1 then(if x29_1 < (t101.length:Int) then((some (([(⟨(vz t101 (ji53)).f0,(vz t101 (ji53)).f1,(vz t101 (ji53)).f2,(vz t101 (ji53)).f3⟩ : S34),(⟨(vz t101 x29_1).f0,(vz t101 x29_1).f1,(vz t101 x29_1).f2,(vz t101 x29_1).f3⟩ : S34)]:List (S34)):List (S34))).bind fun y130=>(if x5_1.length + y130.length < 2932031007402 then(qqz.l0 k1 t101 (x5_1 ++ y130) (t101.length:Int) (wrap64 (x29_1 + 1)) t104 t105 t106 t107 t108 t109 t112) else(none))) else(none)) else(none)) else(none)) else(none))=some r:=by first|(rw[hji53] at H;exact H)|(simp only[hji53] at H ⊢;exact H)
        have hji53w:(IntKind.i64.wrap ((wrap64 ((t101.length:Int) - 1)) - x29_1))=ji53:=(i64_w _).trans hji53
        by_cases c54 : 0≤(ji53)
        ·rw[if_pos c54] at H
         have c54b0:decide (0≤(ji53))=true:=decide_eq_true c54
         clear c54
         by_cases c55:(ji53) < (t101.length:Int)
         ·rw[if_pos c55] at H
          have c55b0:decide ((ji53) < (t101.length:Int))=true:=decide_eq_true c55
          clear c55
          by_cases c56 : 0≤x29_1
          ·rw[if_pos c56] at H
           have c56b0:decide (0≤x29_1)=true:=decide_eq_true c56
           clear c56
           by_cases c57:x29_1 < (t101.length:Int)
           ·rw[if_pos c57] at H
            have c57b0:decide (x29_1 < (t101.length:Int))=true:=decide_eq_true c57
            clear c57
            obtain⟨y130,hy130⟩ : ∃ y_:List (S34),y_=(([(⟨(vz t101 (ji53)).f0,(vz t101 (ji53)).f1,(vz t101 (ji53)).f2,(vz t101 (ji53)).f3⟩ : S34),(⟨(vz t101 x29_1).f0,(vz t101 x29_1).f1,(vz t101 x29_1).f2,(vz t101 x29_1).f3⟩ : S34)]:List (S34))):=⟨_,rfl⟩
            replace H:(if x5_1.length + y130.length < 2932031007402 then(qqz.l0 k1 t101 (x5_1 ++ y130) (t101.length:Int) (wrap64 (x29_1 + 1)) t104 t105 t106 t107 t108 t109 t112) else(none))=some r:=by first|(rw[hy130];with_reducible exact H)|(have H2_:=(Option.bind_some _ _).symm.trans H;rw[hy130];with_reducible exact H2_)|(have H2_:=(Option.bind_some _ _).symm.trans H;with_reducible exact H2_)|with_reducible exact H|(rw[hy130];exact H)|exact H
            have Ny130:=U.mk hy130
            clear hy130
            by_cases c58:x5_1.length + y130.length < 2932031007402
            ·rw[if_pos c58] at H
             have LMc58:=U.mk c58
             clear c58
             obtain⟨y133,hy133⟩ : ∃ y_:List (S34),y_=(x5_1 ++ y130):=⟨_,rfl⟩
             replace H:(qqz.l0 k1 t101 y133 (t101.length:Int) (wrap64 (x29_1 + 1)) t104 t105 t106 t107 t108 t109 t112)=some r:=by first|(rw[hy133];with_reducible exact H)|(have H2_:=(Option.bind_some _ _).symm.trans H;rw[hy133];with_reducible exact H2_)|(have H2_:=(Option.bind_some _ _).symm.trans H;with_reducible exact H2_)|with_reducible exact H|(rw[hy133];exact H)|exact H
             have Ny133:=U.mk hy133
             clear hy133
             have H':=U.mk H
             clear H
             try go_wp2
             replace HO_3:=U.mk (Kd.zw HO_3.out)
             replace HO_5:=U.mk (Kd.zw HO_5.out)
             replace HO_116005:=U.mk (Kd.zw HO_116005.out)
             replace HO_116006:=U.mk (Kd.zw HO_116006.out)
             replace BK115:=U.mk (qx BK115.out)
             replace HB:=U.mk (qq HB.out)
             have p128 : 0≤((ji53):Int):=of_decide_eq_true (by assumption)
             have q128:(ji53) < (t101.length:Int):=of_decide_eq_true (by assumption)
             obtain⟨ad128,e128,hx128_0,hx128_1,hx128_2,hx128_3⟩:=at_T34 (Kd.R_reads' HO_3.out).2.2 (ji53) p128 q128
             cases e128
             replace p128:=eq_true p128
             replace q128:=eq_true q128
             have p129 : 0≤(x29_1:Int):=of_decide_eq_true (by assumption)
             have q129:x29_1 < (t101.length:Int):=of_decide_eq_true (by assumption)
             obtain⟨ad129,e129,hx129_0,hx129_1,hx129_2,hx129_3⟩:=at_T34 (Kd.R_reads' HO_3.out).2.2 x29_1 p129 q129
             obtain rfl:ad128=ad129:=(by injection e129)
             replace p129:=eq_true p129
             replace q129:=eq_true q129
             refine start_ (n:=16) (S:=fun w'=>w'.cell? (ad128.add (((ji53)).toNat * 4))=some (.int .i64 ((vz t101 (ji53)).f0))∧w'.cell? ⟨(ad128.add (((ji53)).toNat * 4)).block,(ad128.add (((ji53)).toNat * 4)).off + 1,none⟩ = some (.int .i64 ((vz t101 (ji53)).f1))∧w'.cell? ⟨(ad128.add (((ji53)).toNat * 4)).block,(ad128.add (((ji53)).toNat * 4)).off + 2,none⟩ = some (.string ((vz t101 (ji53)).f2))∧w'.cell? ⟨(ad128.add (((ji53)).toNat * 4)).block,(ad128.add (((ji53)).toNat * 4)).off + 3,none⟩ = some (.string ((vz t101 (ji53)).f3))∧w'.cell? (ad128.add ((x29_1).toNat * 4))=some (.int .i64 ((vz t101 x29_1).f0))∧w'.cell? ⟨(ad128.add ((x29_1).toNat * 4)).block,(ad128.add ((x29_1).toNat * 4)).off + 1,none⟩ = some (.int .i64 ((vz t101 x29_1).f1))∧w'.cell? ⟨(ad128.add ((x29_1).toNat * 4)).block,(ad128.add ((x29_1).toNat * 4)).off + 2,none⟩ = some (.string ((vz t101 x29_1).f2))∧w'.cell? ⟨(ad128.add ((x29_1).toNat * 4)).block,(ad128.add ((x29_1).toNat * 4)).off + 3,none⟩ = some (.string ((vz t101 x29_1).f3))) (ds:=[14]) #[Y,Y,Y,Y,Y,Y,Y,Y,Y,Y,Y,Y,Y,Y,Y,Y] (by kernel_rfl) rfl rfl ⟨hx128_0,hx128_1,hx128_2,hx128_3,hx129_0,hx129_1,hx129_2,hx129_3⟩ (fun hHeld=>?_);refine with_tabW qqz.tab13 qqz.bits13 (fun HT_ HW_=>?_)
             generalize wr.drew=w59 at HO_3 HO_5 HO_116005 HO_116006 BK115 HB hx128_0 hx128_1 hx128_2 hx128_3 hx129_0 hx129_1 hx129_2 hx129_3 hHeld ⊢
             refine pure_ (i:=0) (N:=some 32) (v:=?_) (a':=?_) #[Z,Y,Y,Y,Y,Y,Y,Y,Y,Y,Y,Y,Y,Y,Y,Y] rfl rfl (any_of HT_.out (by kernel_rfl)) (fun _ _ _ h=>h) (Or.inl ⟨by rfl,?_⟩) ?_ ?_
             rotate_left
             ·intro w'
              go_simp
              with_reducible rfl
             rotate_left
             ·simp only[Act.put,jq5,jq6,jq7,i64_w,i32_w]
              rfl
             refine pure_ (i:=1) (N:=some 33) (v:=?_) (a':=?_) #[Z,Z,Y,Y,Y,Y,Y,Y,Y,Y,Y,Y,Y,Y,Y,Y] rfl rfl (any_of HT_.out (by kernel_rfl)) (fun _ _ _ h=>h) (Or.inl ⟨by rfl,?_⟩) ?_ ?_
             rotate_left
             ·intro w'
              go_simp
              with_reducible rfl
             rotate_left
             ·simp only[Act.put,jq5,jq6,jq7,i64_w,i32_w]
              rfl
             refine pure_ (i:=2) (N:=some 34) (v:=?_) (a':=?_) #[Z,Z,Z,Y,Y,Y,Y,Y,Y,Y,Y,Y,Y,Y,Y,Y] rfl rfl (any_of HT_.out (by kernel_rfl)) (fun _ _ _ h=>h) (Or.inl ⟨by rfl,?_⟩) ?_ ?_
             rotate_left
             ·intro w'
              go_simp
              with_reducible rfl
             rotate_left
             ·simp only[Act.put,jq5,jq6,jq7,i64_w,i32_w]
              rfl
             refine pure_ (i:=3) (N:=some 35) (v:=?_) (a':=?_) #[Z,Z,Z,Z,Y,Y,Y,Y,Y,Y,Y,Y,Y,Y,Y,Y] rfl rfl (any_of HT_.out (by kernel_rfl)) (fun _ _ _ h=>h) (Or.inl ⟨by rfl,?_⟩) ?_ ?_
             rotate_left
             ·intro w'
              go_simp
              with_reducible rfl
             rotate_left
             ·simp only[Act.put,jq5,jq6,jq7,i64_w,i32_w]
              rfl
             refine pure_ (i:=4) (N:=some 36) (v:=?_) (a':=?_) #[Z,Z,Z,Z,Z,Y,Y,Y,Y,Y,Y,Y,Y,Y,Y,Y] rfl rfl (any_of HT_.out (by kernel_rfl)) (fun _ _ _ h=>h) (Or.inl ⟨by rfl,?_⟩) ?_ ?_
             rotate_left
             ·intro w'
              go_simp
              with_reducible rfl
             rotate_left
             ·simp only[Act.put,jq5,jq6,jq7,i64_w,i32_w]
              rfl
             refine pure_ (i:=5) (N:=some 37) (v:=?_) (a':=?_) #[Z,Z,Z,Z,Z,Z,Y,Y,Y,Y,Y,Y,Y,Y,Y,Y] rfl rfl (any_of HT_.out (by kernel_rfl)) (fun _ _ _ h=>h) (Or.inl ⟨by rfl,?_⟩) ?_ ?_
             rotate_left
             ·intro w'
              go_simp
              with_reducible rfl
             rotate_left
             ·simp only[Act.put,jq5,jq6,jq7,i64_w,i32_w]
              rfl
             refine pure_ (i:=6) (N:=some 38) (v:=?_) (a':=?_) #[Z,Z,Z,Z,Z,Z,Z,Y,Y,Y,Y,Y,Y,Y,Y,Y] rfl rfl (any_of HT_.out (by kernel_rfl)) (fun _ _ _ h=>h) (Or.inl ⟨by rfl,?_⟩) ?_ ?_
             rotate_left
             ·intro w'
              go_simp
              with_reducible rfl
             rotate_left
             ·simp only[Act.put,jq5,jq6,jq7,i64_w,i32_w]
              rfl
             refine pure_ (i:=7) (N:=some 39) (v:=?_) (a':=?_) #[Z,Z,Z,Z,Z,Z,Z,Z,Y,Y,Y,Y,Y,Y,Y,Y] rfl rfl (any_of HT_.out (by kernel_rfl)) (fun _ _ _ h=>h) (Or.inl ⟨by rfl,?_⟩) ?_ ?_
             rotate_left
             ·intro w'
              go_simp
              with_reducible rfl
             rotate_left
             ·simp only[Act.put,jq5,jq6,jq7,i64_w,i32_w]
              rfl
             refine pure_ (i:=9) (N:=some 41) (v:=?_) (a':=?_) #[Z,Z,Z,Z,Z,Z,Z,Z,Y,Z,Y,Y,Y,Y,Y,Y] rfl rfl (any_of HT_.out (by kernel_rfl)) (fun _ _ _ h=>h) (Or.inl ⟨by rfl,?_⟩) ?_ ?_
             rotate_left
             ·intro w'
              go_simp
              with_reducible rfl
             rotate_left
             ·simp only[Act.put,jq5,jq6,jq7,i64_w,i32_w]
              rfl
             refine pure_ (i:=10) (N:=some 42) (v:=?_) (a':=?_) #[Z,Z,Z,Z,Z,Z,Z,Z,Y,Z,Z,Y,Y,Y,Y,Y] rfl rfl (any_of HT_.out (by kernel_rfl)) (fun _ _ _ h=>h) (Or.inl ⟨by rfl,?_⟩) ?_ ?_
             rotate_left
             ·intro w'
              go_simp
              with_reducible rfl
             rotate_left
             ·simp only[Act.put,jq5,jq6,jq7,i64_w,i32_w]
              rfl
             refine pure_ (i:=11) (N:=some 43) (v:=?_) (a':=?_) #[Z,Z,Z,Z,Z,Z,Z,Z,Y,Z,Z,Z,Y,Y,Y,Y] rfl rfl (any_of HT_.out (by kernel_rfl)) (fun _ _ _ h=>h) (Or.inl ⟨by rfl,?_⟩) ?_ ?_
             rotate_left
             ·intro w'
              go_simp
              with_reducible rfl
             rotate_left
             ·simp only[Act.put,jq5,jq6,jq7,i64_w,i32_w]
              rfl
             refine take_ (i:=8) (N:=some 40) (v:=?_) (a':=?_) #[Z,Z,Z,Z,Z,Z,Z,Z,Z,Z,Z,Z,Y,Y,Y,Y] rfl rfl (take_ofW HT_.out HW_.out (by kernel_rfl)) (fun _ _ _ h=>h) (Or.inl ⟨by rfl,?_⟩) hHeld ?_ ?_
             rotate_left
             ·rintro w' ⟨s0,s1,s2,s3,s4,s5,s6,s7⟩
              go_simp
              with_reducible rfl
             rotate_left
             ·simp only[Act.put,jq5,jq6,jq7,i64_w,i32_w]
              rfl
             refine take_ (i:=12) (N:=some 44) (v:=?_) (a':=?_) #[Z,Z,Z,Z,Z,Z,Z,Z,Z,Z,Z,Z,Z,Y,Y,Y] rfl rfl (take_ofW HT_.out HW_.out (by kernel_rfl)) (fun _ _ _ h=>h) (Or.inl ⟨by rfl,?_⟩) hHeld ?_ ?_
             rotate_left
             ·rintro w' ⟨s0,s1,s2,s3,s4,s5,s6,s7⟩
              go_simp
              with_reducible rfl
             rotate_left
             ·simp only[Act.put,jq5,jq6,jq7,i64_w,i32_w]
              rfl
             refine one_ (i:=13) (N:=some 45) #[Z,Z,Z,Z,Z,Z,Z,Z,Z,Z,Z,Z,Z,Z,Y,Y] rfl rfl (one_of HT_.out (by kernel_rfl)) (by decide) (fun K hK=>?_)
             refine Kd.R_lit_step k34 _ 34 ?hg (N:=45) ?hd (xs:=([(⟨(vz t101 (ji53)).f0,(vz t101 (ji53)).f1,(vz t101 (ji53)).f2,(vz t101 (ji53)).f3⟩ : S34),(⟨(vz t101 x29_1).f0,(vz t101 x29_1).f1,(vz t101 x29_1).f2,(vz t101 x29_1).f3⟩ : S34)]:List (S34))) (inner:=[.int .i64 ((vz t101 (ji53)).f0),.int .i64 ((vz t101 (ji53)).f1),.string ((vz t101 (ji53)).f2),.string ((vz t101 (ji53)).f3),.int .i64 ((vz t101 x29_1).f0),.int .i64 ((vz t101 x29_1).f1),.string ((vz t101 x29_1).f2),.string ((vz t101 x29_1).f3)]) (ok:=fun _=>True) (okp:=fun _=>True) ?hr ?hp (fun _ hk=>hk) trivial (Below.refl _ _) (Nat.le_refl _) (by simp) ?_;(case hd=>rfl);(case hg=>rfl);(case hr=>first|(go_simp;done)|(go_simp;rfl));(case hp=>exact(Reps.c4 (show Kd.M k34 _ _ _ (⟨(vz t101 (ji53)).f0,(vz t101 (ji53)).f1,(vz t101 (ji53)).f2,(vz t101 (ji53)).f3⟩ : S34) [.int .i64 ((vz t101 (ji53)).f0),.int .i64 ((vz t101 (ji53)).f1),.string ((vz t101 (ji53)).f2),.string ((vz t101 (ji53)).f3)] from(k34_mkM _ _ _ (⟨(vz t101 (ji53)).f0,(vz t101 (ji53)).f1,(vz t101 (ji53)).f2,(vz t101 (ji53)).f3⟩ : S34) )) (Reps.c4 (show Kd.M k34 _ _ _ (⟨(vz t101 x29_1).f0,(vz t101 x29_1).f1,(vz t101 x29_1).f2,(vz t101 x29_1).f3⟩ : S34) [.int .i64 ((vz t101 x29_1).f0),.int .i64 ((vz t101 x29_1).f1),.string ((vz t101 x29_1).f2),.string ((vz t101 x29_1).f3)] from(k34_mkM _ _ _ (⟨(vz t101 x29_1).f0,(vz t101 x29_1).f1,(vz t101 x29_1).f2,(vz t101 x29_1).f3⟩ : S34) )) (Reps.none _ _))))
             intro v131 w60 ho61 hb hg_ hnew_
             have HS0_:=(hb.cell (World.block_lt_of_cell? _ _ (hHeld.1))).trans (hHeld.1)
             have HS1_:=(hb.cell (World.block_lt_of_cell? _ _ (hHeld.2.1))).trans (hHeld.2.1)
             have HS2_:=(hb.cell (World.block_lt_of_cell? _ _ (hHeld.2.2.1))).trans (hHeld.2.2.1)
             have HS3_:=(hb.cell (World.block_lt_of_cell? _ _ (hHeld.2.2.2.1))).trans (hHeld.2.2.2.1)
             have HS4_:=(hb.cell (World.block_lt_of_cell? _ _ (hHeld.2.2.2.2.1))).trans (hHeld.2.2.2.2.1)
             have HS5_:=(hb.cell (World.block_lt_of_cell? _ _ (hHeld.2.2.2.2.2.1))).trans (hHeld.2.2.2.2.2.1)
             have HS6_:=(hb.cell (World.block_lt_of_cell? _ _ (hHeld.2.2.2.2.2.2.1))).trans (hHeld.2.2.2.2.2.2.1)
             have HS7_:=(hb.cell (World.block_lt_of_cell? _ _ (hHeld.2.2.2.2.2.2.2))).trans (hHeld.2.2.2.2.2.2.2)
             clear hg_ hnew_
             (first|rw[← Ny130.out] at ho61|(simp only[Int.reduceToNat] at ho61;rw[← Ny130.out] at ho61))
             replace HO_116006:=U.mk (Kd.R_below (by solve_by_elim only[HO_116006.out,Kd.zv,Kd.zk,Kd.zw]) hb)
             have HO132:=U.mk (Kd.R_lower (Kd.R_new' (Kd.R_new' (Kd.R_new' ho61 (Kd.R_lt (by solve_by_elim only[HO_3.out,Kd.zv,Kd.zk,Kd.zw]))) (Kd.R_lt (by solve_by_elim only[HO_5.out,Kd.zv,Kd.zk,Kd.zw]))) (Kd.R_lt (by solve_by_elim only[HO_116005.out,Kd.zv,Kd.zk,Kd.zw]))) (zj (by solve_by_elim (maxDepth:=20) only[HB.out,G,J,qq,qk,GE115.out])))
             replace HO_3:=U.mk (Kd.R_elder' (by solve_by_elim only[HO_3.out,Kd.zv,Kd.zk,Kd.zw]) (Kd.R_base ho61) hb)
             replace HO_5:=U.mk (Kd.R_elder' (by solve_by_elim only[HO_5.out,Kd.zv,Kd.zk,Kd.zw]) (Kd.R_base ho61) hb)
             replace HO_116005:=U.mk (Kd.R_elder' (by solve_by_elim only[HO_116005.out,Kd.zv,Kd.zk,Kd.zw]) (Kd.R_base ho61) hb)
             replace BK115:=U.mk (kv (g:=gb115) (o:=.cells #[.int .i64 t104,.int .i64 t105,.int .i64 t106,.string t107,.string t108,.slice Ao43 t109.length co43,.slice Ao44 t112.length co44] 58 (0,0)) (by solve_by_elim only[BK115.out,qw,qx,qv]) hb)
             replace HB:=U.mk (zz (by solve_by_elim (maxDepth:=20) only[HB.out,G,J,qq,qk,GE115.out]) hb)
             clear hb ho61
             obtain⟨Ao63,co63,eo63⟩:=Kd.R_slice HO132.out
             (first|subst eo63|(injection eo63 with f1_ f2_ f3_;have f4_:=f1_.symm;have f5_:=f3_.symm;clear f1_ f2_ f3_;subst f4_;subst f5_))
             refine hK.out _ _ ⟨HS0_,HS1_,HS2_,HS3_,HS4_,HS5_,HS6_,HS7_⟩ (fun hHeld=>?_)
             clear hK K
             refine norm_ (a':=?_) ?_ ?_
             rotate_left
             ·show Act.put _ (some 45) _=_
              simp only[Act.put,jq5,jq6,jq7,i64_w,i32_w]
              rfl
             refine last_ (i:=14) (N:=some 46) #[Z,Z,Z,Z,Z,Z,Z,Z,Z,Z,Z,Z,Z,Z,Z,Y] rfl rfl (one_of HT_.out (by kernel_rfl)) (by decide) (fun K hK=>?_)
             refine Kd.R_append_rows_step k34 (w0:=w) w.heap.size (by rfl) (.tmp 32) (.tmp 45) 54 34 (.agg #[(.int .i64 0),(.int .i64 0),(.string ⟨#[]⟩),(.string ⟨#[]⟩)]) 48 rfl Try.underlying54 info34 rfl (by decide) (by omega) u5 x5_1 y130 _ _ _ (fun k_=>some k_≠(.slice (some ad128) t101.length co39:Value).ownBlock∧some k_≠(.slice Ao43 t109.length co43:Value).ownBlock∧some k_≠(.slice Ao63 y130.length co63:Value).ownBlock) (fun _=>False) rfl rfl ?aO ?aR (fun _ _ h=>h) (fun _ h=>h.elim) ?aF ?aB ?aS ?aL ?_
             (case aR=>repeat(first|exact(Kd.R_reads' HO132.out).2.2|(with_reducible refine Kd.C_alloc ?_ _)|(with_reducible refine Kd.C_drewN ?_ _)|(with_reducible refine Kd.C_drew ?_)))
             (case aB=>exact(by solve_by_elim (maxDepth:=20) only[HB.out,G,J,qq,qk,GE115.out]))
             (case aF=>exact(fun k_ hk=>⟨Kd.fresh' (Kd.R_lt (by solve_by_elim only[HO_3.out,Kd.zv,Kd.zk,Kd.zw])) k_ hk,Kd.fresh' (Kd.R_lt (by solve_by_elim only[HO_116005.out,Kd.zv,Kd.zk,Kd.zw])) k_ hk,Kd.fresh' (Kd.R_lt (by solve_by_elim only[HO132.out,Kd.zv,Kd.zk,Kd.zw])) k_ hk⟩))
             (case aO=>exact(by(with_reducible repeat(first|apply Kd.zv|apply Kd.zk|apply Kd.zw));exact Kd.R_mono HO_5.out (fun _ hk=>⟨hk.1.1,⟨hk.1.2,hk.2⟩⟩)))
             (case aS=>exact(zj (by solve_by_elim (maxDepth:=20) only[HB.out,G,J,qq,qk,GE115.out])))
             (case aL=>have:=LMc58.out;omega)
             intro v134 w62 ho hb hg hat
             rw[← Ny133.out] at ho
             replace HO_3:=U.mk (Kd.R_after (ok:=(fun k_=>some k_≠(.slice Ao43 t109.length co43:Value).ownBlock∧some k_≠(.slice Ao63 y130.length co63:Value).ownBlock)) (by(with_reducible repeat(first|apply Kd.zv|apply Kd.zk|apply Kd.zw));exact Kd.R_mono HO_3.out (fun _ hk=>⟨⟨hk.1.2,hk.2⟩,hk.1.1⟩)) hg hat)
             replace HO_116005:=U.mk (Kd.R_after (ok:=(fun k_=>some k_≠(.slice (some ad128) t101.length co39:Value).ownBlock∧some k_≠(.slice Ao63 y130.length co63:Value).ownBlock)) (by(with_reducible repeat(first|apply Kd.zv|apply Kd.zk|apply Kd.zw));exact Kd.R_mono HO_116005.out (fun _ hk=>⟨⟨hk.1.1,hk.2⟩,hk.1.2⟩)) hg hat)
             replace HO_116006:=U.mk (Kd.R_over' (by solve_by_elim only[HO_116006.out,Kd.zv,Kd.zk,Kd.zw]) (Kd.R_typed (by solve_by_elim only[HO_5.out,Kd.zv,Kd.zk,Kd.zw])) (by decide) hg)
             replace BK115:=U.mk (blk_grown (g:=gb115) (o:=.cells #[.int .i64 t104,.int .i64 t105,.int .i64 t106,.string t107,.string t108,.slice Ao43 t109.length co43,.slice Ao44 t112.length co44] 58 (0,0)) (by solve_by_elim only[BK115.out,qw,qx,qv]) hg (Kd.R_ne HO_5.out BK115.out (by decide)))
             replace HO132:=U.mk (Kd.R_after (ok:=(fun k_=>some k_≠(.slice (some ad128) t101.length co39:Value).ownBlock∧some k_≠(.slice Ao43 t109.length co43:Value).ownBlock)) (by(with_reducible repeat(first|apply Kd.zv|apply Kd.zk|apply Kd.zw));exact Kd.R_mono HO132.out (fun _ hk=>⟨⟨hk.1.1.2,hk.2⟩,hk.1.2⟩)) hg hat)
             replace HB:=U.mk (hb)
             have HO135:=U.mk (ho)
             clear HO_5
             clear ho hb hg hat
             refine hK.out _ _ ?_
             clear hK K
             refine norm_ (a':=?_) ?_ ?_
             rotate_left
             ·show Act.put _ (some 46) _=_
              simp only[Act.put,jq5,jq6,jq7,i64_w,i32_w]
              rfl
             refine pure_ (i:=15) (N:=some 5) (v:=?_) (a':=?_) #[Z,Z,Z,Z,Z,Z,Z,Z,Z,Z,Z,Z,Z,Z,Z,Z] rfl rfl (any_of HT_.out (by kernel_rfl)) (fun _ _ _ h=>h) (Or.inl ⟨by rfl,?_⟩) ?_ ?_
             rotate_left
             ·intro w'
              go_simp
              with_reducible rfl
             rotate_left
             ·simp only[Act.put,jq5,jq6,jq7,i64_w,i32_w]
              rfl
             refine done_ (done_of HT_.out (by kernel_rfl)) ?_
             try go_wp2
             go_roundg k1
             case measure=>have:=HK1.out;omega
             case rel=>exact⟨(y133),(wrap64 (x29_1 + 1)),(by first|rfl|(simp;done)|(simp[*];done)),H',⟨by have:=HK1.out;omega⟩,⟨by(with_reducible repeat(first|apply Kd.zv|apply Kd.zk|apply Kd.zw));exact Kd.R_mono HO_3.out (fun _ hk=>⟨hk.2,hk.1.1⟩)⟩,⟨by(with_reducible repeat(first|apply Kd.zv|apply Kd.zk|apply Kd.zw));exact Kd.R_mono HO135.out (fun _ hk=>⟨hk.1,hk.2.1⟩)⟩,⟨by(with_reducible repeat(first|apply Kd.zv|apply Kd.zk|apply Kd.zw));exact Kd.R_mono HO_116005.out (fun _ hk=>⟨hk.1.1,hk.2⟩)⟩,⟨by(with_reducible repeat(first|apply Kd.zv|apply Kd.zk|apply Kd.zw));exact HO_116006.out⟩,⟨by(with_reducible repeat(first|refine qw ?_ _|refine qx ?_|refine qv ?_ _));exact BK115.out⟩,⟨by repeat(first|(with_reducible first|exact HB.out|apply G|apply J|apply qq|refine qk ?_ GE115.out)|exact HB.out)⟩⟩
            ·rw[if_neg c58] at H
             exact absurd H (by simp)
           ·rw[if_neg c57] at H
            exact absurd H (by simp)
          ·rw[if_neg c56] at H
           exact absurd H (by simp)
         ·rw[if_neg c55] at H
          exact absurd H (by simp)
        ·rw[if_neg c54] at H
         exact absurd H (by simp)
       ·rw[if_neg c52] at H
        have c52b0:decide (x29_1 < (t101.length:Int))=false:=decide_eq_false c52
        clear c52
        replace H:=jq8.mp H
        obtain⟨⟨t136,t137,t138,t139,t140,t141,t144⟩,A640,H⟩:=H
        try dsimp only at H
        have A64:=U.mk A640
        clear A640
        replace H:=jq8.mp H
        obtain⟨t147,A650,H⟩:=H
        try dsimp only at H
        have A65:=U.mk A650
        clear A650
        by_cases c66:t147=true
        ·subst c66
         have H1:((qzz.f k1 t104 t105 t106 t107 t108 t109 t112).bind fun t148=>(if t148=true then((wx.f k1 t109).bind fun bt149=>((qqv.f k1 bt149.1 bt149.2.1 bt149.2.2.1 bt149.2.2.2.1 bt149.2.2.2.2.1 bt149.2.2.2.2.2.1 bt149.2.2.2.2.2.2 t104 t105 t106 t107 t108 t109 t112).bind fun t160=>(some t160))) else(none)))=some r:=by rw[if_pos rfl] at H;exact H
         clear H
         have H:=H1
         clear H1
         replace H:=jq8.mp H
         obtain⟨t148,A670,H⟩:=H
         try dsimp only at H
         have A67:=U.mk A670
         clear A670
         by_cases c68:t148=true
         ·subst c68
          have H1:((wx.f k1 t109).bind fun bt149=>((qqv.f k1 bt149.1 bt149.2.1 bt149.2.2.1 bt149.2.2.2.1 bt149.2.2.2.2.1 bt149.2.2.2.2.2.1 bt149.2.2.2.2.2.2 t104 t105 t106 t107 t108 t109 t112).bind fun t160=>(some t160)))=some r:=by rw[if_pos rfl] at H;exact H
          clear H
          have H:=H1
          clear H1
          replace H:=jq8.mp H
          obtain⟨⟨t149,t150,t151,t152,t153,t154,t157⟩,A690,H⟩:=H
          try dsimp only at H
          have A69:=U.mk A690
          clear A690
          replace H:=jq8.mp H
          obtain⟨t160,A700,H⟩:=H
          replace H:(some t160)=some r:=H
          have A70:=U.mk A700
          clear A700
          obtain rfl:=Option.some.inj H
          try go_wp2
          replace HO_3:=U.mk (Kd.zw HO_3.out)
          replace HO_5:=U.mk (Kd.zw HO_5.out)
          replace HO_116005:=U.mk (Kd.zw HO_116005.out)
          replace HO_116006:=U.mk (Kd.zw HO_116006.out)
          replace BK115:=U.mk (qx BK115.out)
          replace HB:=U.mk (qq HB.out)
          obtain⟨Ao72,co72,eo72⟩:=Kd.R_slice HO_5.out
          (first|subst eo72|(injection eo72 with f1_ f2_ f3_;have f4_:=f1_.symm;have f5_:=f3_.symm;clear f1_ f2_ f3_;subst f4_;subst f5_))
          refine start_ (n:=10) (S:=fun w'=>w'.cell? ⟨gb115,0,none⟩ = some (.int .i64 t104)∧w'.cell? ⟨gb115,1,none⟩ = some (.int .i64 t105)∧w'.cell? ⟨gb115,2,none⟩ = some (.int .i64 t106)∧w'.cell? ⟨gb115,3,none⟩ = some (.string t107)∧w'.cell? ⟨gb115,4,none⟩ = some (.string t108)∧w'.cell? ⟨gb115,5,none⟩ = some (.slice Ao43 t109.length co43)∧w'.cell? ⟨gb115,6,none⟩ = some (.slice Ao44 t112.length co44)) (ds:=[]) #[Y,Y,Y,Y,Y,Y,Y,Y,Y,Y] (by kernel_rfl) rfl rfl ⟨(qj BK115.out 0).trans rfl,(qj BK115.out 1).trans rfl,(qj BK115.out 2).trans rfl,(qj BK115.out 3).trans rfl,(qj BK115.out 4).trans rfl,(qj BK115.out 5).trans rfl,(qj BK115.out 6).trans rfl⟩ (fun hHeld=>?_);refine with_tabW qqz.tab15 qqz.bits15 (fun HT_ HW_=>?_)
          generalize wr.drew=w71 at HO_3 HO_5 HO_116005 HO_116006 BK115 HB hHeld ⊢
          refine pure_ (i:=0) (N:=some 48) (v:=?_) (a':=?_) #[Z,Y,Y,Y,Y,Y,Y,Y,Y,Y] rfl rfl (any_of HT_.out (by kernel_rfl)) (fun _ _ _ h=>h) (Or.inl ⟨by rfl,?_⟩) ?_ ?_
          rotate_left
          ·intro w'
           go_simp
           with_reducible rfl
          rotate_left
          ·simp only[Act.put,jq5,jq6,jq7,i64_w,i32_w]
           rfl
          refine take_ (i:=2) (N:=some 50) (v:=?_) (a':=?_) #[Z,Y,Z,Y,Y,Y,Y,Y,Y,Y] rfl rfl (take_ofW HT_.out HW_.out (by kernel_rfl)) (fun _ _ _ h=>h) (Or.inl ⟨by rfl,?_⟩) hHeld ?_ ?_
          rotate_left
          ·rintro w' ⟨s0,s1,s2,s3,s4,s5,s6⟩
           go_simp
           with_reducible rfl
          rotate_left
          ·simp only[Act.put,jq5,jq6,jq7,i64_w,i32_w]
           rfl
          refine one_ (i:=1) (N:=some 49) #[Z,Z,Z,Y,Y,Y,Y,Y,Y,Y] rfl rfl (one_of HT_.out (by kernel_rfl)) (by decide) (fun K hK=>?_)
          refine goes_ Try.func37 (by kernel_rfl) rfl #[.slice Ao72 x5_1.length co72] (by rfl) rfl rfl (by(try simp only[jq0,jq1,jq2]);first|done|rfl|(simp only[jq3,jq4];rfl)) ?_
          with_reducible refine(wx.calls k1 _ _ x5_1 t136 t137 t138 t139 t140 t141 t144 _ ?side1 ?side2 A64.out).mono ?_
          (case side1=>solve_by_elim only[(Kd.R_reads' HO_5.out).2.2,Kd.C_alloc,Kd.C_drewN,Kd.C_drew])
          (case side2=>exact(Kd.R_reads' HO_5.out).2.1)
          rintro e w73 ⟨v142,v145,rfl,ho0,ho1,hb⟩
          refine⟨_,rfl,?_⟩
          have HO143:=U.mk (Kd.R_lower (Kd.R_new' (Kd.R_new' (Kd.R_new' ho0 (Kd.R_lt (by solve_by_elim only[HO_3.out,Kd.zv,Kd.zk,Kd.zw]))) (Kd.R_lt (by solve_by_elim only[HO_5.out,Kd.zv,Kd.zk,Kd.zw]))) (Kd.R_lt (by solve_by_elim only[HO_116005.out,Kd.zv,Kd.zk,Kd.zw]))) (zj (by solve_by_elim (maxDepth:=20) only[HB.out,G,J,qq,qk,GE115.out])))
          replace HO_3:=U.mk (Kd.R_elder' (by solve_by_elim only[HO_3.out,Kd.zv,Kd.zk,Kd.zw]) (Kd.R_base ho0) hb)
          replace HO_5:=U.mk (Kd.R_elder' (by solve_by_elim only[HO_5.out,Kd.zv,Kd.zk,Kd.zw]) (Kd.R_base ho0) hb)
          replace HO_116005:=U.mk (Kd.R_elder' (by solve_by_elim only[HO_116005.out,Kd.zv,Kd.zk,Kd.zw]) (Kd.R_base ho0) hb)
          have HO146:=U.mk (Kd.R_lower (Kd.R_new' ho1 (Kd.R_lt (by solve_by_elim only[HO_116006.out,Kd.zv,Kd.zk,Kd.zw]))) (zj (by solve_by_elim (maxDepth:=20) only[HB.out,G,J,qq,qk,GE115.out])))
          replace HO_116006:=U.mk (Kd.R_elder' (by solve_by_elim only[HO_116006.out,Kd.zv,Kd.zk,Kd.zw]) (Kd.R_base ho1) hb)
          replace BK115:=U.mk (kv (g:=gb115) (o:=.cells #[.int .i64 t104,.int .i64 t105,.int .i64 t106,.string t107,.string t108,.slice Ao43 t109.length co43,.slice Ao44 t112.length co44] 58 (0,0)) (by solve_by_elim only[BK115.out,qw,qx,qv]) hb)
          replace HB:=U.mk (zz (by solve_by_elim (maxDepth:=20) only[HB.out,G,J,qq,qk,GE115.out]) hb)
          (try clear hb)
          (try clear hb2)
          (try clear hk)
          (try clear hi)
          (try clear ho0)
          (try clear ho1)
          obtain⟨Ao74,co74,eo74⟩:=Kd.R_slice HO143.out
          (first|subst eo74|(injection eo74 with f1_ f2_ f3_;have f4_:=f1_.symm;have f5_:=f3_.symm;clear f1_ f2_ f3_;subst f4_;subst f5_))
          obtain⟨Ao75,co75,eo75⟩:=Kd.R_slice HO146.out
          (first|subst eo75|(injection eo75 with f1_ f2_ f3_;have f4_:=f1_.symm;have f5_:=f3_.symm;clear f1_ f2_ f3_;subst f4_;subst f5_))
          refine hK.out _ _ ⟨(qj BK115.out 0).trans rfl,(qj BK115.out 1).trans rfl,(qj BK115.out 2).trans rfl,(qj BK115.out 3).trans rfl,(qj BK115.out 4).trans rfl,(qj BK115.out 5).trans rfl,(qj BK115.out 6).trans rfl⟩ (fun hHeld=>?_)
          clear hK K
          refine norm_ (a':=?_) ?_ ?_
          rotate_left
          ·show Act.put _ (some 49) _=_
           simp only[Act.put,jq5,jq6,jq7,i64_w,i32_w]
           rfl
          refine one_ (i:=3) (N:=some 51) #[Z,Z,Z,Z,Y,Y,Y,Y,Y,Y] rfl rfl (one_of HT_.out (by kernel_rfl)) (by decide) (fun K hK=>?_)
          refine goes_ Try.func38 (by kernel_rfl) rfl #[.agg #[.int .i64 t136,.int .i64 t137,.int .i64 t138,.string t139,.string t140,.slice Ao74 t141.length co74,.slice Ao75 t144.length co75],.agg #[.int .i64 t104,.int .i64 t105,.int .i64 t106,.string t107,.string t108,.slice Ao43 t109.length co43,.slice Ao44 t112.length co44]] (by rfl) rfl rfl (by(try simp only[jq0,jq1,jq2]);first|done|rfl|(simp only[jq3,jq4];rfl)) ?_
          with_reducible refine(qqv.calls k1 t136 t137 t138 t139 t140 _ _ t141 _ _ t144 t104 t105 t106 t107 t108 _ _ t109 _ _ t112 true _ ?side1 ?side2 ?side3 ?side4 ?side5 ?side6 ?side7 ?side8 A65.out).mono ?_
          (case side1=>solve_by_elim only[(Kd.R_reads' HO143.out).2.2,Kd.C_alloc,Kd.C_drewN,Kd.C_drew])
          (case side2=>exact(Kd.R_reads' HO143.out).2.1)
          (case side3=>solve_by_elim only[(Kd.R_reads' HO146.out).2.2,Kd.C_alloc,Kd.C_drewN,Kd.C_drew])
          (case side4=>exact(Kd.R_reads' HO146.out).2.1)
          (case side5=>solve_by_elim only[(Kd.R_reads' HO_116005.out).2.2,Kd.C_alloc,Kd.C_drewN,Kd.C_drew])
          (case side6=>exact(Kd.R_reads' HO_116005.out).2.1)
          (case side7=>solve_by_elim only[(Kd.R_reads' HO_116006.out).2.2,Kd.C_alloc,Kd.C_drewN,Kd.C_drew])
          (case side8=>exact(Kd.R_reads' HO_116006.out).2.1)
          rintro e w76 ⟨rfl,hb⟩
          refine⟨_,rfl,?_⟩
          replace HO_3:=U.mk (Kd.R_below (by solve_by_elim only[HO_3.out,Kd.zv,Kd.zk,Kd.zw]) hb)
          replace HO_5:=U.mk (Kd.R_below (by solve_by_elim only[HO_5.out,Kd.zv,Kd.zk,Kd.zw]) hb)
          replace HO_116005:=U.mk (Kd.R_below (by solve_by_elim only[HO_116005.out,Kd.zv,Kd.zk,Kd.zw]) hb)
          replace HO_116006:=U.mk (Kd.R_below (by solve_by_elim only[HO_116006.out,Kd.zv,Kd.zk,Kd.zw]) hb)
          replace HO143:=U.mk (Kd.R_below (by solve_by_elim only[HO143.out,Kd.zv,Kd.zk,Kd.zw]) hb)
          replace HO146:=U.mk (Kd.R_below (by solve_by_elim only[HO146.out,Kd.zv,Kd.zk,Kd.zw]) hb)
          replace BK115:=U.mk (kv (g:=gb115) (o:=.cells #[.int .i64 t104,.int .i64 t105,.int .i64 t106,.string t107,.string t108,.slice Ao43 t109.length co43,.slice Ao44 t112.length co44] 58 (0,0)) (by solve_by_elim only[BK115.out,qw,qx,qv]) hb)
          replace HB:=U.mk (zz (by solve_by_elim (maxDepth:=20) only[HB.out,G,J,qq,qk,GE115.out]) hb)
          (try clear hb)
          (try clear hb2)
          (try clear hk)
          (try clear hi)
          refine hK.out _ _ ⟨(qj BK115.out 0).trans rfl,(qj BK115.out 1).trans rfl,(qj BK115.out 2).trans rfl,(qj BK115.out 3).trans rfl,(qj BK115.out 4).trans rfl,(qj BK115.out 5).trans rfl,(qj BK115.out 6).trans rfl⟩ (fun hHeld=>?_)
          clear hK K
          refine norm_ (a':=?_) ?_ ?_
          rotate_left
          ·show Act.put _ (some 51) _=_
           simp only[Act.put,jq5,jq6,jq7,i64_w,i32_w]
           rfl
          refine pure_ (i:=4) (N:=some 52) (v:=?_) (a':=?_) #[Z,Z,Z,Z,Z,Y,Y,Y,Y,Y] rfl rfl (any_of HT_.out (by kernel_rfl)) (fun _ _ _ h=>h) (Or.inl ⟨by rfl,?_⟩) ?_ ?_
          rotate_left
          ·intro w'
           go_simp
           with_reducible rfl
          rotate_left
          ·simp only[Act.put,jq5,jq6,jq7,i64_w,i32_w]
           rfl
          refine pure_ (i:=5) (N:=some 53) (v:=?_) (a':=?_) #[Z,Z,Z,Z,Z,Z,Y,Y,Y,Y] rfl rfl (any_of HT_.out (by kernel_rfl)) (fun _ _ _ h=>h) (Or.inl ⟨by rfl,?_⟩) ?_ ?_
          rotate_left
          ·intro w'
           go_simp
           with_reducible rfl
          rotate_left
          ·simp only[Act.put,jq5,jq6,jq7,i64_w,i32_w]
           rfl
          refine take_ (i:=6) (N:=some 54) (v:=?_) (a':=?_) #[Z,Z,Z,Z,Z,Z,Z,Y,Y,Y] rfl rfl (take_ofW HT_.out HW_.out (by kernel_rfl)) (fun _ _ _ h=>h) (Or.inl ⟨by rfl,?_⟩) hHeld ?_ ?_
          rotate_left
          ·rintro w' ⟨s0,s1,s2,s3,s4,s5,s6⟩
           go_simp
           with_reducible rfl
          rotate_left
          ·simp only[Act.put,jq5,jq6,jq7,i64_w,i32_w]
           rfl
          refine one_ (i:=7) (N:=some 55) #[Z,Z,Z,Z,Z,Z,Z,Z,Y,Y] rfl rfl (one_of HT_.out (by kernel_rfl)) (by decide) (fun K hK=>?_)
          refine goes_ Try.func40 (by kernel_rfl) rfl #[.agg #[.int .i64 t104,.int .i64 t105,.int .i64 t106,.string t107,.string t108,.slice Ao43 t109.length co43,.slice Ao44 t112.length co44]] (by rfl) rfl rfl (by(try simp only[jq0,jq1,jq2]);first|done|rfl|(simp only[jq3,jq4];rfl)) ?_
          with_reducible refine(qzz.calls k1 t104 t105 t106 t107 t108 _ _ t109 _ _ t112 true _ ?side1 ?side2 ?side3 ?side4 A67.out).mono ?_
          (case side1=>solve_by_elim only[(Kd.R_reads' HO_116005.out).2.2,Kd.C_alloc,Kd.C_drewN,Kd.C_drew])
          (case side2=>exact(Kd.R_reads' HO_116005.out).2.1)
          (case side3=>solve_by_elim only[(Kd.R_reads' HO_116006.out).2.2,Kd.C_alloc,Kd.C_drewN,Kd.C_drew])
          (case side4=>exact(Kd.R_reads' HO_116006.out).2.1)
          rintro e w77 ⟨rfl,hb⟩
          refine⟨_,rfl,?_⟩
          replace HO_3:=U.mk (Kd.R_below (by solve_by_elim only[HO_3.out,Kd.zv,Kd.zk,Kd.zw]) hb)
          replace HO_5:=U.mk (Kd.R_below (by solve_by_elim only[HO_5.out,Kd.zv,Kd.zk,Kd.zw]) hb)
          replace HO_116005:=U.mk (Kd.R_below (by solve_by_elim only[HO_116005.out,Kd.zv,Kd.zk,Kd.zw]) hb)
          replace HO_116006:=U.mk (Kd.R_below (by solve_by_elim only[HO_116006.out,Kd.zv,Kd.zk,Kd.zw]) hb)
          replace HO143:=U.mk (Kd.R_below (by solve_by_elim only[HO143.out,Kd.zv,Kd.zk,Kd.zw]) hb)
          replace HO146:=U.mk (Kd.R_below (by solve_by_elim only[HO146.out,Kd.zv,Kd.zk,Kd.zw]) hb)
          replace BK115:=U.mk (kv (g:=gb115) (o:=.cells #[.int .i64 t104,.int .i64 t105,.int .i64 t106,.string t107,.string t108,.slice Ao43 t109.length co43,.slice Ao44 t112.length co44] 58 (0,0)) (by solve_by_elim only[BK115.out,qw,qx,qv]) hb)
          replace HB:=U.mk (zz (by solve_by_elim (maxDepth:=20) only[HB.out,G,J,qq,qk,GE115.out]) hb)
          (try clear hb)
          (try clear hb2)
          (try clear hk)
          (try clear hi)
          refine hK.out _ _ ⟨(qj BK115.out 0).trans rfl,(qj BK115.out 1).trans rfl,(qj BK115.out 2).trans rfl,(qj BK115.out 3).trans rfl,(qj BK115.out 4).trans rfl,(qj BK115.out 5).trans rfl,(qj BK115.out 6).trans rfl⟩ (fun hHeld=>?_)
          clear hK K
          refine norm_ (a':=?_) ?_ ?_
          rotate_left
          ·show Act.put _ (some 55) _=_
           simp only[Act.put,jq5,jq6,jq7,i64_w,i32_w]
           rfl
          refine pure_ (i:=8) (N:=some 56) (v:=?_) (a':=?_) #[Z,Z,Z,Z,Z,Z,Z,Z,Z,Y] rfl rfl (any_of HT_.out (by kernel_rfl)) (fun _ _ _ h=>h) (Or.inl ⟨by rfl,?_⟩) ?_ ?_
          rotate_left
          ·intro w'
           go_simp
           with_reducible rfl
          rotate_left
          ·simp only[Act.put,jq5,jq6,jq7,i64_w,i32_w]
           rfl
          refine pure_ (i:=9) (N:=some 57) (v:=?_) (a':=?_) #[Z,Z,Z,Z,Z,Z,Z,Z,Z,Z] rfl rfl (any_of HT_.out (by kernel_rfl)) (fun _ _ _ h=>h) (Or.inl ⟨by rfl,?_⟩) ?_ ?_
          rotate_left
          ·intro w'
           go_simp
           with_reducible rfl
          rotate_left
          ·simp only[Act.put,jq5,jq6,jq7,i64_w,i32_w]
           rfl
          refine done_ (done_of HT_.out (by kernel_rfl)) ?_
          try go_wp2
          replace HO_3:=U.mk (Kd.zw HO_3.out)
          replace HO_5:=U.mk (Kd.zw HO_5.out)
          replace HO_116005:=U.mk (Kd.zw HO_116005.out)
          replace HO_116006:=U.mk (Kd.zw HO_116006.out)
          replace HO143:=U.mk (Kd.zw HO143.out)
          replace HO146:=U.mk (Kd.zw HO146.out)
          replace BK115:=U.mk (qx BK115.out)
          replace HB:=U.mk (qq HB.out)
          refine start_ (n:=6) (S:=fun w'=>w'.cell? ⟨gb115,0,none⟩ = some (.int .i64 t104)∧w'.cell? ⟨gb115,1,none⟩ = some (.int .i64 t105)∧w'.cell? ⟨gb115,2,none⟩ = some (.int .i64 t106)∧w'.cell? ⟨gb115,3,none⟩ = some (.string t107)∧w'.cell? ⟨gb115,4,none⟩ = some (.string t108)∧w'.cell? ⟨gb115,5,none⟩ = some (.slice Ao43 t109.length co43)∧w'.cell? ⟨gb115,6,none⟩ = some (.slice Ao44 t112.length co44)) (ds:=[]) #[Y,Y,Y,Y,Y,Y] (by kernel_rfl) rfl rfl ⟨(qj BK115.out 0).trans rfl,(qj BK115.out 1).trans rfl,(qj BK115.out 2).trans rfl,(qj BK115.out 3).trans rfl,(qj BK115.out 4).trans rfl,(qj BK115.out 5).trans rfl,(qj BK115.out 6).trans rfl⟩ (fun hHeld=>?_)
          generalize w77.drew=w78 at HO_3 HO_5 HO_116005 HO_116006 HO143 HO146 BK115 HB hHeld ⊢
          refine pure_ (i:=0) (N:=some 58) (v:=?_) (a':=?_) #[Z,Y,Y,Y,Y,Y] rfl rfl (by kernel_rfl) (fun _ _ _ h=>h) (Or.inl ⟨by rfl,?_⟩) ?_ ?_
          rotate_left
          ·intro w'
           go_simp
           with_reducible rfl
          rotate_left
          ·simp only[Act.put,jq5,jq6,jq7,i64_w,i32_w]
           rfl
          refine take_ (i:=1) (N:=some 59) (v:=?_) (a':=?_) #[Z,Z,Y,Y,Y,Y] rfl rfl (by kernel_rfl) (fun _ _ _ h=>h) (Or.inl ⟨by rfl,?_⟩) hHeld ?_ ?_
          rotate_left
          ·rintro w' ⟨s0,s1,s2,s3,s4,s5,s6⟩
           go_simp
           with_reducible rfl
          rotate_left
          ·simp only[Act.put,jq5,jq6,jq7,i64_w,i32_w]
           rfl
          refine take_ (i:=3) (N:=some 61) (v:=?_) (a':=?_) #[Z,Z,Y,Z,Y,Y] rfl rfl (by kernel_rfl) (fun _ _ _ h=>h) (Or.inl ⟨by rfl,?_⟩) hHeld ?_ ?_
          rotate_left
          ·rintro w' ⟨s0,s1,s2,s3,s4,s5,s6⟩
           go_simp
           with_reducible rfl
          rotate_left
          ·simp only[Act.put,jq5,jq6,jq7,i64_w,i32_w]
           rfl
          refine one_ (i:=2) (N:=some 60) #[Z,Z,Z,Z,Y,Y] rfl rfl (by kernel_rfl) (by decide) (fun K hK=>?_)
          refine goes_ Try.func37 (by kernel_rfl) rfl #[.slice Ao43 t109.length co43] (by rfl) rfl rfl (by(try simp only[jq0,jq1,jq2]);first|done|rfl|(simp only[jq3,jq4];rfl)) ?_
          with_reducible refine(wx.calls k1 _ _ t109 t149 t150 t151 t152 t153 t154 t157 _ ?side1 ?side2 A69.out).mono ?_
          (case side1=>solve_by_elim only[(Kd.R_reads' HO_116005.out).2.2,Kd.C_alloc,Kd.C_drewN,Kd.C_drew])
          (case side2=>exact(Kd.R_reads' HO_116005.out).2.1)
          rintro e w79 ⟨v155,v158,rfl,ho0,ho1,hb⟩
          refine⟨_,rfl,?_⟩
          have HO156:=U.mk (Kd.R_lower (Kd.R_new' (Kd.R_new' (Kd.R_new' (Kd.R_new' ho0 (Kd.R_lt (by solve_by_elim only[HO_3.out,Kd.zv,Kd.zk,Kd.zw]))) (Kd.R_lt (by solve_by_elim only[HO_5.out,Kd.zv,Kd.zk,Kd.zw]))) (Kd.R_lt (by solve_by_elim only[HO_116005.out,Kd.zv,Kd.zk,Kd.zw]))) (Kd.R_lt (by solve_by_elim only[HO143.out,Kd.zv,Kd.zk,Kd.zw]))) (zj (by solve_by_elim (maxDepth:=20) only[HB.out,G,J,qq,qk,GE115.out])))
          replace HO_3:=U.mk (Kd.R_elder' (by solve_by_elim only[HO_3.out,Kd.zv,Kd.zk,Kd.zw]) (Kd.R_base ho0) hb)
          replace HO_5:=U.mk (Kd.R_elder' (by solve_by_elim only[HO_5.out,Kd.zv,Kd.zk,Kd.zw]) (Kd.R_base ho0) hb)
          replace HO_116005:=U.mk (Kd.R_elder' (by solve_by_elim only[HO_116005.out,Kd.zv,Kd.zk,Kd.zw]) (Kd.R_base ho0) hb)
          replace HO143:=U.mk (Kd.R_elder' (by solve_by_elim only[HO143.out,Kd.zv,Kd.zk,Kd.zw]) (Kd.R_base ho0) hb)
          have HO159:=U.mk (Kd.R_lower (Kd.R_new' (Kd.R_new' ho1 (Kd.R_lt (by solve_by_elim only[HO_116006.out,Kd.zv,Kd.zk,Kd.zw]))) (Kd.R_lt (by solve_by_elim only[HO146.out,Kd.zv,Kd.zk,Kd.zw]))) (zj (by solve_by_elim (maxDepth:=20) only[HB.out,G,J,qq,qk,GE115.out])))
          replace HO_116006:=U.mk (Kd.R_elder' (by solve_by_elim only[HO_116006.out,Kd.zv,Kd.zk,Kd.zw]) (Kd.R_base ho1) hb)
          replace HO146:=U.mk (Kd.R_elder' (by solve_by_elim only[HO146.out,Kd.zv,Kd.zk,Kd.zw]) (Kd.R_base ho1) hb)
          replace BK115:=U.mk (kv (g:=gb115) (o:=.cells #[.int .i64 t104,.int .i64 t105,.int .i64 t106,.string t107,.string t108,.slice Ao43 t109.length co43,.slice Ao44 t112.length co44] 58 (0,0)) (by solve_by_elim only[BK115.out,qw,qx,qv]) hb)
          replace HB:=U.mk (zz (by solve_by_elim (maxDepth:=20) only[HB.out,G,J,qq,qk,GE115.out]) hb)
          (try clear hb)
          (try clear hb2)
          (try clear hk)
          (try clear hi)
          (try clear ho0)
          (try clear ho1)
          obtain⟨Ao80,co80,eo80⟩:=Kd.R_slice HO156.out
          (first|subst eo80|(injection eo80 with f1_ f2_ f3_;have f4_:=f1_.symm;have f5_:=f3_.symm;clear f1_ f2_ f3_;subst f4_;subst f5_))
          obtain⟨Ao81,co81,eo81⟩:=Kd.R_slice HO159.out
          (first|subst eo81|(injection eo81 with f1_ f2_ f3_;have f4_:=f1_.symm;have f5_:=f3_.symm;clear f1_ f2_ f3_;subst f4_;subst f5_))
          refine hK.out _ _ ⟨(qj BK115.out 0).trans rfl,(qj BK115.out 1).trans rfl,(qj BK115.out 2).trans rfl,(qj BK115.out 3).trans rfl,(qj BK115.out 4).trans rfl,(qj BK115.out 5).trans rfl,(qj BK115.out 6).trans rfl⟩ (fun hHeld=>?_)
          clear hK K
          refine norm_ (a':=?_) ?_ ?_
          rotate_left
          ·show Act.put _ (some 60) _=_
           simp only[Act.put,jq5,jq6,jq7,i64_w,i32_w]
           rfl
          refine one_ (i:=4) (N:=some 62) #[Z,Z,Z,Z,Z,Y] rfl rfl (by kernel_rfl) (by decide) (fun K hK=>?_)
          refine goes_ Try.func38 (by kernel_rfl) rfl #[.agg #[.int .i64 t149,.int .i64 t150,.int .i64 t151,.string t152,.string t153,.slice Ao80 t154.length co80,.slice Ao81 t157.length co81],.agg #[.int .i64 t104,.int .i64 t105,.int .i64 t106,.string t107,.string t108,.slice Ao43 t109.length co43,.slice Ao44 t112.length co44]] (by rfl) rfl rfl (by(try simp only[jq0,jq1,jq2]);first|done|rfl|(simp only[jq3,jq4];rfl)) ?_
          with_reducible refine(qqv.calls k1 t149 t150 t151 t152 t153 _ _ t154 _ _ t157 t104 t105 t106 t107 t108 _ _ t109 _ _ t112 t160 _ ?side1 ?side2 ?side3 ?side4 ?side5 ?side6 ?side7 ?side8 A70.out).mono ?_
          (case side1=>solve_by_elim only[(Kd.R_reads' HO156.out).2.2,Kd.C_alloc,Kd.C_drewN,Kd.C_drew])
          (case side2=>exact(Kd.R_reads' HO156.out).2.1)
          (case side3=>solve_by_elim only[(Kd.R_reads' HO159.out).2.2,Kd.C_alloc,Kd.C_drewN,Kd.C_drew])
          (case side4=>exact(Kd.R_reads' HO159.out).2.1)
          (case side5=>solve_by_elim only[(Kd.R_reads' HO_116005.out).2.2,Kd.C_alloc,Kd.C_drewN,Kd.C_drew])
          (case side6=>exact(Kd.R_reads' HO_116005.out).2.1)
          (case side7=>solve_by_elim only[(Kd.R_reads' HO_116006.out).2.2,Kd.C_alloc,Kd.C_drewN,Kd.C_drew])
          (case side8=>exact(Kd.R_reads' HO_116006.out).2.1)
          rintro e w82 ⟨rfl,hb⟩
          refine⟨_,rfl,?_⟩
          replace HO_3:=U.mk (Kd.R_below (by solve_by_elim only[HO_3.out,Kd.zv,Kd.zk,Kd.zw]) hb)
          replace HO_5:=U.mk (Kd.R_below (by solve_by_elim only[HO_5.out,Kd.zv,Kd.zk,Kd.zw]) hb)
          replace HO_116005:=U.mk (Kd.R_below (by solve_by_elim only[HO_116005.out,Kd.zv,Kd.zk,Kd.zw]) hb)
          replace HO_116006:=U.mk (Kd.R_below (by solve_by_elim only[HO_116006.out,Kd.zv,Kd.zk,Kd.zw]) hb)
          replace HO143:=U.mk (Kd.R_below (by solve_by_elim only[HO143.out,Kd.zv,Kd.zk,Kd.zw]) hb)
          replace HO146:=U.mk (Kd.R_below (by solve_by_elim only[HO146.out,Kd.zv,Kd.zk,Kd.zw]) hb)
          replace HO156:=U.mk (Kd.R_below (by solve_by_elim only[HO156.out,Kd.zv,Kd.zk,Kd.zw]) hb)
          replace HO159:=U.mk (Kd.R_below (by solve_by_elim only[HO159.out,Kd.zv,Kd.zk,Kd.zw]) hb)
          replace BK115:=U.mk (kv (g:=gb115) (o:=.cells #[.int .i64 t104,.int .i64 t105,.int .i64 t106,.string t107,.string t108,.slice Ao43 t109.length co43,.slice Ao44 t112.length co44] 58 (0,0)) (by solve_by_elim only[BK115.out,qw,qx,qv]) hb)
          replace HB:=U.mk (zz (by solve_by_elim (maxDepth:=20) only[HB.out,G,J,qq,qk,GE115.out]) hb)
          (try clear hb)
          (try clear hb2)
          (try clear hk)
          (try clear hi)
          refine hK.out _ _ ⟨(qj BK115.out 0).trans rfl,(qj BK115.out 1).trans rfl,(qj BK115.out 2).trans rfl,(qj BK115.out 3).trans rfl,(qj BK115.out 4).trans rfl,(qj BK115.out 5).trans rfl,(qj BK115.out 6).trans rfl⟩ (fun hHeld=>?_)
          clear hK K
          refine norm_ (a':=?_) ?_ ?_
          rotate_left
          ·show Act.put _ (some 62) _=_
           simp only[Act.put,jq5,jq6,jq7,i64_w,i32_w]
           rfl
          refine pure_ (i:=5) (N:=some 2) (v:=?_) (a':=?_) #[Z,Z,Z,Z,Z,Z] rfl rfl (by kernel_rfl) (fun _ _ _ h=>h) (Or.inl ⟨by rfl,?_⟩) ?_ ?_
          rotate_left
          ·intro w'
           go_simp
           with_reducible rfl
          rotate_left
          ·simp only[Act.put,jq5,jq6,jq7,i64_w,i32_w]
           rfl
          refine done_ (by kernel_rfl) ?_
          try go_wp2
          go_ret
          exact⟨by first|rfl|(simp[*,jv,jk] <;> rfl),by repeat(first|(with_reducible first|exact HB.out|apply G|apply J|apply qq|refine qk ?_ GE115.out)|exact HB.out)⟩
         ·replace c68:=jq9.mpr c68
          subst c68
          have H1:(none)=some r:=by rw[if_neg (show ¬ (false=true) by decide)] at H;exact H
          clear H
          have H:=H1
          clear H1
          exact absurd H (by simp)
        ·replace c66:=jq9.mpr c66
         subst c66
         have H1:(none)=some r:=by rw[if_neg (show ¬ (false=true) by decide)] at H;exact H
         clear H
         have H:=H1
         clear H1
         exact absurd H (by simp)
  ·replace c7:=jq9.mpr c7
   subst c7
   have H1:(none)=some r:=by rw[if_neg (show ¬ (false=true) by decide)] at H;exact H
   clear H
   have H:=H1
   clear H1
   exact absurd H (by simp)
end Go.Proofs.Ytccbjchlcelkgaa.Pr
namespace Go.Proofs.Ytccbjchlcelkgaa.Pr
open Go.RowKit Go.Proofs.Ytccbjchlcelkgaa.Read Go.Proofs.YtccbjchlcelkgaaW.PrintWords
set_option linter.unusedVariables false
def qqz.Pure:Prop:=∀ (l0:(List Int)),(okL okB) l0→∃ k,qqz.f k l0=some true
end Go.Proofs.Ytccbjchlcelkgaa.Pr
namespace Go.Proofs.Ytccbjchlcelkgaa.Pr
open Go.RowKit Go.Proofs.Ytccbjchlcelkgaa.Read Go.Proofs.YtccbjchlcelkgaaW.PrintWords
def prtN (s:ByteArray):Nat→Bool
 | 0=>true
 | d + 1=>if bt s ((s.size - (d + 1):Nat):Int) < 32 then false else if bt s ((s.size - (d + 1):Nat):Int) > 126 then false else prtN s d
def prt (s:ByteArray):Bool:=prtN s s.size
theorem l1Printed_l0 (s:ByteArray) (hs:s.size≤9223372036854775807) (d:Nat):∀ (k i:Nat),s.size - i=d→i≤s.size→d < k→qkw.l0 k s i=some (prtN s d):=by
 induction d with
 | zero =>
  intro k i hd hi hk
  obtain⟨k,rfl⟩ : ∃ m,k=m + 1:=⟨k - 1,by omega⟩
  simp only[qkw.l0]
  rw[if_neg (by omega)];rfl
 | succ d ih =>
  intro k i hd hi hk
  obtain⟨k,rfl⟩ : ∃ m,k=m + 1:=⟨k - 1,by omega⟩
  have e0:s.size - (d + 1)=i:=by omega
  simp only[qkw.l0,prtN,e0]
  rw[if_pos (by omega),if_pos (by omega),w64 (by omega) (by omega),show((i:Int) + 1)=((i + 1:Nat):Int) from rfl,ih k (i + 1) (by omega) (by omega) (by omega)]
  split
  ·rfl
  ·split <;> rfl
theorem l1Printed_eq (s:ByteArray) (hs:s.size≤9223372036854775807) (k:Nat) (hk:s.size < k):qkw.f k s=some (prt s) :=
 l1Printed_l0 s hs s.size k 0 (by omega) (by omega) hk
theorem yprinted_l0 (s:ByteArray) (hs:s.size≤9223372036854775807) (d:Nat):∀ (k i:Nat),s.size - i=d→i≤s.size→d < k→xx.l0 k s (s.size:Int) i=some (prtN s d):=by
 induction d with
 | zero =>
  intro k i hd hi hk
  obtain⟨k,rfl⟩ : ∃ m,k=m + 1:=⟨k - 1,by omega⟩
  simp only[xx.l0]
  rw[if_neg (by omega)];rfl
 | succ d ih =>
  intro k i hd hi hk
  obtain⟨k,rfl⟩ : ∃ m,k=m + 1:=⟨k - 1,by omega⟩
  have e0:s.size - (d + 1)=i:=by omega
  simp only[xx.l0,prtN,e0]
  rw[if_pos (by omega),if_pos (by omega),if_pos (by omega),w64 (by omega) (by omega),show((i:Int) + 1)=((i + 1:Nat):Int) from rfl,ih k (i + 1) (by omega) (by omega) (by omega)]
  split
  ·rfl
  ·split <;> rfl
theorem yprinted_eq (s:ByteArray) (lo hi:Int) (hs:s.size≤9223372036854775807) (k:Nat) (hk:s.size + 1 < k):xx.f k s lo hi=some (decide (lo≤s.size) && decide ((s.size:Int)≤hi) && prt s):=by
 obtain⟨k,rfl⟩ : ∃ m,k=m + 1:=⟨k - 1,by omega⟩
 unfold xx.f
 have e:=yprinted_l0 s hs s.size k 0 (by omega) (by omega) (by omega)
 by_cases h1:(s.size:Int) < lo
 ·rw[if_pos h1]
  simp only[xx.j0,if_true]
  simp;omega
 ·rw[if_neg h1]
  have h1':decide (lo≤(s.size:Int))=true:=decide_eq_true (by omega)
  by_cases h2:(s.size:Int)≤hi
  ·have h2':decide ((s.size:Int) > hi)=false:=decide_eq_false (by omega)
   have h2'':decide ((s.size:Int)≤hi)=true:=decide_eq_true h2
   rw[h1',h2',h2'']
   simp only[xx.j0,Bool.false_eq_true,if_false,Bool.true_and]
   exact e
  ·have h2':decide ((s.size:Int) > hi)=true:=decide_eq_true (by omega)
   have h2'':decide ((s.size:Int)≤hi)=false:=decide_eq_false h2
   rw[h1',h2',h2'']
   simp[xx.j0]
end Go.Proofs.Ytccbjchlcelkgaa.Pr
