/- Printed texts, walks and plain facts that the law FnExactSignToken leans on, joined. -/
import Derived.Test.YtkcdefnpbnbaeaaGreatDoorFullFnExactSignTokenD
import Derived.Deep.QuietTactic
import Derived.BigQuiet
import Derived.Laws.Cover1
import Derived.Laws.Strings
set_option maxHeartbeats 8000000
set_option maxRecDepth 100000
open List renaming map_toArray → jq0, map_cons → jq1, map_nil → jq2, length_drop → jq3, length_take → jq4, setIfInBounds_toArray → jq5, set_cons_zero → jq6, set_cons_succ → jq7
open Option renaming bind_eq_some_iff → jq8
open Bool renaming eq_false_iff → jq9, true → Z, false → Y
namespace Go.Proofs.YtkcdefnpbnbaeaaGreatDoor.Pr
open Go.RowKit Go.Proofs.YtkcdefnpbnbaeaaGreatDoorW.PrintWords Go.Proofs.YtkcdefnpbnbaeaaGreatDoorW.PrintLast Go.Proofs.YtkcdefnpbnbaeaaGreatDoorW.PrintMore
attribute [local go_sem] max2_int min2_int max_two min_two max_three min_three max_four min_four
set_option linter.unusedVariables false
set_option linter.unusedSimpArgs false
def wv.j0:Nat→Int→ByteArray→Bool→Int→Int→Int→ByteArray→ByteArray→List (S30)→List ByteArray→Option (ByteArray)
 | 0,_,_,_,_,_,_,_,_,_,_=>none
 | k + 1,x0,x1,x27,x102000,x102001,x102002,x102003,x102004,x102005,x102006=>if x27=true then(some (⟨#[]⟩ : ByteArray)) else(if 3 + x1.size≤9223372036854775807 then(if ((⟨#[118,49,126]⟩ : ByteArray) ++ x1).size + 1≤9223372036854775807 then((ww.f k x102000 x102001 x102002 x102003 x102004 x102005 x102006).bind fun t106=>((bytesOfS.f t106).bind fun t107=>((vz.f t107).bind fun t110=>(if (((⟨#[118,49,126]⟩ : ByteArray) ++ x1) ++ (⟨#[126]⟩ : ByteArray)).size + t110.size≤9223372036854775807 then((bytesOfS.f ((((⟨#[118,49,126]⟩ : ByteArray) ++ x1) ++ (⟨#[126]⟩ : ByteArray)) ++ t110)).bind fun t111=>((wk.f k x0 t111).bind fun bt114=>(if ((((⟨#[118,49,126]⟩ : ByteArray) ++ x1) ++ (⟨#[126]⟩ : ByteArray)) ++ t110).size + 1≤9223372036854775807 then((xz.f bt114.1).bind fun t117=>((xz.f bt114.2).bind fun t120=>(if t117.length + t120.length < 140737488355328 then((vz.f (t117 ++ t120)).bind fun t126=>(if (((((⟨#[118,49,126]⟩ : ByteArray) ++ x1) ++ (⟨#[126]⟩ : ByteArray)) ++ t110) ++ (⟨#[126]⟩ : ByteArray)).size + t126.size≤9223372036854775807 then(some ((((((⟨#[118,49,126]⟩ : ByteArray) ++ x1) ++ (⟨#[126]⟩ : ByteArray)) ++ t110) ++ (⟨#[126]⟩ : ByteArray)) ++ t126)) else(none))) else(none)))) else(none)))) else(none))))) else(none)) else(none))
def wv.f (k:Nat) (a0:Int) (a1:ByteArray) (a2_0:Int) (a2_1:Int) (a2_2:Int) (a2_3:ByteArray) (a2_4:ByteArray) (l2_5:List (S30)) (l2_6:List ByteArray):Option (ByteArray):=(qqw.f a0).bind fun t102=>(if t102=true then((xv.f k a1).bind fun t103=>(if t103=true then((xw.f k a2_0 a2_1 a2_2 a2_3 a2_4 l2_5 l2_6).bind fun t104=>(if t104=true then((ww.f k a2_0 a2_1 a2_2 a2_3 a2_4 l2_5 l2_6).bind fun t105=>(wv.j0 k a0 a1 (decide ((t105.size:Int) > 4000)) a2_0 a2_1 a2_2 a2_3 a2_4 l2_5 l2_6)) else(wv.j0 k a0 a1 true a2_0 a2_1 a2_2 a2_3 a2_4 l2_5 l2_6))) else(wv.j0 k a0 a1 true a2_0 a2_1 a2_2 a2_3 a2_4 l2_5 l2_6))) else(wv.j0 k a0 a1 true a2_0 a2_1 a2_2 a2_3 a2_4 l2_5 l2_6))
def wv.T5:Bool × List (List Nat × List Nat):=(true,[([],[]),([0],[0]),([],[]),([2],[2]),([3],[3]),([],[]),([5],[5]),([6,4],[6]),([4,7,7],[4,7]),([8,8],[8]),([1,9],[1,9]),([10,9,0,1,2,3,4,5,6,7,8,9,10],[10])])
def wv.B5:List Nat:=[0,1,0,4,12,0,32,124,252,508,1023,2047]
theorem wv.tab5:rtab .any (opsOf Tryz.f7 5)=wv.T5:=by kernel_rfl
theorem wv.bits5:waitsOk wv.T5.2 wv.B5=true:=by kernel_rfl
theorem wv.calls (k:Nat) (a0:Int) (a1:ByteArray) (a2_0:Int) (a2_1:Int) (a2_2:Int) (a2_3:ByteArray) (a2_4:ByteArray) (A2_5:Option Addr) (c2_5:Nat) (l2_5:List (S30)) (A2_6:Option Addr) (c2_6:Nat) (l2_6:List ByteArray) (r:ByteArray) (w:World) (htab:TabW w) (hr2_5:Kd.C k30 w A2_5 l2_5.length l2_5) (hc2_5:l2_5.length≤c2_5) (hr2_6:Kd.C Kd.string w A2_6 l2_6.length l2_6) (hc2_6:l2_6.length≤c2_6) (h:wv.f k a0 a1 a2_0 a2_1 a2_2 a2_3 a2_4 l2_5 l2_6=some r) :
  Calls Tryz.prog 7 #[.int .i64 a0,.string a1,.agg #[.int .i64 a2_0,.int .i64 a2_1,.int .i64 a2_2,.string a2_3,.string a2_4,.slice A2_5 l2_5.length c2_5,.slice A2_6 l2_6.length c2_6]] w fun e w'=>e=.returned (.string r)∧Below w.heap.size w w':=by
 have HTAB:=U.mk htab;clear htab;have hu33:=Tryz.underlying33;have hu47:=Tryz.underlying47;have HR2_5:=U.mk hr2_5;have HC2_5:=U.mk hc2_5;clear hr2_5 hc2_5;have HR2_6:=U.mk hr2_6;have HC2_6:=U.mk hc2_6;clear hr2_6 hc2_6;have HB:=U.mk (Below.refl w.heap.size w);unfold wv.f at h;have H:=h;clear h;have HC4:=U.mk H;clear H;go_enter Tryz.func7,Tryz.ntmps7;go_upto_region 1 with (first|((with_reducible refine gate_dst (N:=5) rfl ?_);(try (refine gate_guard (by rfl) ?_;dsimp only));refine box_event ?hg (N:=5) ?hd (cs:=#[.int .i64 a2_0,.int .i64 a2_1,.int .i64 a2_2,.string a2_3,.string a2_4,.slice A2_5 l2_5.length c2_5,.slice A2_6 l2_6.length c2_6]) (t:=33) ?hr ?_;(case hd=>rfl);(case hg=>rfl);(case hr=>first|(go_simp;done)|(go_simp;rfl));intro gb101 hg w5 hbox hb;have BK101:=U.mk (hbox);have GW101:=U.mk ((by rw[hg];exact(zq (by solve_by_elim only[HB.out,L,O,J])):w.heap.size≤gb101));have GE101:=GW101;replace HB:=U.mk (qx (by solve_by_elim only[HB.out,L,O,J]) hb);clear hb hbox hg))
 (try simp only[Act.put,jq5,jq6,jq7])
 go_cut [27] (fun v27 wc=>∃ (kq:Nat) (x27_3:Bool),v27=.bool x27_3∧U (wv.j0 kq a0 a1 x27_3 a2_0 a2_1 a2_2 a2_3 a2_4 l2_5 l2_6=some r)∧U (kq≤k)∧U (wc.heap[gb101]? = some (.cells #[.int .i64 a2_0,.int .i64 a2_1,.int .i64 a2_2,.string a2_3,.string a2_4,(.slice A2_5 l2_5.length c2_5),(.slice A2_6 l2_6.length c2_6)] 33 (0,0)))∧U (Below w.heap.size w wc))
 case first =>
  have H:=HC4.out;clear HC4;replace H:=jq8.mp H;obtain⟨t102,A60,H⟩:=H;try dsimp only at H
  have A6:=U.mk A60;clear A60
  by_cases c7:t102=true
  ·subst c7;have H1:((xv.f k a1).bind fun t103=>(if t103=true then((xw.f k a2_0 a2_1 a2_2 a2_3 a2_4 l2_5 l2_6).bind fun t104=>(if t104=true then((ww.f k a2_0 a2_1 a2_2 a2_3 a2_4 l2_5 l2_6).bind fun t105=>(wv.j0 k a0 a1 (decide ((t105.size:Int) > 4000)) a2_0 a2_1 a2_2 a2_3 a2_4 l2_5 l2_6)) else(wv.j0 k a0 a1 true a2_0 a2_1 a2_2 a2_3 a2_4 l2_5 l2_6))) else(wv.j0 k a0 a1 true a2_0 a2_1 a2_2 a2_3 a2_4 l2_5 l2_6)))=some r:=by rw[if_pos rfl] at H;exact H
   clear H;have H:=H1;clear H1;replace H:=jq8.mp H;obtain⟨t103,A80,H⟩:=H;try dsimp only at H
   have A8:=U.mk A80;clear A80
   by_cases c9:t103=true
   ·subst c9;have H1:((xw.f k a2_0 a2_1 a2_2 a2_3 a2_4 l2_5 l2_6).bind fun t104=>(if t104=true then((ww.f k a2_0 a2_1 a2_2 a2_3 a2_4 l2_5 l2_6).bind fun t105=>(wv.j0 k a0 a1 (decide ((t105.size:Int) > 4000)) a2_0 a2_1 a2_2 a2_3 a2_4 l2_5 l2_6)) else(wv.j0 k a0 a1 true a2_0 a2_1 a2_2 a2_3 a2_4 l2_5 l2_6)))=some r:=by rw[if_pos rfl] at H;exact H
    clear H;have H:=H1;clear H1;replace H:=jq8.mp H;obtain⟨t104,A100,H⟩:=H;try dsimp only at H
    have A10:=U.mk A100;clear A100
    by_cases c11:t104=true
    ·subst c11;have H1:((ww.f k a2_0 a2_1 a2_2 a2_3 a2_4 l2_5 l2_6).bind fun t105=>(wv.j0 k a0 a1 (decide ((t105.size:Int) > 4000)) a2_0 a2_1 a2_2 a2_3 a2_4 l2_5 l2_6))=some r:=by rw[if_pos rfl] at H;exact H
     clear H;have H:=H1;clear H1;replace H:=jq8.mp H;obtain⟨t105,A120,H⟩:=H;try dsimp only at H
     have A12:=U.mk A120;clear A120;have H':=U.mk H;clear H;go_wp2_with (first|((with_reducible refine zx (f:=22) rfl ?_);refine goesL_ (some 10) rfl rfl Tryz.func22 (by kernel_rfl) rfl #[.int .i64 a0] rfl (by(try simp only[jq0,jq1,jq2]);first|done|rfl|(simp only[jq3,jq4];rfl)) ?_;(with_reducible refine(qqw.calls a0 true _ A6.out).mono ?_);rintro e w' ⟨rfl,⟨nd,rfl⟩⟩;refine⟨_,rfl,?_⟩)|(go_at_call 23;(with_reducible refine(xv.calls k a1 true _ A8.out).mono ?_);rintro e w' ⟨rfl,⟨nd,rfl⟩⟩;obtain⟨y13_0,y13_1,y13_2,y13_3,y13_4,y13_5,y13_6,z13_0,z13_1,z13_2,z13_3,z13_4,z13_5,z13_6⟩:=bx7f BK101.out)|(go_at_call 24;(with_reducible refine(xw.calls k a2_0 a2_1 a2_2 a2_3 a2_4 _ _ l2_5 _ _ l2_6 true _ ?side1 ?side2 ?side3 ?side4 A10.out).mono ?_);(case side1=>repeat(first|exact(Kd.C_below HR2_5.out (by solve_by_elim (maxDepth:=20) only[HB.out,L,O,J,qz,GE101.out]))|(with_reducible refine Kd.C_alloc ?_ _)|(with_reducible refine Kd.C_drewN ?_ _)|(with_reducible refine Kd.C_drew ?_)));(case side2=>exact HC2_5.out);(case side3=>repeat(first|exact(Kd.C_below HR2_6.out (by solve_by_elim (maxDepth:=20) only[HB.out,L,O,J,qz,GE101.out]))|(with_reducible refine Kd.C_alloc ?_ _)|(with_reducible refine Kd.C_drewN ?_ _)|(with_reducible refine Kd.C_drew ?_)));(case side4=>exact HC2_6.out);rintro e w14 ⟨rfl,hb⟩;replace BK101:=U.mk (jx (by solve_by_elim only[BK101.out,qk,qv,qj]) hb);replace HB:=U.mk (qx (by solve_by_elim (maxDepth:=20) only[HB.out,L,O,J,qz,GE101.out]) hb);(try clear hb);obtain⟨y15_0,y15_1,y15_2,y15_3,y15_4,y15_5,y15_6,z15_0,z15_1,z15_2,z15_3,z15_4,z15_5,z15_6⟩:=bx7f BK101.out)|(go_at_call 25;(with_reducible refine(ww.calls k a2_0 a2_1 a2_2 a2_3 a2_4 _ _ l2_5 _ _ l2_6 t105 _ ?tabw ?side1 ?side2 ?side3 ?side4 A12.out).mono ?_);(case tabw=>first|(with_reducible first|exact HTAB.out|exact TabW_below HTAB.out HB.out)|exact TabW_below HTAB.out (by with_reducible repeat(first|exact HB.out|apply L|apply O|apply J|refine qz ?_ GE101.out))|(repeat(first|exact HTAB.out|exact TabW_below HTAB.out HB.out|(with_reducible refine TabW_drewN ?_ _)|(with_reducible refine TabW_drew ?_)|(with_reducible refine TabW_alloc ?_ _))));(case side1=>solve_by_elim only[(Kd.C_below HR2_5.out HB.out),Kd.C_alloc,Kd.C_drewN,Kd.C_drew]);(case side2=>exact HC2_5.out);(case side3=>solve_by_elim only[(Kd.C_below HR2_6.out HB.out),Kd.C_alloc,Kd.C_drewN,Kd.C_drew]);(case side4=>exact HC2_6.out);rintro e w16 ⟨rfl,hb⟩;replace BK101:=U.mk (jx (by solve_by_elim only[BK101.out,qk,qv,qj]) hb);replace HB:=U.mk (qx (by solve_by_elim (maxDepth:=20) only[HB.out,L,O,J,qz,GE101.out]) hb);(try clear hb)))
     go_meet
     case rel=>exact⟨_,(decide ((t105.size:Int) > 4000)),(by first|rfl|(simp;done)|(simp[*];done)),H',⟨by first|omega|exact Nat.le_refl _⟩,⟨by(with_reducible repeat(first|refine qk ?_ _|refine qv ?_|refine qj ?_ _));exact BK101.out⟩,⟨by solve_by_elim (maxDepth:=20) only[HB.out,L,O,J,qz,GE101.out]⟩⟩
    ·replace c11:=jq9.mpr c11;subst c11;have H1:(wv.j0 k a0 a1 true a2_0 a2_1 a2_2 a2_3 a2_4 l2_5 l2_6)=some r:=by rw[if_neg (show ¬ (false=true) by decide)] at H;exact H
     clear H;have H:=H1;clear H1;have H':=U.mk H;clear H;go_wp2_with (first|((with_reducible refine zx (f:=22) rfl ?_);refine goesL_ (some 10) rfl rfl Tryz.func22 (by kernel_rfl) rfl #[.int .i64 a0] rfl (by(try simp only[jq0,jq1,jq2]);first|done|rfl|(simp only[jq3,jq4];rfl)) ?_;(with_reducible refine(qqw.calls a0 true _ A6.out).mono ?_);rintro e w' ⟨rfl,⟨nd,rfl⟩⟩;refine⟨_,rfl,?_⟩)|(go_at_call 23;(with_reducible refine(xv.calls k a1 true _ A8.out).mono ?_);rintro e w' ⟨rfl,⟨nd,rfl⟩⟩;obtain⟨y17_0,y17_1,y17_2,y17_3,y17_4,y17_5,y17_6,z17_0,z17_1,z17_2,z17_3,z17_4,z17_5,z17_6⟩:=bx7f BK101.out)|(go_at_call 24;(with_reducible refine(xw.calls k a2_0 a2_1 a2_2 a2_3 a2_4 _ _ l2_5 _ _ l2_6 false _ ?side1 ?side2 ?side3 ?side4 A10.out).mono ?_);(case side1=>repeat(first|exact(Kd.C_below HR2_5.out (by solve_by_elim (maxDepth:=20) only[HB.out,L,O,J,qz,GE101.out]))|(with_reducible refine Kd.C_alloc ?_ _)|(with_reducible refine Kd.C_drewN ?_ _)|(with_reducible refine Kd.C_drew ?_)));(case side2=>exact HC2_5.out);(case side3=>repeat(first|exact(Kd.C_below HR2_6.out (by solve_by_elim (maxDepth:=20) only[HB.out,L,O,J,qz,GE101.out]))|(with_reducible refine Kd.C_alloc ?_ _)|(with_reducible refine Kd.C_drewN ?_ _)|(with_reducible refine Kd.C_drew ?_)));(case side4=>exact HC2_6.out);rintro e w18 ⟨rfl,hb⟩;replace BK101:=U.mk (jx (by solve_by_elim only[BK101.out,qk,qv,qj]) hb);replace HB:=U.mk (qx (by solve_by_elim (maxDepth:=20) only[HB.out,L,O,J,qz,GE101.out]) hb);(try clear hb)))
     go_meet
     case rel=>exact⟨_,(true),(by first|rfl|(simp;done)|(simp[*];done)),H',⟨by first|omega|exact Nat.le_refl _⟩,⟨by(with_reducible repeat(first|refine qk ?_ _|refine qv ?_|refine qj ?_ _));exact BK101.out⟩,⟨by solve_by_elim (maxDepth:=20) only[HB.out,L,O,J,qz,GE101.out]⟩⟩
   ·replace c9:=jq9.mpr c9;subst c9;have H1:(wv.j0 k a0 a1 true a2_0 a2_1 a2_2 a2_3 a2_4 l2_5 l2_6)=some r:=by rw[if_neg (show ¬ (false=true) by decide)] at H;exact H
    clear H;have H:=H1;clear H1;have H':=U.mk H;clear H;go_wp2_with (first|((with_reducible refine zx (f:=22) rfl ?_);refine goesL_ (some 10) rfl rfl Tryz.func22 (by kernel_rfl) rfl #[.int .i64 a0] rfl (by(try simp only[jq0,jq1,jq2]);first|done|rfl|(simp only[jq3,jq4];rfl)) ?_;(with_reducible refine(qqw.calls a0 true _ A6.out).mono ?_);rintro e w' ⟨rfl,⟨nd,rfl⟩⟩;refine⟨_,rfl,?_⟩)|(go_at_call 23;(with_reducible refine(xv.calls k a1 false _ A8.out).mono ?_);rintro e w' ⟨rfl,⟨nd,rfl⟩⟩))
    go_meet
    case rel=>exact⟨_,(true),(by first|rfl|(simp;done)|(simp[*];done)),H',⟨by first|omega|exact Nat.le_refl _⟩,⟨by(with_reducible repeat(first|refine qk ?_ _|refine qv ?_|refine qj ?_ _));exact BK101.out⟩,⟨by solve_by_elim (maxDepth:=20) only[HB.out,L,O,J,qz,GE101.out]⟩⟩
  ·replace c7:=jq9.mpr c7;subst c7;have H1:(wv.j0 k a0 a1 true a2_0 a2_1 a2_2 a2_3 a2_4 l2_5 l2_6)=some r:=by rw[if_neg (show ¬ (false=true) by decide)] at H;exact H
   clear H;have H:=H1;clear H1;have H':=U.mk H;clear H;go_wp2_with (first|((with_reducible refine zx (f:=22) rfl ?_);refine goesL_ (some 10) rfl rfl Tryz.func22 (by kernel_rfl) rfl #[.int .i64 a0] rfl (by(try simp only[jq0,jq1,jq2]);first|done|rfl|(simp only[jq3,jq4];rfl)) ?_;(with_reducible refine(qqw.calls a0 false _ A6.out).mono ?_);rintro e w' ⟨rfl,⟨nd,rfl⟩⟩;refine⟨_,rfl,?_⟩))
   go_meet
   case rel=>exact⟨_,(true),(by first|rfl|(simp;done)|(simp[*];done)),H',⟨by first|omega|exact Nat.le_refl _⟩,⟨by(with_reducible repeat(first|refine qk ?_ _|refine qv ?_|refine qj ?_ _));exact BK101.out⟩,⟨by solve_by_elim (maxDepth:=20) only[HB.out,L,O,J,qz,GE101.out]⟩⟩
 case rest =>
  clear HC4;try clear c1
  try clear c2
  try clear p2
  try clear c7
  try clear c9
  try clear c11
  try clear y13_0 y13_1 y13_2 y13_3 y13_4 y13_5 y13_6 z13_0 z13_1 z13_2 z13_3 z13_4 z13_5 z13_6
  try clear y15_0 y15_1 y15_2 y15_3 y15_4 y15_5 y15_6 z15_0 z15_1 z15_2 z15_3 z15_4 z15_5 z15_6
  try clear y17_0 y17_1 y17_2 y17_3 y17_4 y17_5 y17_6 z17_0 z17_1 z17_2 z17_3 z17_4 z17_5 z17_6
  obtain⟨kq,x27_3,rfl,HA,HJ3,BK101,HB⟩:=hcut
  cases kq with
  | zero=>exact absurd HA.out (by simp[wv.j0])
  | succ kj3 =>
   have H:=HA.out;clear HA;simp only[wv.j0] at H
   by_cases c19:x27_3=true
   ·subst c19;have H1:(some (⟨#[]⟩ : ByteArray))=some r:=by rw[if_pos rfl] at H;exact H
    clear H;have H:=H1;clear H1;obtain rfl:=Option.some.inj H;go_wp2;go_ret
    exact⟨by first|rfl|(simp[*,zw,zv] <;> rfl),by solve_by_elim (maxDepth:=20) only[HB.out,L,O,J,qz,GE101.out]⟩
   ·replace c19:=jq9.mpr c19;subst c19;have H1:(if 3 + a1.size≤9223372036854775807 then(if ((⟨#[118,49,126]⟩ : ByteArray) ++ a1).size + 1≤9223372036854775807 then((ww.f kj3 a2_0 a2_1 a2_2 a2_3 a2_4 l2_5 l2_6).bind fun t106=>((bytesOfS.f t106).bind fun t107=>((vz.f t107).bind fun t110=>(if (((⟨#[118,49,126]⟩ : ByteArray) ++ a1) ++ (⟨#[126]⟩ : ByteArray)).size + t110.size≤9223372036854775807 then((bytesOfS.f ((((⟨#[118,49,126]⟩ : ByteArray) ++ a1) ++ (⟨#[126]⟩ : ByteArray)) ++ t110)).bind fun t111=>((wk.f kj3 a0 t111).bind fun bt114=>(if ((((⟨#[118,49,126]⟩ : ByteArray) ++ a1) ++ (⟨#[126]⟩ : ByteArray)) ++ t110).size + 1≤9223372036854775807 then((xz.f bt114.1).bind fun t117=>((xz.f bt114.2).bind fun t120=>(if t117.length + t120.length < 140737488355328 then((vz.f (t117 ++ t120)).bind fun t126=>(if (((((⟨#[118,49,126]⟩ : ByteArray) ++ a1) ++ (⟨#[126]⟩ : ByteArray)) ++ t110) ++ (⟨#[126]⟩ : ByteArray)).size + t126.size≤9223372036854775807 then(some ((((((⟨#[118,49,126]⟩ : ByteArray) ++ a1) ++ (⟨#[126]⟩ : ByteArray)) ++ t110) ++ (⟨#[126]⟩ : ByteArray)) ++ t126)) else(none))) else(none)))) else(none)))) else(none))))) else(none)) else(none))=some r:=by rw[if_neg (show ¬ (false=true) by decide)] at H;exact H
    clear H;have H:=H1;clear H1
    by_cases c20 : 3 + a1.size≤9223372036854775807
    ·rw[if_pos c20] at H;have c20b0:=eq_true c20;have c20b1:decide (3 + a1.size≤9223372036854775807)=true:=decide_eq_true c20;try have c20b2:(9223372036854775807 < 3 + a1.size)=False:=eq_false (Nat.not_lt.2 c20)
     by_cases c21:((⟨#[118,49,126]⟩ : ByteArray) ++ a1).size + 1≤9223372036854775807
     ·rw[if_pos c21] at H;have c21b0:=eq_true c21;have c21b1:decide (((⟨#[118,49,126]⟩ : ByteArray) ++ a1).size + 1≤9223372036854775807)=true:=decide_eq_true c21;try have c21b2:(9223372036854775807 < ((⟨#[118,49,126]⟩ : ByteArray) ++ a1).size + 1)=False:=eq_false (Nat.not_lt.2 c21)
      try (have c21b9:=c21b2;simp only[ByteArray.size_append,show(⟨#[118,49,126]⟩ : ByteArray).size=3 from rfl] at c21b9)
      replace H:=jq8.mp H;obtain⟨t106,A220,H⟩:=H;try dsimp only at H
      have A22:=U.mk A220;clear A220;replace H:=jq8.mp H;obtain⟨t107,A230,H⟩:=H;try dsimp only at H
      have A23:=U.mk A230;clear A230;replace H:=jq8.mp H;obtain⟨t110,A240,H⟩:=H;try dsimp only at H
      have A24:=U.mk A240;clear A240
      by_cases c25:(((⟨#[118,49,126]⟩ : ByteArray) ++ a1) ++ (⟨#[126]⟩ : ByteArray)).size + t110.size≤9223372036854775807
      ·rw[if_pos c25] at H;have c25b0:=eq_true c25;have c25b1:decide ((((⟨#[118,49,126]⟩ : ByteArray) ++ a1) ++ (⟨#[126]⟩ : ByteArray)).size + t110.size≤9223372036854775807)=true:=decide_eq_true c25;try have c25b2:(9223372036854775807 < (((⟨#[118,49,126]⟩ : ByteArray) ++ a1) ++ (⟨#[126]⟩ : ByteArray)).size + t110.size)=False:=eq_false (Nat.not_lt.2 c25)
       try (have c25b9:=c25b2;simp only[ByteArray.size_append,show(⟨#[118,49,126]⟩ : ByteArray).size=3 from rfl,show(⟨#[126]⟩ : ByteArray).size=1 from rfl] at c25b9)
       replace H:=jq8.mp H;obtain⟨t111,A260,H⟩:=H;try dsimp only at H
       have A26:=U.mk A260;clear A260;replace H:=jq8.mp H;obtain⟨⟨t114,t115⟩,A270,H⟩:=H;try dsimp only at H
       have A27:=U.mk A270;clear A270
       by_cases c28:((((⟨#[118,49,126]⟩ : ByteArray) ++ a1) ++ (⟨#[126]⟩ : ByteArray)) ++ t110).size + 1≤9223372036854775807
       ·rw[if_pos c28] at H;have c28b0:=eq_true c28;have c28b1:decide (((((⟨#[118,49,126]⟩ : ByteArray) ++ a1) ++ (⟨#[126]⟩ : ByteArray)) ++ t110).size + 1≤9223372036854775807)=true:=decide_eq_true c28;try have c28b2:(9223372036854775807 < ((((⟨#[118,49,126]⟩ : ByteArray) ++ a1) ++ (⟨#[126]⟩ : ByteArray)) ++ t110).size + 1)=False:=eq_false (Nat.not_lt.2 c28)
        try (have c28b9:=c28b2;simp only[ByteArray.size_append,show(⟨#[118,49,126]⟩ : ByteArray).size=3 from rfl,show(⟨#[126]⟩ : ByteArray).size=1 from rfl] at c28b9)
        replace H:=jq8.mp H;obtain⟨t117,A290,H⟩:=H;try dsimp only at H
        have A29:=U.mk A290;clear A290;replace H:=jq8.mp H;obtain⟨t120,A300,H⟩:=H;try dsimp only at H
        have A30:=U.mk A300;clear A300
        by_cases c31:t117.length + t120.length < 140737488355328
        ·rw[if_pos c31] at H;have LMc31:=U.mk c31;clear c31;obtain⟨y123,hy123⟩ : ∃ y_:List Int,y_=(t117 ++ t120):=⟨_,rfl⟩;replace H:((vz.f y123).bind fun t126=>(if (((((⟨#[118,49,126]⟩ : ByteArray) ++ a1) ++ (⟨#[126]⟩ : ByteArray)) ++ t110) ++ (⟨#[126]⟩ : ByteArray)).size + t126.size≤9223372036854775807 then(some ((((((⟨#[118,49,126]⟩ : ByteArray) ++ a1) ++ (⟨#[126]⟩ : ByteArray)) ++ t110) ++ (⟨#[126]⟩ : ByteArray)) ++ t126)) else(none)))=some r:=by first|(rw[hy123];with_reducible exact H)|(have H2_:=(Option.bind_some _ _).symm.trans H;rw[hy123];with_reducible exact H2_)|(have H2_:=(Option.bind_some _ _).symm.trans H;with_reducible exact H2_)|with_reducible exact H|(rw[hy123];exact H)|exact H
         have Ny123:=U.mk hy123;clear hy123;replace H:=jq8.mp H;obtain⟨t126,A320,H⟩:=H;try dsimp only at H
         have A32:=U.mk A320;clear A320
         by_cases c33:(((((⟨#[118,49,126]⟩ : ByteArray) ++ a1) ++ (⟨#[126]⟩ : ByteArray)) ++ t110) ++ (⟨#[126]⟩ : ByteArray)).size + t126.size≤9223372036854775807
         ·rw[if_pos c33] at H;have c33b0:=eq_true c33;have c33b1:decide ((((((⟨#[118,49,126]⟩ : ByteArray) ++ a1) ++ (⟨#[126]⟩ : ByteArray)) ++ t110) ++ (⟨#[126]⟩ : ByteArray)).size + t126.size≤9223372036854775807)=true:=decide_eq_true c33;try have c33b2:(9223372036854775807 < (((((⟨#[118,49,126]⟩ : ByteArray) ++ a1) ++ (⟨#[126]⟩ : ByteArray)) ++ t110) ++ (⟨#[126]⟩ : ByteArray)).size + t126.size)=False:=eq_false (Nat.not_lt.2 c33)
          try (have c33b9:=c33b2;simp only[ByteArray.size_append,show(⟨#[118,49,126]⟩ : ByteArray).size=3 from rfl,show(⟨#[126]⟩ : ByteArray).size=1 from rfl] at c33b9)
          obtain rfl:=Option.some.inj H;obtain⟨y34_0,y34_1,y34_2,y34_3,y34_4,y34_5,y34_6,z34_0,z34_1,z34_2,z34_3,z34_4,z34_5,z34_6⟩:=bx7f BK101.out;try go_wp2_with (first|((with_reducible refine zx (f:=25) rfl ?_);refine goesL_ (some 32) rfl rfl Tryz.func25 (by kernel_rfl) rfl #[.agg #[.int .i64 a2_0,.int .i64 a2_1,.int .i64 a2_2,.string a2_3,.string a2_4,.slice A2_5 l2_5.length c2_5,.slice A2_6 l2_6.length c2_6]] rfl (by(try simp only[jq0,jq1,jq2]);first|done|rfl|(simp only[jq3,jq4];rfl)) ?_;(with_reducible refine(ww.calls kj3 a2_0 a2_1 a2_2 a2_3 a2_4 _ _ l2_5 _ _ l2_6 t106 _ ?tabw ?side1 ?side2 ?side3 ?side4 A22.out).mono ?_);(case tabw=>first|(with_reducible first|exact HTAB.out|exact TabW_below HTAB.out HB.out)|exact TabW_below HTAB.out (by with_reducible repeat(first|exact HB.out|apply L|apply O|apply J|refine qz ?_ GE101.out))|(repeat(first|exact HTAB.out|exact TabW_below HTAB.out HB.out|(with_reducible refine TabW_drewN ?_ _)|(with_reducible refine TabW_drew ?_)|(with_reducible refine TabW_alloc ?_ _))));(case side1=>solve_by_elim only[(Kd.C_below HR2_5.out HB.out),Kd.C_alloc,Kd.C_drewN,Kd.C_drew]);(case side2=>exact HC2_5.out);(case side3=>solve_by_elim only[(Kd.C_below HR2_6.out HB.out),Kd.C_alloc,Kd.C_drewN,Kd.C_drew]);(case side4=>exact HC2_6.out);rintro e w35 ⟨rfl,hb⟩;refine⟨_,rfl,?_⟩;replace BK101:=U.mk (jx (by solve_by_elim only[BK101.out,qk,qv,qj]) hb);replace HB:=U.mk (qx (by solve_by_elim (maxDepth:=20) only[HB.out,L,O,J,qz,GE101.out]) hb);(try clear hb))|((with_reducible refine gate_convert (src:=9) (dst:=44) rfl ?_);refine bytesGoesL_ (some 33) rfl rfl (s:=t106) rfl rfl ?_;(with_reducible refine(bytesOfS.calls t106 t107 _ A23.out).mono ?_);rintro e w36 ⟨v108,rfl,ho0,hb⟩;refine⟨_,rfl,?_⟩;have HO109:=U.mk (Kd.V_lower (Kd.V_mono (ok':=fun k_=>k_≠gb101) ho0 (fun k_ hk_=>(Kd.freshB (g:=gb101) (o:=.cells #[.int .i64 a2_0,.int .i64 a2_1,.int .i64 a2_2,.string a2_3,.string a2_4,.slice A2_5 l2_5.length c2_5,.slice A2_6 l2_6.length c2_6] 33 (0,0)) (by solve_by_elim only[BK101.out,qk,qv,qj]) k_ hk_))) (zq (by solve_by_elim (maxDepth:=20) only[HB.out,L,O,J,qz,GE101.out])));replace BK101:=U.mk (jx (by solve_by_elim only[BK101.out,qk,qv,qj]) hb);replace HB:=U.mk (qx (by solve_by_elim (maxDepth:=20) only[HB.out,L,O,J,qz,GE101.out]) hb);(try clear hb ho0);obtain⟨Ao37,co37,eo37⟩:=Kd.V_slice HO109.out;subst eo37)|((with_reducible refine zx (f:=26) rfl ?_);refine goesL_ (some 34) rfl rfl Tryz.func26 (by kernel_rfl) rfl #[.slice Ao37 t107.length co37] rfl (by(try simp only[jq0,jq1,jq2]);first|done|rfl|(simp only[jq3,jq4];rfl)) ?_;(with_reducible refine(vz.calls _ _ t107 t110 _ ?side1 ?side2 A24.out).mono ?_);(case side1=>solve_by_elim only[(Kd.V_reads' HO109.out).2.2,Kd.C_alloc,Kd.C_drewN,Kd.C_drew]);(case side2=>exact(Kd.V_reads' HO109.out).2.1);rintro e w38 ⟨rfl,hb⟩;refine⟨_,rfl,?_⟩;replace HO109:=U.mk (Kd.V_below (by(with_reducible repeat(first|apply Kd.jv|apply Kd.jk|apply Kd.jw));exact HO109.out) hb);replace BK101:=U.mk (jx (by solve_by_elim only[BK101.out,qk,qv,qj]) hb);replace HB:=U.mk (qx (by solve_by_elim (maxDepth:=20) only[HB.out,L,O,J,qz,GE101.out]) hb);(try clear hb))|((with_reducible refine gate_convert (src:=9) (dst:=44) rfl ?_);refine bytesGoesL_ (some 38) rfl rfl (s:=((((⟨#[118,49,126]⟩ : ByteArray) ++ a1) ++ (⟨#[126]⟩ : ByteArray)) ++ t110)) rfl rfl ?_;(with_reducible refine(bytesOfS.calls ((((⟨#[118,49,126]⟩ : ByteArray) ++ a1) ++ (⟨#[126]⟩ : ByteArray)) ++ t110) t111 _ A26.out).mono ?_);rintro e w39 ⟨v112,rfl,ho0,hb⟩;refine⟨_,rfl,?_⟩;replace HO109:=U.mk (Kd.V_below (by(with_reducible repeat(first|apply Kd.jv|apply Kd.jk|apply Kd.jw));exact HO109.out) hb);have HO113:=U.mk (Kd.V_lower (Kd.V_mono (ok':=fun k_=>k_≠gb101) ho0 (fun k_ hk_=>(Kd.freshB (g:=gb101) (o:=.cells #[.int .i64 a2_0,.int .i64 a2_1,.int .i64 a2_2,.string a2_3,.string a2_4,.slice A2_5 l2_5.length c2_5,.slice A2_6 l2_6.length c2_6] 33 (0,0)) (by solve_by_elim only[BK101.out,qk,qv,qj]) k_ hk_))) (zq (by solve_by_elim (maxDepth:=20) only[HB.out,L,O,J,qz,GE101.out])));replace BK101:=U.mk (jx (by solve_by_elim only[BK101.out,qk,qv,qj]) hb);replace HB:=U.mk (qx (by solve_by_elim (maxDepth:=20) only[HB.out,L,O,J,qz,GE101.out]) hb);(try clear hb ho0);obtain⟨Ao40,co40,eo40⟩:=Kd.V_slice HO113.out;subst eo40)|((with_reducible refine zx (f:=27) rfl ?_);refine goesL_ (some 39) rfl rfl Tryz.func27 (by kernel_rfl) rfl #[.int .i64 a0,.slice Ao40 t111.length co40] rfl (by(try simp only[jq0,jq1,jq2]);first|done|rfl|(simp only[jq3,jq4];rfl)) ?_;(with_reducible refine(wk.calls kj3 a0 _ _ t111 t114 t115 _ ?side1 ?side2 A27.out).mono ?_);(case side1=>solve_by_elim only[(Kd.V_reads' HO113.out).2.2,Kd.C_alloc,Kd.C_drewN,Kd.C_drew]);(case side2=>exact(Kd.V_reads' HO113.out).2.1);rintro e w41 ⟨rfl,hb⟩;refine⟨_,rfl,?_⟩;replace HO109:=U.mk (Kd.V_below (by(with_reducible repeat(first|apply Kd.jv|apply Kd.jk|apply Kd.jw));exact HO109.out) hb);replace HO113:=U.mk (Kd.V_below (by(with_reducible repeat(first|apply Kd.jv|apply Kd.jk|apply Kd.jw));exact HO113.out) hb);replace BK101:=U.mk (jx (by solve_by_elim only[BK101.out,qk,qv,qj]) hb);replace HB:=U.mk (qx (by solve_by_elim (maxDepth:=20) only[HB.out,L,O,J,qz,GE101.out]) hb);(try clear hb))|((with_reducible refine gate_dst (N:=8) rfl ?_);(try (refine gate_guard (by rfl) ?_;dsimp only));refine box_event ?hg (N:=8) ?hd (cs:=#[.int .i64 0,.int .i64 0]) (t:=47) ?hr ?_;(case hd=>rfl);(case hg=>rfl);(case hr=>first|(go_simp;done)|(go_simp;rfl));intro gb116 hg w42 hbox hb;replace HO109:=U.mk (Kd.V_below (Kd.V_elderB (by(with_reducible repeat(first|apply Kd.jv|apply Kd.jk|apply Kd.jw));exact HO109.out) gb116 (Nat.le_of_eq hg.symm)) hb);replace HO113:=U.mk (Kd.V_below (Kd.V_elderB (by(with_reducible repeat(first|apply Kd.jv|apply Kd.jk|apply Kd.jw));exact HO113.out) gb116 (Nat.le_of_eq hg.symm)) hb);have BK116:=U.mk (hbox);have GW116:=U.mk ((by rw[hg];exact(zq (by solve_by_elim (maxDepth:=20) only[HB.out,L,O,J,qz,GE101.out])):w.heap.size≤gb116));have GE116:=GW116;replace HB:=U.mk (qx (by solve_by_elim (maxDepth:=20) only[HB.out,L,O,J,qz,GE101.out]) hb);have NB101_116:=U.mk ((by rw[hg];exact Nat.ne_of_lt (blk_lt (by solve_by_elim only[BK101.out,qk,qv,qj])):gb101≠gb116));have NB116_101:=U.mk ((by rw[hg];exact Nat.ne_of_gt (blk_lt (by solve_by_elim only[BK101.out,qk,qv,qj])):gb116≠gb101));replace BK101:=U.mk (jx (by solve_by_elim only[BK101.out,qk,qv,qj]) hb);clear hb hbox hg;have hnb43:=NB116_101.out;have hnc43:=NB101_116.out;obtain⟨y44_0,y44_1,z44_0,z44_1⟩:=bx2f BK116.out))
          have n0_:U (Kd.V (Kd.int .u8) 5 ((w42.setCell ⟨gb116,0,none⟩ (.int .i64 t114)).setCell ⟨gb116,1,none⟩ (.int .i64 t115)) w.heap.size (fun k_=>k_≠gb101∧k_≠gb116) (.slice Ao37 t107.length co37) t107):=⟨by(with_reducible repeat(first|apply Kd.jv|apply Kd.jk|apply Kd.jw));exact Kd.V_mono (Kd.V_far (p:=⟨gb116,1,none⟩) (Kd.V_far (p:=⟨gb116,0,none⟩) (Kd.V_mono HO109.out (fun k_ hk=>(⟨hk,hk.2⟩ : _∧k_≠gb116))) (fun _ hk=>hk.2) (.int .i64 t114)) (fun _ hk=>hk.2) (.int .i64 t115)) (fun _ hk=>⟨hk.1.1,hk.1.2⟩)⟩;have n1_:U (Kd.V (Kd.int .u8) 5 ((w42.setCell ⟨gb116,0,none⟩ (.int .i64 t114)).setCell ⟨gb116,1,none⟩ (.int .i64 t115)) w.heap.size (fun k_=>k_≠gb101∧k_≠gb116) (.slice Ao40 t111.length co40) t111):=⟨by(with_reducible repeat(first|apply Kd.jv|apply Kd.jk|apply Kd.jw));exact Kd.V_mono (Kd.V_far (p:=⟨gb116,1,none⟩) (Kd.V_far (p:=⟨gb116,0,none⟩) (Kd.V_mono HO113.out (fun k_ hk=>(⟨hk,hk.2⟩ : _∧k_≠gb116))) (fun _ hk=>hk.2) (.int .i64 t114)) (fun _ hk=>hk.2) (.int .i64 t115)) (fun _ hk=>⟨hk.1.1,hk.1.2⟩)⟩;have n2_:U (((w42.setCell ⟨gb116,0,none⟩ (.int .i64 t114)).setCell ⟨gb116,1,none⟩ (.int .i64 t115)).heap[gb101]? = some (.cells #[.int .i64 a2_0,.int .i64 a2_1,.int .i64 a2_2,.string a2_3,.string a2_4,.slice A2_5 l2_5.length c2_5,.slice A2_6 l2_6.length c2_6] 33 (0,0))):=⟨by(with_reducible repeat(first|refine qk ?_ _|refine qv ?_|refine qj ?_ _));refine blk_far ?_ NB101_116.out _;(with_reducible repeat(first|refine qk ?_ _|refine qv ?_|refine qj ?_ _));refine blk_far ?_ NB101_116.out _;(with_reducible repeat(first|refine qk ?_ _|refine qv ?_|refine qj ?_ _));exact BK101.out⟩;have n3_:U (((w42.setCell ⟨gb116,0,none⟩ (.int .i64 t114)).setCell ⟨gb116,1,none⟩ (.int .i64 t115)).heap[gb116]? = some (.cells #[.int .i64 t114,.int .i64 t115] 47 (0,0))):=⟨by(with_reducible repeat(first|refine qk ?_ _|refine qv ?_|refine qj ?_ _));refine blk_put (cs:=#[.int .i64 t114,.int .i64 0]) ?_ 1 _ rfl;(with_reducible repeat(first|refine qk ?_ _|refine qv ?_|refine qj ?_ _));refine blk_put (cs:=#[.int .i64 0,.int .i64 0]) ?_ 0 _ rfl;(with_reducible repeat(first|refine qk ?_ _|refine qv ?_|refine qj ?_ _));exact BK116.out⟩;have n4_:U (Below w.heap.size w ((w42.setCell ⟨gb116,0,none⟩ (.int .i64 t114)).setCell ⟨gb116,1,none⟩ (.int .i64 t115))):=⟨by repeat(first|(with_reducible first|exact HB.out|apply L|apply O|apply J|refine qz ?_ GE101.out|refine qz ?_ GE116.out)|exact HB.out)⟩
          (try clear HO109)
          (try clear HO113)
          (try clear BK101)
          (try clear BK116)
          (try clear HB)
          generalize ((w42.setCell ⟨gb116,0,none⟩ (.int .i64 t114)).setCell ⟨gb116,1,none⟩ (.int .i64 t115))=w45 at n0_ n1_ n2_ n3_ n4_ ⊢;have HO109:=n0_;have HO113:=n1_;have BK101:=n2_;have BK116:=n3_;have HB:=n4_;clear n0_ n1_ n2_ n3_ n4_;replace HO109:=U.mk (Kd.jw HO109.out);replace HO113:=U.mk (Kd.jw HO113.out);replace BK101:=U.mk (qv BK101.out);replace BK116:=U.mk (qv BK116.out);replace HB:=U.mk (J HB.out);refine start_ (n:=12) (S:=fun w'=>w'.cell? ⟨gb116,0,none⟩ = some (.int .i64 t114)∧w'.cell? ⟨gb116,1,none⟩ = some (.int .i64 t115)) (ds:=[]) #[Y,Y,Y,Y,Y,Y,Y,Y,Y,Y,Y,Y] (by kernel_rfl) rfl rfl ⟨(qq BK116.out 0).trans rfl,(qq BK116.out 1).trans rfl⟩ (fun hHeld=>?_);refine with_tabW wv.tab5 wv.bits5 (fun HT_ HW_=>?_)
          generalize w45.drew=w46 at HO109 HO113 BK101 BK116 HB hHeld ⊢;refine pure_ (i:=0) (N:=some 40) (v:=?_) (a':=?_) #[Z,Y,Y,Y,Y,Y,Y,Y,Y,Y,Y,Y] rfl rfl (any_of HT_.out (by kernel_rfl)) (fun _ _ _ h=>h) (Or.inl ⟨by rfl,?_⟩) ?_ ?_;rotate_left
          ·intro w'
           go_simp
           with_reducible rfl
          rotate_left
          ·simp only[Act.put,jq5,jq6,jq7,i64_w,i32_w]
           rfl
          refine pure_ (i:=1) (N:=some 41) (v:=?_) (a':=?_) #[Z,Z,Y,Y,Y,Y,Y,Y,Y,Y,Y,Y] rfl rfl (any_of HT_.out (by kernel_rfl)) (fun _ _ _ h=>h) (Or.inl ⟨by rfl,?_⟩) ?_ ?_;rotate_left
          ·intro w'
           go_simp
           with_reducible rfl
          rotate_left
          ·simp only[Act.put,jq5,jq6,jq7,i64_w,i32_w]
           rfl
          refine pure_ (i:=2) (N:=some 42) (v:=?_) (a':=?_) #[Z,Z,Z,Y,Y,Y,Y,Y,Y,Y,Y,Y] rfl rfl (any_of HT_.out (by kernel_rfl)) (fun _ _ _ h=>h) (Or.inl ⟨by rfl,?_⟩) ?_ ?_;rotate_left
          ·intro w'
           go_simp
           with_reducible rfl
          rotate_left
          ·simp only[Act.put,jq5,jq6,jq7,i64_w,i32_w]
           rfl
          refine pure_ (i:=5) (N:=some 45) (v:=?_) (a':=?_) #[Z,Z,Z,Y,Y,Z,Y,Y,Y,Y,Y,Y] rfl rfl (any_of HT_.out (by kernel_rfl)) (fun _ _ _ h=>h) (Or.inl ⟨by rfl,?_⟩) ?_ ?_;rotate_left
          ·intro w'
           go_simp
           with_reducible rfl
          rotate_left
          ·simp only[Act.put,jq5,jq6,jq7,i64_w,i32_w]
           rfl
          refine take_ (i:=3) (N:=some 43) (v:=?_) (a':=?_) #[Z,Z,Z,Z,Y,Z,Y,Y,Y,Y,Y,Y] rfl rfl (take_ofW HT_.out HW_.out (by kernel_rfl)) (fun _ _ _ h=>h) (Or.inl ⟨by rfl,?_⟩) hHeld ?_ ?_;rotate_left
          ·rintro w' ⟨s0,s1⟩
           go_simp
           with_reducible rfl
          rotate_left
          ·simp only[Act.put,jq5,jq6,jq7,i64_w,i32_w]
           rfl
          refine take_ (i:=6) (N:=some 46) (v:=?_) (a':=?_) #[Z,Z,Z,Z,Y,Z,Z,Y,Y,Y,Y,Y] rfl rfl (take_ofW HT_.out HW_.out (by kernel_rfl)) (fun _ _ _ h=>h) (Or.inl ⟨by rfl,?_⟩) hHeld ?_ ?_;rotate_left
          ·rintro w' ⟨s0,s1⟩
           go_simp
           with_reducible rfl
          rotate_left
          ·simp only[Act.put,jq5,jq6,jq7,i64_w,i32_w]
           rfl
          refine one_ (i:=4) (N:=some 44) #[Z,Z,Z,Z,Z,Z,Z,Y,Y,Y,Y,Y] rfl rfl (one_of HT_.out (by kernel_rfl)) (by decide) (fun K hK=>?_);refine goes_ Tryz.func28 (by kernel_rfl) rfl #[.int .i64 t114] (by rfl) rfl rfl (by(try simp only[jq0,jq1,jq2]);first|done|rfl|(simp only[jq3,jq4];rfl)) ?_
          with_reducible refine(xz.calls t114 t117 _ A29.out).mono ?_
          rintro e w47 ⟨v118,rfl,ho0,hb⟩
          refine⟨_,rfl,?_⟩;replace HO109:=U.mk (Kd.V_elder' (by(with_reducible repeat(first|apply Kd.jv|apply Kd.jk|apply Kd.jw));exact HO109.out) (Kd.R_base ho0) hb);replace HO113:=U.mk (Kd.V_elder' (by(with_reducible repeat(first|apply Kd.jv|apply Kd.jk|apply Kd.jw));exact HO113.out) (Kd.R_base ho0) hb);have HO119:=U.mk (Kd.R_lower ho0 (zq (by repeat(first|(with_reducible first|exact HB.out|apply L|apply O|apply J|refine qz ?_ GE101.out|refine qz ?_ GE116.out)|exact HB.out))));replace BK101:=U.mk (jx (by solve_by_elim only[BK101.out,qk,qv,qj]) hb);replace BK116:=U.mk (jx (by solve_by_elim only[BK116.out,qk,qv,qj]) hb);replace HB:=U.mk (qx (by repeat(first|(with_reducible first|exact HB.out|apply L|apply O|apply J|refine qz ?_ GE101.out|refine qz ?_ GE116.out)|exact HB.out)) hb)
          (try clear hb)
          (try clear hb2)
          (try clear hk)
          (try clear hi)
          (try clear ho0)
          refine hK.out _ _ ⟨(qq BK116.out 0).trans rfl,(qq BK116.out 1).trans rfl⟩ (fun hHeld=>?_);clear hK K;refine norm_ (a':=?_) ?_ ?_;rotate_left
          ·show Act.put _ (some 44) _=_
           simp only[Act.put,jq5,jq6,jq7,i64_w,i32_w]
           rfl
          refine one_ (i:=7) (N:=some 47) #[Z,Z,Z,Z,Z,Z,Z,Z,Y,Y,Y,Y] rfl rfl (one_of HT_.out (by kernel_rfl)) (by decide) (fun K hK=>?_);refine goes_ Tryz.func28 (by kernel_rfl) rfl #[.int .i64 t115] (by rfl) rfl rfl (by(try simp only[jq0,jq1,jq2]);first|done|rfl|(simp only[jq3,jq4];rfl)) ?_
          with_reducible refine(xz.calls t115 t120 _ A30.out).mono ?_
          rintro e w48 ⟨v121,rfl,ho0,hb⟩
          refine⟨_,rfl,?_⟩;replace HO109:=U.mk (Kd.V_elder' (by(with_reducible repeat(first|apply Kd.jv|apply Kd.jk|apply Kd.jw));exact HO109.out) (Kd.R_base ho0) hb);replace HO113:=U.mk (Kd.V_elder' (by(with_reducible repeat(first|apply Kd.jv|apply Kd.jk|apply Kd.jw));exact HO113.out) (Kd.R_base ho0) hb);have HO122:=U.mk (Kd.R_lower (Kd.R_new' ho0 (Kd.R_lt (by solve_by_elim only[HO119.out,Kd.zj,Kd.zz,Kd.zk]))) (zq (by repeat(first|(with_reducible first|exact HB.out|apply L|apply O|apply J|refine qz ?_ GE101.out|refine qz ?_ GE116.out)|exact HB.out))));replace HO119:=U.mk (Kd.R_elder' (by solve_by_elim only[HO119.out,Kd.zj,Kd.zz,Kd.zk]) (Kd.R_base ho0) hb);replace BK101:=U.mk (jx (by solve_by_elim only[BK101.out,qk,qv,qj]) hb);replace BK116:=U.mk (jx (by solve_by_elim only[BK116.out,qk,qv,qj]) hb);replace HB:=U.mk (qx (by repeat(first|(with_reducible first|exact HB.out|apply L|apply O|apply J|refine qz ?_ GE101.out|refine qz ?_ GE116.out)|exact HB.out)) hb)
          (try clear hb)
          (try clear hb2)
          (try clear hk)
          (try clear hi)
          (try clear ho0)
          obtain⟨Ao50,co50,eo50⟩:=Kd.R_slice HO122.out
          (first|subst eo50|(injection eo50 with f1_ f2_ f3_;have f4_:=f1_.symm;have f5_:=f3_.symm;clear f1_ f2_ f3_;subst f4_;subst f5_))
          refine hK.out _ _ ⟨(qq BK116.out 0).trans rfl,(qq BK116.out 1).trans rfl⟩ (fun hHeld=>?_);clear hK K;refine norm_ (a':=?_) ?_ ?_;rotate_left
          ·show Act.put _ (some 47) _=_
           simp only[Act.put,jq5,jq6,jq7,i64_w,i32_w]
           rfl
          refine one_ (i:=8) (N:=some 48) #[Z,Z,Z,Z,Z,Z,Z,Z,Z,Y,Y,Y] rfl rfl (one_of HT_.out (by kernel_rfl)) (by decide) (fun K hK=>?_);refine Kd.R_append_rows_step (Kd.int .u8) (w0:=w) w.heap.size (by rfl) (.tmp 44) (.tmp 47) 44 5 (.int .u8 0) 1 rfl Tryz.underlying44 info5 rfl (by decide) (by omega) v118 t117 t120 _ _ _ (fun k_=>some k_≠(.slice Ao50 t120.length co50:Value).ownBlock) (fun _=>False) rfl rfl ?aO ?aR (fun _ _ h=>h) (fun _ h=>h.elim) ?aF ?aB ?aS ?aL ?_
          (case aR=>repeat(first|exact(Kd.R_reads' HO122.out).2.2|(with_reducible refine Kd.C_alloc ?_ _)|(with_reducible refine Kd.C_drewN ?_ _)|(with_reducible refine Kd.C_drew ?_)))
          (case aB=>exact(by repeat(first|(with_reducible first|exact HB.out|apply L|apply O|apply J|refine qz ?_ GE101.out|refine qz ?_ GE116.out)|exact HB.out)))
          (case aF=>exact(fun k_ hk=>Kd.fresh' (Kd.R_lt (by solve_by_elim only[HO122.out,Kd.zj,Kd.zz,Kd.zk])) k_ hk))
          (case aO=>exact(by(with_reducible repeat(first|apply Kd.zj|apply Kd.zz|apply Kd.zk));exact Kd.R_mono HO119.out (fun _ hk=>hk.2)))
          (case aS=>exact(zq (by repeat(first|(with_reducible first|exact HB.out|apply L|apply O|apply J|refine qz ?_ GE101.out|refine qz ?_ GE116.out)|exact HB.out))))
          (case aL=>have:=LMc31.out;omega)
          intro v124 w49 ho hb hg hat
          rw[← Ny123.out] at ho;replace BK101:=U.mk (blk_grown (by solve_by_elim only[BK101.out,qk,qv,qj]) hg (Kd.R_ne HO119.out BK101.out (by decide)));replace HO109:=U.mk (Kd.V_afterv (ok:=(fun k_=>some k_≠(.slice Ao50 t120.length co50:Value).ownBlock∧k_≠gb101∧k_≠gb116)) (by(with_reducible repeat(first|apply Kd.jv|apply Kd.jk|apply Kd.jw));exact Kd.V_mono HO109.out (fun _ hk=>⟨⟨hk.2,⟨hk.1.1.1,hk.1.1.2⟩⟩,hk.1.2⟩)) hg hat);replace HO113:=U.mk (Kd.V_afterv (ok:=(fun k_=>some k_≠(.slice Ao50 t120.length co50:Value).ownBlock∧k_≠gb101∧k_≠gb116)) (by(with_reducible repeat(first|apply Kd.jv|apply Kd.jk|apply Kd.jw));exact Kd.V_mono HO113.out (fun _ hk=>⟨⟨hk.2,⟨hk.1.1.1,hk.1.1.2⟩⟩,hk.1.2⟩)) hg hat);replace BK116:=U.mk (blk_grown (by solve_by_elim only[BK116.out,qk,qv,qj]) hg (Kd.R_ne HO119.out BK116.out (by decide)));replace HO122:=U.mk (Kd.R_after (ok:=(fun _=>True)) (by solve_by_elim only[HO122.out,Kd.zj,Kd.zz,Kd.zk]) hg hat);replace HB:=U.mk (hb);have HO125:=U.mk (ho);clear HO119;clear ho hb hg hat;obtain⟨Ao51,co51,eo51⟩:=Kd.R_slice HO125.out
          (first|subst eo51|(injection eo51 with f1_ f2_ f3_;have f4_:=f1_.symm;have f5_:=f3_.symm;clear f1_ f2_ f3_;subst f4_;subst f5_))
          refine hK.out _ _ ⟨(qq BK116.out 0).trans rfl,(qq BK116.out 1).trans rfl⟩ (fun hHeld=>?_);clear hK K;refine norm_ (a':=?_) ?_ ?_;rotate_left
          ·show Act.put _ (some 48) _=_
           simp only[Act.put,jq5,jq6,jq7,i64_w,i32_w]
           rfl
          refine one_ (i:=9) (N:=some 49) #[Z,Z,Z,Z,Z,Z,Z,Z,Z,Z,Y,Y] rfl rfl (one_of HT_.out (by kernel_rfl)) (by decide) (fun K hK=>?_);refine goes_ Tryz.func26 (by kernel_rfl) rfl #[.slice Ao51 y123.length co51] (by rfl) rfl rfl (by(try simp only[jq0,jq1,jq2]);first|done|rfl|(simp only[jq3,jq4];rfl)) ?_
          with_reducible refine(vz.calls _ _ y123 t126 _ ?side1 ?side2 A32.out).mono ?_
          (case side1=>solve_by_elim only[(Kd.R_reads' HO125.out).2.2,Kd.C_alloc,Kd.C_drewN,Kd.C_drew])
          (case side2=>exact(Kd.R_reads' HO125.out).2.1)
          rintro e w52 ⟨rfl,hb⟩
          refine⟨_,rfl,?_⟩;replace HO109:=U.mk (Kd.V_below (by(with_reducible repeat(first|apply Kd.jv|apply Kd.jk|apply Kd.jw));exact HO109.out) hb);replace HO113:=U.mk (Kd.V_below (by(with_reducible repeat(first|apply Kd.jv|apply Kd.jk|apply Kd.jw));exact HO113.out) hb);replace HO122:=U.mk (Kd.R_below (by solve_by_elim only[HO122.out,Kd.zj,Kd.zz,Kd.zk]) hb);replace HO125:=U.mk (Kd.R_below (by solve_by_elim only[HO125.out,Kd.zj,Kd.zz,Kd.zk]) hb);replace BK101:=U.mk (jx (by solve_by_elim only[BK101.out,qk,qv,qj]) hb);replace BK116:=U.mk (jx (by solve_by_elim only[BK116.out,qk,qv,qj]) hb);replace HB:=U.mk (qx (by repeat(first|(with_reducible first|exact HB.out|apply L|apply O|apply J|refine qz ?_ GE101.out|refine qz ?_ GE116.out)|exact HB.out)) hb)
          (try clear hb)
          (try clear hb2)
          (try clear hk)
          (try clear hi)
          refine hK.out _ _ ⟨(qq BK116.out 0).trans rfl,(qq BK116.out 1).trans rfl⟩ (fun hHeld=>?_);clear hK K;refine norm_ (a':=?_) ?_ ?_;rotate_left
          ·show Act.put _ (some 49) _=_
           simp only[Act.put,jq5,jq6,jq7,i64_w,i32_w]
           rfl
          refine pure_ (i:=10) (N:=some 50) (v:=?_) (a':=?_) #[Z,Z,Z,Z,Z,Z,Z,Z,Z,Z,Z,Y] rfl rfl (any_of HT_.out (by kernel_rfl)) (fun _ _ _ h=>h) (Or.inl ⟨by rfl,?_⟩) ?_ ?_;rotate_left
          ·intro w'
           go_simp
           with_reducible rfl
          rotate_left
          ·simp only[Act.put,jq5,jq6,jq7,i64_w,i32_w]
           rfl
          refine pure_ (i:=11) (N:=some 6) (v:=?_) (a':=?_) #[Z,Z,Z,Z,Z,Z,Z,Z,Z,Z,Z,Z] rfl rfl (any_of HT_.out (by kernel_rfl)) (fun _ _ _ h=>h) (Or.inl ⟨by rfl,?_⟩) ?_ ?_;rotate_left
          ·intro w'
           go_simp
           with_reducible rfl
          rotate_left
          ·simp only[Act.put,jq5,jq6,jq7,i64_w,i32_w]
           rfl
          refine done_ (done_of HT_.out (by kernel_rfl)) ?_;try go_wp2
          go_ret
          exact⟨by first|rfl|(simp[*,zw,zv] <;> rfl),by repeat(first|(with_reducible first|exact HB.out|apply L|apply O|apply J|refine qz ?_ GE101.out|refine qz ?_ GE116.out)|exact HB.out)⟩
         ·rw[if_neg c33] at H;exact absurd H (by simp)
        ·rw[if_neg c31] at H;exact absurd H (by simp)
       ·rw[if_neg c28] at H;exact absurd H (by simp)
      ·rw[if_neg c25] at H;exact absurd H (by simp)
     ·rw[if_neg c21] at H;exact absurd H (by simp)
    ·rw[if_neg c20] at H;exact absurd H (by simp)
def qzx.f (a0_0:Int) (a0_1:Int) (a0_2:ByteArray) (a0_3:ByteArray) (a1:Int):Option (Int):=if (wrap64 (a1 - (a0_2.size:Int))) < 0 then(some (-1)) else(if (wrap64 ((wrap64 (a1 - (a0_2.size:Int))) - (a0_3.size:Int))) < 0 then(some (-1)) else(some (wrap64 ((wrap64 (a1 - (a0_2.size:Int))) - (a0_3.size:Int)))))
theorem qzx.calls (a0_0:Int) (a0_1:Int) (a0_2:ByteArray) (a0_3:ByteArray) (a1:Int) (r:Int) (w:World) (h:qzx.f a0_0 a0_1 a0_2 a0_3 a1=some r) :
  Calls Tryz.prog 9 #[.agg #[.int .i64 a0_0,.int .i64 a0_1,.string a0_2,.string a0_3],.int .i64 a1] w fun e w'=>e=.returned (.int .i64 r)∧Below w.heap.size w w':=by
 have hu23:=Tryz.underlying23;have HB:=U.mk (Below.refl w.heap.size w);unfold qzx.f at h;have H:=h;clear h
 by_cases c3:(wrap64 (a1 - (a0_2.size:Int))) < 0
 ·rw[if_pos c3] at H;have c3b0:decide ((wrap64 (a1 - (a0_2.size:Int))) < 0)=true:=decide_eq_true c3;clear c3;obtain rfl:=Option.some.inj H;go_enter Tryz.func9,Tryz.ntmps9;go_wp2_with (first|((with_reducible refine gate_dst (N:=2) rfl ?_);refine box_event ?hg (N:=2) ?hd (cs:=#[.int .i64 a0_0,.int .i64 a0_1,.string a0_2,.string a0_3]) (t:=23) ?hr ?_;(case hd=>rfl);(case hg=>rfl);(case hr=>first|(go_simp;done)|(go_simp;rfl));intro gb101 hg w4 hbox hb;have BK101:=U.mk (hbox);have GW101:=U.mk ((by rw[hg];exact(zq (by solve_by_elim only[HB.out,L,O,J])):w.heap.size≤gb101));have GE101:=GW101;replace HB:=U.mk (qx (by solve_by_elim only[HB.out,L,O,J]) hb);clear hb hbox hg;obtain⟨y5_0,y5_1,y5_2,y5_3,z5_0,z5_1,z5_2,z5_3⟩:=bx4f BK101.out))
  go_ret
  exact⟨by first|rfl|(simp[*,zw,zv] <;> rfl),by solve_by_elim (maxDepth:=20) only[HB.out,L,O,J,qz,GE101.out]⟩
 ·rw[if_neg c3] at H;have c3b0:decide ((wrap64 (a1 - (a0_2.size:Int))) < 0)=false:=decide_eq_false c3;clear c3
  by_cases c6:(wrap64 ((wrap64 (a1 - (a0_2.size:Int))) - (a0_3.size:Int))) < 0
  ·rw[if_pos c6] at H;have c6b0:decide ((wrap64 ((wrap64 (a1 - (a0_2.size:Int))) - (a0_3.size:Int))) < 0)=true:=decide_eq_true c6;clear c6;obtain rfl:=Option.some.inj H;go_enter Tryz.func9,Tryz.ntmps9;go_wp2_with (first|((with_reducible refine gate_dst (N:=2) rfl ?_);refine box_event ?hg (N:=2) ?hd (cs:=#[.int .i64 a0_0,.int .i64 a0_1,.string a0_2,.string a0_3]) (t:=23) ?hr ?_;(case hd=>rfl);(case hg=>rfl);(case hr=>first|(go_simp;done)|(go_simp;rfl));intro gb101 hg w7 hbox hb;have BK101:=U.mk (hbox);have GW101:=U.mk ((by rw[hg];exact(zq (by solve_by_elim only[HB.out,L,O,J])):w.heap.size≤gb101));have GE101:=GW101;replace HB:=U.mk (qx (by solve_by_elim only[HB.out,L,O,J]) hb);clear hb hbox hg;obtain⟨y8_0,y8_1,y8_2,y8_3,z8_0,z8_1,z8_2,z8_3⟩:=bx4f BK101.out))
   go_ret
   exact⟨by first|rfl|(simp[*,zw,zv] <;> rfl),by solve_by_elim (maxDepth:=20) only[HB.out,L,O,J,qz,GE101.out]⟩
  ·rw[if_neg c6] at H;have c6b0:decide ((wrap64 ((wrap64 (a1 - (a0_2.size:Int))) - (a0_3.size:Int))) < 0)=false:=decide_eq_false c6;clear c6;obtain rfl:=Option.some.inj H;go_enter Tryz.func9,Tryz.ntmps9;go_wp2_with (first|((with_reducible refine gate_dst (N:=2) rfl ?_);refine box_event ?hg (N:=2) ?hd (cs:=#[.int .i64 a0_0,.int .i64 a0_1,.string a0_2,.string a0_3]) (t:=23) ?hr ?_;(case hd=>rfl);(case hg=>rfl);(case hr=>first|(go_simp;done)|(go_simp;rfl));intro gb101 hg w9 hbox hb;have BK101:=U.mk (hbox);have GW101:=U.mk ((by rw[hg];exact(zq (by solve_by_elim only[HB.out,L,O,J])):w.heap.size≤gb101));have GE101:=GW101;replace HB:=U.mk (qx (by solve_by_elim only[HB.out,L,O,J]) hb);clear hb hbox hg;obtain⟨y10_0,y10_1,y10_2,y10_3,z10_0,z10_1,z10_2,z10_3⟩:=bx4f BK101.out))
   go_ret
   exact⟨by first|rfl|(simp[*,zw,zv] <;> rfl),by solve_by_elim (maxDepth:=20) only[HB.out,L,O,J,qz,GE101.out]⟩
def qjk.f (a0_0:Int) (a0_1:Int) (a0_2:ByteArray) (a0_3:ByteArray):Option (Int × Int × ByteArray × ByteArray):=some (a0_0,a0_1,a0_2,a0_3)
theorem qjk.calls (a0_0:Int) (a0_1:Int) (a0_2:ByteArray) (a0_3:ByteArray) (r1:Int) (r2:Int) (r3:ByteArray) (r4:ByteArray) (w:World) (h:qjk.f a0_0 a0_1 a0_2 a0_3=some (r1,r2,r3,r4)) :
  Calls Tryz.prog 19 #[.agg #[.int .i64 a0_0,.int .i64 a0_1,.string a0_2,.string a0_3]] w fun e w'=>e=.returned (.agg #[.int .i64 r1,.int .i64 r2,.string r3,.string r4])∧Below w.heap.size w w':=by
 have hu23:=Tryz.underlying23;have hu30:=Tryz.underlying30;have HB:=U.mk (Below.refl w.heap.size w);have H:(some (a0_0,a0_1,a0_2,a0_3))=some (r1,r2,r3,r4):=h;clear h;simp only[Option.some.injEq,Prod.mk.injEq] at H;obtain⟨rfl,rfl,rfl,rfl⟩:=H;go_enter Tryz.func19,Tryz.ntmps19;go_wp2_with (first|((with_reducible refine gate_dst (N:=1) rfl ?_);refine box_event ?hg (N:=1) ?hd (cs:=#[.int .i64 a0_0,.int .i64 a0_1,.string a0_2,.string a0_3]) (t:=23) ?hr ?_;(case hd=>rfl);(case hg=>rfl);(case hr=>first|(go_simp;done)|(go_simp;rfl));intro gb101 hg w2 hbox hb;have BK101:=U.mk (hbox);have GW101:=U.mk ((by rw[hg];exact(zq (by solve_by_elim only[HB.out,L,O,J])):w.heap.size≤gb101));have GE101:=GW101;replace HB:=U.mk (qx (by solve_by_elim only[HB.out,L,O,J]) hb);clear hb hbox hg)|((with_reducible refine gate_dst (N:=2) rfl ?_);refine box_event ?hg (N:=2) ?hd (cs:=#[.int .i64 0,.int .i64 0,.string (⟨#[]⟩ : ByteArray),.string (⟨#[]⟩ : ByteArray)]) (t:=30) ?hr ?_;(case hd=>rfl);(case hg=>rfl);(case hr=>first|(go_simp;done)|(go_simp;rfl));intro gb102 hg w3 hbox hb;have BK102:=U.mk (hbox);have GW102:=U.mk ((by rw[hg];exact(zq (by solve_by_elim (maxDepth:=20) only[HB.out,L,O,J,qz,GE101.out])):w.heap.size≤gb102));have GE102:=GW102;replace HB:=U.mk (qx (by solve_by_elim (maxDepth:=20) only[HB.out,L,O,J,qz,GE101.out]) hb);have NB101_102:=U.mk ((by rw[hg];exact Nat.ne_of_lt (blk_lt (by solve_by_elim only[BK101.out,qk,qv,qj])):gb101≠gb102));have NB102_101:=U.mk ((by rw[hg];exact Nat.ne_of_gt (blk_lt (by solve_by_elim only[BK101.out,qk,qv,qj])):gb102≠gb101));replace BK101:=U.mk (jx (by solve_by_elim only[BK101.out,qk,qv,qj]) hb);clear hb hbox hg)|((with_reducible refine gate_dst (N:=3) rfl ?_);refine box_event ?hg (N:=3) ?hd (cs:=#[.int .i64 0,.int .i64 0,.string (⟨#[]⟩ : ByteArray),.string (⟨#[]⟩ : ByteArray)]) (t:=30) ?hr ?_;(case hd=>rfl);(case hg=>rfl);(case hr=>first|(go_simp;done)|(go_simp;rfl));intro gb103 hg w4 hbox hb;have BK103:=U.mk (hbox);have GW103:=U.mk ((by rw[hg];exact(zq (by repeat(first|(with_reducible first|exact HB.out|apply L|apply O|apply J|refine qz ?_ GE101.out|refine qz ?_ GE102.out)|exact HB.out))):w.heap.size≤gb103));have GE103:=GW103;replace HB:=U.mk (qx (by repeat(first|(with_reducible first|exact HB.out|apply L|apply O|apply J|refine qz ?_ GE101.out|refine qz ?_ GE102.out)|exact HB.out)) hb);have NB101_103:=U.mk ((by rw[hg];exact Nat.ne_of_lt (blk_lt (by solve_by_elim only[BK101.out,qk,qv,qj])):gb101≠gb103));have NB103_101:=U.mk ((by rw[hg];exact Nat.ne_of_gt (blk_lt (by solve_by_elim only[BK101.out,qk,qv,qj])):gb103≠gb101));replace BK101:=U.mk (jx (by solve_by_elim only[BK101.out,qk,qv,qj]) hb);have NB102_103:=U.mk ((by rw[hg];exact Nat.ne_of_lt (blk_lt (by solve_by_elim only[BK102.out,qk,qv,qj])):gb102≠gb103));have NB103_102:=U.mk ((by rw[hg];exact Nat.ne_of_gt (blk_lt (by solve_by_elim only[BK102.out,qk,qv,qj])):gb103≠gb102));replace BK102:=U.mk (jx (by solve_by_elim only[BK102.out,qk,qv,qj]) hb);clear hb hbox hg;have hnb5:=NB101_102.out;have hnc5:=NB102_101.out;have hnb6:=NB101_103.out;have hnc6:=NB103_101.out;obtain⟨y7_0,y7_1,y7_2,y7_3,z7_0,z7_1,z7_2,z7_3⟩:=bx4f BK101.out;have hnb8:=NB103_102.out;have hnc8:=NB102_103.out;obtain⟨y9_0,y9_1,y9_2,y9_3,z9_0,z9_1,z9_2,z9_3⟩:=bx4f BK103.out;obtain⟨y10_0,y10_1,y10_2,y10_3,z10_0,z10_1,z10_2,z10_3⟩:=bx4f BK102.out))
 refine bodyPost_ret (results_cell_row rfl _ _ gb102 30 #[.int .i64 a0_0,.int .i64 a0_1,.string a0_2,.string a0_3] (0,0) _ rfl (by(with_reducible repeat(first|refine qk ?_ _|refine qv ?_|refine qj ?_ _));refine blk_put (cs:=#[.int .i64 a0_0,.int .i64 a0_1,.string a0_2,.string (⟨#[]⟩ : ByteArray)]) ?_ 3 _ rfl;(with_reducible repeat(first|refine qk ?_ _|refine qv ?_|refine qj ?_ _));refine blk_put (cs:=#[.int .i64 a0_0,.int .i64 a0_1,.string (⟨#[]⟩ : ByteArray),.string (⟨#[]⟩ : ByteArray)]) ?_ 2 _ rfl;(with_reducible repeat(first|refine qk ?_ _|refine qv ?_|refine qj ?_ _));refine blk_put (cs:=#[.int .i64 a0_0,.int .i64 0,.string (⟨#[]⟩ : ByteArray),.string (⟨#[]⟩ : ByteArray)]) ?_ 1 _ rfl;(with_reducible repeat(first|refine qk ?_ _|refine qv ?_|refine qj ?_ _));refine blk_put (cs:=#[.int .i64 0,.int .i64 0,.string (⟨#[]⟩ : ByteArray),.string (⟨#[]⟩ : ByteArray)]) ?_ 0 _ rfl;(with_reducible repeat(first|refine qk ?_ _|refine qv ?_|refine qj ?_ _));refine blk_far ?_ NB102_103.out _;(with_reducible repeat(first|refine qk ?_ _|refine qv ?_|refine qj ?_ _));refine blk_far ?_ NB102_103.out _;(with_reducible repeat(first|refine qk ?_ _|refine qv ?_|refine qj ?_ _));refine blk_far ?_ NB102_103.out _;(with_reducible repeat(first|refine qk ?_ _|refine qv ?_|refine qj ?_ _));refine blk_far ?_ NB102_103.out _;(with_reducible repeat(first|refine qk ?_ _|refine qv ?_|refine qj ?_ _));exact BK102.out) Tryz.underlying30 rfl (by kernel_rfl)) rfl ?_;exact⟨by first|rfl|(simp[*,zw,zv] <;> rfl),by repeat(first|(with_reducible first|exact HB.out|apply L|apply O|apply J|refine qz ?_ GE101.out|refine qz ?_ GE102.out|refine qz ?_ GE103.out)|exact HB.out)⟩
def qzj.f (a0_0:Int) (a0_1:Int) (a0_2:ByteArray) (a0_3:ByteArray) (a1_0:Int) (a1_1:Int) (a1_2:ByteArray) (a1_3:ByteArray):Option (Bool):=if a0_0=a1_0 then(if a0_1=a1_1 then(if a0_2.toList=a1_2.toList then(if a0_3.toList=a1_3.toList then(some true) else(some false)) else(some false)) else(some false)) else(some false)
theorem qzj.calls (a0_0:Int) (a0_1:Int) (a0_2:ByteArray) (a0_3:ByteArray) (a1_0:Int) (a1_1:Int) (a1_2:ByteArray) (a1_3:ByteArray) (r:Bool) (w:World) (h:qzj.f a0_0 a0_1 a0_2 a0_3 a1_0 a1_1 a1_2 a1_3=some r) :
  Calls Tryz.prog 29 #[.agg #[.int .i64 a0_0,.int .i64 a0_1,.string a0_2,.string a0_3],.agg #[.int .i64 a1_0,.int .i64 a1_1,.string a1_2,.string a1_3]] w fun e w'=>e=.returned (.bool r)∧Below w.heap.size w w':=by
 have hu30:=Tryz.underlying30;have HB:=U.mk (Below.refl w.heap.size w);unfold qzj.f at h;have H:=h;clear h
 by_cases c3:a0_0=a1_0
 ·rw[if_pos c3] at H;have c3b0:(a0_0 == a1_0)=true:=beq_iff_eq.mpr c3;have c3b1:(a0_0 != a1_0)=false:=bne_eq_false_iff_eq.mpr c3;clear c3
  by_cases c4:a0_1=a1_1
  ·rw[if_pos c4] at H;have c4b0:(a0_1 == a1_1)=true:=beq_iff_eq.mpr c4;have c4b1:(a0_1 != a1_1)=false:=bne_eq_false_iff_eq.mpr c4;clear c4
   by_cases c5:a0_2.toList=a1_2.toList
   ·rw[if_pos c5] at H;have c5b0:(a0_2.toList == a1_2.toList)=true:=beq_iff_eq.mpr c5;have c5b1:(a0_2.toList != a1_2.toList)=false:=bne_eq_false_iff_eq.mpr c5;clear c5
    by_cases c6:a0_3.toList=a1_3.toList
    ·rw[if_pos c6] at H;have c6b0:(a0_3.toList == a1_3.toList)=true:=beq_iff_eq.mpr c6;have c6b1:(a0_3.toList != a1_3.toList)=false:=bne_eq_false_iff_eq.mpr c6;clear c6;obtain rfl:=Option.some.inj H;go_enter Tryz.func29,Tryz.ntmps29;go_wp2_with (first|((with_reducible refine gate_dst (N:=2) rfl ?_);refine box_event ?hg (N:=2) ?hd (cs:=#[.int .i64 a0_0,.int .i64 a0_1,.string a0_2,.string a0_3]) (t:=30) ?hr ?_;(case hd=>rfl);(case hg=>rfl);(case hr=>first|(go_simp;done)|(go_simp;rfl));intro gb101 hg w7 hbox hb;have BK101:=U.mk (hbox);have GW101:=U.mk ((by rw[hg];exact(zq (by solve_by_elim only[HB.out,L,O,J])):w.heap.size≤gb101));have GE101:=GW101;replace HB:=U.mk (qx (by solve_by_elim only[HB.out,L,O,J]) hb);clear hb hbox hg)|((with_reducible refine gate_dst (N:=3) rfl ?_);refine box_event ?hg (N:=3) ?hd (cs:=#[.int .i64 a1_0,.int .i64 a1_1,.string a1_2,.string a1_3]) (t:=30) ?hr ?_;(case hd=>rfl);(case hg=>rfl);(case hr=>first|(go_simp;done)|(go_simp;rfl));intro gb102 hg w8 hbox hb;have BK102:=U.mk (hbox);have GW102:=U.mk ((by rw[hg];exact(zq (by solve_by_elim (maxDepth:=20) only[HB.out,L,O,J,qz,GE101.out])):w.heap.size≤gb102));have GE102:=GW102;replace HB:=U.mk (qx (by solve_by_elim (maxDepth:=20) only[HB.out,L,O,J,qz,GE101.out]) hb);have NB101_102:=U.mk ((by rw[hg];exact Nat.ne_of_lt (blk_lt (by solve_by_elim only[BK101.out,qk,qv,qj])):gb101≠gb102));have NB102_101:=U.mk ((by rw[hg];exact Nat.ne_of_gt (blk_lt (by solve_by_elim only[BK101.out,qk,qv,qj])):gb102≠gb101));replace BK101:=U.mk (jx (by solve_by_elim only[BK101.out,qk,qv,qj]) hb);clear hb hbox hg;have hnb9:=NB101_102.out;have hnc9:=NB102_101.out;obtain⟨y10_0,y10_1,y10_2,y10_3,z10_0,z10_1,z10_2,z10_3⟩:=bx4f BK101.out;obtain⟨y11_0,y11_1,y11_2,y11_3,z11_0,z11_1,z11_2,z11_3⟩:=bx4f BK102.out))
     go_ret
     exact⟨by first|rfl|(simp[*,zw,zv] <;> rfl),by repeat(first|(with_reducible first|exact HB.out|apply L|apply O|apply J|refine qz ?_ GE101.out|refine qz ?_ GE102.out)|exact HB.out)⟩
    ·rw[if_neg c6] at H;have c6b0:(a0_3.toList == a1_3.toList)=false:=beq_eq_false_iff_ne.mpr c6;have c6b1:(a0_3.toList != a1_3.toList)=true:=bne_iff_ne.mpr c6;obtain rfl:=Option.some.inj H;go_enter Tryz.func29,Tryz.ntmps29;go_wp2_with (first|((with_reducible refine gate_dst (N:=2) rfl ?_);refine box_event ?hg (N:=2) ?hd (cs:=#[.int .i64 a0_0,.int .i64 a0_1,.string a0_2,.string a0_3]) (t:=30) ?hr ?_;(case hd=>rfl);(case hg=>rfl);(case hr=>first|(go_simp;done)|(go_simp;rfl));intro gb101 hg w12 hbox hb;have BK101:=U.mk (hbox);have GW101:=U.mk ((by rw[hg];exact(zq (by solve_by_elim only[HB.out,L,O,J])):w.heap.size≤gb101));have GE101:=GW101;replace HB:=U.mk (qx (by solve_by_elim only[HB.out,L,O,J]) hb);clear hb hbox hg)|((with_reducible refine gate_dst (N:=3) rfl ?_);refine box_event ?hg (N:=3) ?hd (cs:=#[.int .i64 a1_0,.int .i64 a1_1,.string a1_2,.string a1_3]) (t:=30) ?hr ?_;(case hd=>rfl);(case hg=>rfl);(case hr=>first|(go_simp;done)|(go_simp;rfl));intro gb102 hg w13 hbox hb;have BK102:=U.mk (hbox);have GW102:=U.mk ((by rw[hg];exact(zq (by solve_by_elim (maxDepth:=20) only[HB.out,L,O,J,qz,GE101.out])):w.heap.size≤gb102));have GE102:=GW102;replace HB:=U.mk (qx (by solve_by_elim (maxDepth:=20) only[HB.out,L,O,J,qz,GE101.out]) hb);have NB101_102:=U.mk ((by rw[hg];exact Nat.ne_of_lt (blk_lt (by solve_by_elim only[BK101.out,qk,qv,qj])):gb101≠gb102));have NB102_101:=U.mk ((by rw[hg];exact Nat.ne_of_gt (blk_lt (by solve_by_elim only[BK101.out,qk,qv,qj])):gb102≠gb101));replace BK101:=U.mk (jx (by solve_by_elim only[BK101.out,qk,qv,qj]) hb);clear hb hbox hg;have hnb14:=NB101_102.out;have hnc14:=NB102_101.out;obtain⟨y15_0,y15_1,y15_2,y15_3,z15_0,z15_1,z15_2,z15_3⟩:=bx4f BK101.out;obtain⟨y16_0,y16_1,y16_2,y16_3,z16_0,z16_1,z16_2,z16_3⟩:=bx4f BK102.out))
     go_ret
     exact⟨by first|rfl|(simp[*,zw,zv] <;> rfl),by repeat(first|(with_reducible first|exact HB.out|apply L|apply O|apply J|refine qz ?_ GE101.out|refine qz ?_ GE102.out)|exact HB.out)⟩
   ·rw[if_neg c5] at H;have c5b0:(a0_2.toList == a1_2.toList)=false:=beq_eq_false_iff_ne.mpr c5;have c5b1:(a0_2.toList != a1_2.toList)=true:=bne_iff_ne.mpr c5;obtain rfl:=Option.some.inj H;go_enter Tryz.func29,Tryz.ntmps29;go_wp2_with (first|((with_reducible refine gate_dst (N:=2) rfl ?_);refine box_event ?hg (N:=2) ?hd (cs:=#[.int .i64 a0_0,.int .i64 a0_1,.string a0_2,.string a0_3]) (t:=30) ?hr ?_;(case hd=>rfl);(case hg=>rfl);(case hr=>first|(go_simp;done)|(go_simp;rfl));intro gb101 hg w17 hbox hb;have BK101:=U.mk (hbox);have GW101:=U.mk ((by rw[hg];exact(zq (by solve_by_elim only[HB.out,L,O,J])):w.heap.size≤gb101));have GE101:=GW101;replace HB:=U.mk (qx (by solve_by_elim only[HB.out,L,O,J]) hb);clear hb hbox hg)|((with_reducible refine gate_dst (N:=3) rfl ?_);refine box_event ?hg (N:=3) ?hd (cs:=#[.int .i64 a1_0,.int .i64 a1_1,.string a1_2,.string a1_3]) (t:=30) ?hr ?_;(case hd=>rfl);(case hg=>rfl);(case hr=>first|(go_simp;done)|(go_simp;rfl));intro gb102 hg w18 hbox hb;have BK102:=U.mk (hbox);have GW102:=U.mk ((by rw[hg];exact(zq (by solve_by_elim (maxDepth:=20) only[HB.out,L,O,J,qz,GE101.out])):w.heap.size≤gb102));have GE102:=GW102;replace HB:=U.mk (qx (by solve_by_elim (maxDepth:=20) only[HB.out,L,O,J,qz,GE101.out]) hb);have NB101_102:=U.mk ((by rw[hg];exact Nat.ne_of_lt (blk_lt (by solve_by_elim only[BK101.out,qk,qv,qj])):gb101≠gb102));have NB102_101:=U.mk ((by rw[hg];exact Nat.ne_of_gt (blk_lt (by solve_by_elim only[BK101.out,qk,qv,qj])):gb102≠gb101));replace BK101:=U.mk (jx (by solve_by_elim only[BK101.out,qk,qv,qj]) hb);clear hb hbox hg;have hnb19:=NB101_102.out;have hnc19:=NB102_101.out;obtain⟨y20_0,y20_1,y20_2,y20_3,z20_0,z20_1,z20_2,z20_3⟩:=bx4f BK101.out;obtain⟨y21_0,y21_1,y21_2,y21_3,z21_0,z21_1,z21_2,z21_3⟩:=bx4f BK102.out))
    go_ret
    exact⟨by first|rfl|(simp[*,zw,zv] <;> rfl),by repeat(first|(with_reducible first|exact HB.out|apply L|apply O|apply J|refine qz ?_ GE101.out|refine qz ?_ GE102.out)|exact HB.out)⟩
  ·rw[if_neg c4] at H;have c4b0:(a0_1 == a1_1)=false:=beq_eq_false_iff_ne.mpr c4;have c4b1:(a0_1 != a1_1)=true:=bne_iff_ne.mpr c4;obtain rfl:=Option.some.inj H;go_enter Tryz.func29,Tryz.ntmps29;go_wp2_with (first|((with_reducible refine gate_dst (N:=2) rfl ?_);refine box_event ?hg (N:=2) ?hd (cs:=#[.int .i64 a0_0,.int .i64 a0_1,.string a0_2,.string a0_3]) (t:=30) ?hr ?_;(case hd=>rfl);(case hg=>rfl);(case hr=>first|(go_simp;done)|(go_simp;rfl));intro gb101 hg w22 hbox hb;have BK101:=U.mk (hbox);have GW101:=U.mk ((by rw[hg];exact(zq (by solve_by_elim only[HB.out,L,O,J])):w.heap.size≤gb101));have GE101:=GW101;replace HB:=U.mk (qx (by solve_by_elim only[HB.out,L,O,J]) hb);clear hb hbox hg)|((with_reducible refine gate_dst (N:=3) rfl ?_);refine box_event ?hg (N:=3) ?hd (cs:=#[.int .i64 a1_0,.int .i64 a1_1,.string a1_2,.string a1_3]) (t:=30) ?hr ?_;(case hd=>rfl);(case hg=>rfl);(case hr=>first|(go_simp;done)|(go_simp;rfl));intro gb102 hg w23 hbox hb;have BK102:=U.mk (hbox);have GW102:=U.mk ((by rw[hg];exact(zq (by solve_by_elim (maxDepth:=20) only[HB.out,L,O,J,qz,GE101.out])):w.heap.size≤gb102));have GE102:=GW102;replace HB:=U.mk (qx (by solve_by_elim (maxDepth:=20) only[HB.out,L,O,J,qz,GE101.out]) hb);have NB101_102:=U.mk ((by rw[hg];exact Nat.ne_of_lt (blk_lt (by solve_by_elim only[BK101.out,qk,qv,qj])):gb101≠gb102));have NB102_101:=U.mk ((by rw[hg];exact Nat.ne_of_gt (blk_lt (by solve_by_elim only[BK101.out,qk,qv,qj])):gb102≠gb101));replace BK101:=U.mk (jx (by solve_by_elim only[BK101.out,qk,qv,qj]) hb);clear hb hbox hg;have hnb24:=NB101_102.out;have hnc24:=NB102_101.out;obtain⟨y25_0,y25_1,y25_2,y25_3,z25_0,z25_1,z25_2,z25_3⟩:=bx4f BK101.out;obtain⟨y26_0,y26_1,y26_2,y26_3,z26_0,z26_1,z26_2,z26_3⟩:=bx4f BK102.out))
   go_ret
   exact⟨by first|rfl|(simp[*,zw,zv] <;> rfl),by repeat(first|(with_reducible first|exact HB.out|apply L|apply O|apply J|refine qz ?_ GE101.out|refine qz ?_ GE102.out)|exact HB.out)⟩
 ·rw[if_neg c3] at H;have c3b0:(a0_0 == a1_0)=false:=beq_eq_false_iff_ne.mpr c3;have c3b1:(a0_0 != a1_0)=true:=bne_iff_ne.mpr c3;obtain rfl:=Option.some.inj H;go_enter Tryz.func29,Tryz.ntmps29;go_wp2_with (first|((with_reducible refine gate_dst (N:=2) rfl ?_);refine box_event ?hg (N:=2) ?hd (cs:=#[.int .i64 a0_0,.int .i64 a0_1,.string a0_2,.string a0_3]) (t:=30) ?hr ?_;(case hd=>rfl);(case hg=>rfl);(case hr=>first|(go_simp;done)|(go_simp;rfl));intro gb101 hg w27 hbox hb;have BK101:=U.mk (hbox);have GW101:=U.mk ((by rw[hg];exact(zq (by solve_by_elim only[HB.out,L,O,J])):w.heap.size≤gb101));have GE101:=GW101;replace HB:=U.mk (qx (by solve_by_elim only[HB.out,L,O,J]) hb);clear hb hbox hg)|((with_reducible refine gate_dst (N:=3) rfl ?_);refine box_event ?hg (N:=3) ?hd (cs:=#[.int .i64 a1_0,.int .i64 a1_1,.string a1_2,.string a1_3]) (t:=30) ?hr ?_;(case hd=>rfl);(case hg=>rfl);(case hr=>first|(go_simp;done)|(go_simp;rfl));intro gb102 hg w28 hbox hb;have BK102:=U.mk (hbox);have GW102:=U.mk ((by rw[hg];exact(zq (by solve_by_elim (maxDepth:=20) only[HB.out,L,O,J,qz,GE101.out])):w.heap.size≤gb102));have GE102:=GW102;replace HB:=U.mk (qx (by solve_by_elim (maxDepth:=20) only[HB.out,L,O,J,qz,GE101.out]) hb);have NB101_102:=U.mk ((by rw[hg];exact Nat.ne_of_lt (blk_lt (by solve_by_elim only[BK101.out,qk,qv,qj])):gb101≠gb102));have NB102_101:=U.mk ((by rw[hg];exact Nat.ne_of_gt (blk_lt (by solve_by_elim only[BK101.out,qk,qv,qj])):gb102≠gb101));replace BK101:=U.mk (jx (by solve_by_elim only[BK101.out,qk,qv,qj]) hb);clear hb hbox hg;have hnb29:=NB101_102.out;have hnc29:=NB102_101.out;obtain⟨y30_0,y30_1,y30_2,y30_3,z30_0,z30_1,z30_2,z30_3⟩:=bx4f BK101.out;obtain⟨y31_0,y31_1,y31_2,y31_3,z31_0,z31_1,z31_2,z31_3⟩:=bx4f BK102.out))
  go_ret
  exact⟨by first|rfl|(simp[*,zw,zv] <;> rfl),by repeat(first|(with_reducible first|exact HB.out|apply L|apply O|apply J|refine qz ?_ GE101.out|refine qz ?_ GE102.out)|exact HB.out)⟩
def qjq.l0:Nat→List (S23)→Int→Int→Option (Int)
 | 0,_,_,_=>none
 | k + 1,x0,x1,x5=>if x5 < (x0.length:Int) then(if 0≤x5 then((qzx.f ((kv x0 x5).f0) ((kv x0 x5).f1) ((kv x0 x5).f2) ((kv x0 x5).f3) x1).bind fun t102=>(if t102 < 0 then(some (-1)) else(qjq.l0 k x0 t102 (wrap64 (x5 + 1))))) else(none)) else(some x1)
def qjq.f (k:Nat) (l0:List (S23)) (a1:Int):Option (Int):=if (wrap64 (a1 - (l0.length:Int))) < 0 then(some (-1)) else(qjq.l0 k l0 (wrap64 (a1 - (l0.length:Int))) 0)
theorem qjq.calls (k:Nat) (A0:Option Addr) (c0:Nat) (l0:List (S23)) (a1:Int) (r:Int) (w:World) (hr0:Kd.C k23 w A0 l0.length l0) (hc0:l0.length≤c0) (h:qjq.f k l0 a1=some r) :
  Calls Tryz.prog 10 #[.slice A0 l0.length c0,.int .i64 a1] w fun e w'=>e=.returned (.int .i64 r)∧Below w.heap.size w w':=by
 have hu23:=Tryz.underlying23;have HR0:=U.mk hr0;have HC0:=U.mk hc0;clear hr0 hc0;have HB:=U.mk (Below.refl w.heap.size w);unfold qjq.f at h;have H:=h;clear h
 by_cases c3:(wrap64 (a1 - (l0.length:Int))) < 0
 ·rw[if_pos c3] at H;have c3b0:decide ((wrap64 (a1 - (l0.length:Int))) < 0)=true:=decide_eq_true c3;clear c3;obtain rfl:=Option.some.inj H;go_enter Tryz.func10,Tryz.ntmps10;go_wp2;go_ret
  exact⟨by first|rfl|(simp[*,zw,zv] <;> rfl),by solve_by_elim only[HB.out,L,O,J]⟩
 ·rw[if_neg c3] at H;have c3b0:decide ((wrap64 (a1 - (l0.length:Int))) < 0)=false:=decide_eq_false c3;clear c3;have H':=U.mk H;clear H;go_enter Tryz.func10,Tryz.ntmps10;go_wp2
  go_loopg [1,5] k (fun kq v1 v5 w'=>∃ (x1_1:Int) (x5_1:Int),v1=.int .i64 x1_1∧v5=.int .i64 x5_1∧U (qjq.l0 kq l0 x1_1 x5_1=some r)∧U (kq≤k)∧U (Below w.heap.size w w'))
  case atStart=>exact⟨(wrap64 (a1 - (l0.length:Int))),(0),(by first|rfl|(simp;done)|(simp[*];done)),(by first|rfl|(simp;done)|(simp[*];done)),H',⟨Nat.le_refl _⟩,⟨by solve_by_elim only[HB.out,L,O,J]⟩⟩
  case round =>
   clear H';try clear c1
   try clear p2
   try clear c3
   try clear c3b0
   obtain⟨x1_1,x5_1,rfl,rfl,HA,HK1,HB⟩:=hrel
   cases gk with
   | zero=>exact absurd HA.out (by simp[qjq.l0])
   | succ k1 =>
    have H:=HA.out;clear HA;simp only[qjq.l0] at H
    by_cases c4:x5_1 < (l0.length:Int)
    ·rw[if_pos c4] at H;have c4b0:decide (x5_1 < (l0.length:Int))=true:=decide_eq_true c4;clear c4
     by_cases c5 : 0≤x5_1
     ·rw[if_pos c5] at H;have c5b0:decide (0≤x5_1)=true:=decide_eq_true c5;clear c5;replace H:=jq8.mp H;obtain⟨t102,A60,H⟩:=H;try dsimp only at H
      have A6:=U.mk A60;clear A60
      by_cases c7:t102 < 0
      ·rw[if_pos c7] at H;have c7b0:decide (t102 < 0)=true:=decide_eq_true c7;clear c7;obtain rfl:=Option.some.inj H;have p101 : 0≤(x5_1:Int):=of_decide_eq_true (by assumption);have q101:x5_1 < (l0.length:Int):=of_decide_eq_true (by assumption);obtain⟨ad101,e101,hx101_0,hx101_1,hx101_2,hx101_3⟩:=at_T23 HR0.out x5_1 p101 q101
       cases e101
       replace hx101_0:=(HB.out.cell (World.block_lt_of_cell? w _ hx101_0)).trans hx101_0;replace hx101_1:=(HB.out.cell (World.block_lt_of_cell? w _ hx101_1)).trans hx101_1;replace hx101_2:=(HB.out.cell (World.block_lt_of_cell? w _ hx101_2)).trans hx101_2;replace hx101_3:=(HB.out.cell (World.block_lt_of_cell? w _ hx101_3)).trans hx101_3;replace p101:=eq_true p101;replace q101:=eq_true q101;go_wp2_with (first|((with_reducible refine zx (f:=9) rfl ?_);refine goesL_ (some 23) rfl rfl Tryz.func9 (by kernel_rfl) rfl #[.agg #[.int .i64 ((kv l0 x5_1).f0),.int .i64 ((kv l0 x5_1).f1),.string ((kv l0 x5_1).f2),.string ((kv l0 x5_1).f3)],.int .i64 x1_1] rfl (by(try simp only[jq0,jq1,jq2]);first|done|rfl|(simp only[jq3,jq4];rfl)) ?_;(with_reducible refine(qzx.calls ((kv l0 x5_1).f0) ((kv l0 x5_1).f1) ((kv l0 x5_1).f2) ((kv l0 x5_1).f3) x1_1 t102 _ A6.out).mono ?_);rintro e w8 ⟨rfl,hb⟩;refine⟨_,rfl,?_⟩;replace HB:=U.mk (qx (by solve_by_elim only[HB.out,L,O,J]) hb);(try clear hb)))
       go_ret
       exact⟨by first|rfl|(simp[*,zw,zv] <;> rfl),by solve_by_elim only[HB.out,L,O,J]⟩
      ·rw[if_neg c7] at H;have c7b0:decide (t102 < 0)=false:=decide_eq_false c7;clear c7;have H':=U.mk H;clear H;have p101 : 0≤(x5_1:Int):=of_decide_eq_true (by assumption);have q101:x5_1 < (l0.length:Int):=of_decide_eq_true (by assumption);obtain⟨ad101,e101,hx101_0,hx101_1,hx101_2,hx101_3⟩:=at_T23 HR0.out x5_1 p101 q101
       cases e101
       replace hx101_0:=(HB.out.cell (World.block_lt_of_cell? w _ hx101_0)).trans hx101_0;replace hx101_1:=(HB.out.cell (World.block_lt_of_cell? w _ hx101_1)).trans hx101_1;replace hx101_2:=(HB.out.cell (World.block_lt_of_cell? w _ hx101_2)).trans hx101_2;replace hx101_3:=(HB.out.cell (World.block_lt_of_cell? w _ hx101_3)).trans hx101_3;replace p101:=eq_true p101;replace q101:=eq_true q101;go_wp2_with (first|((with_reducible refine zx (f:=9) rfl ?_);refine goesL_ (some 23) rfl rfl Tryz.func9 (by kernel_rfl) rfl #[.agg #[.int .i64 ((kv l0 x5_1).f0),.int .i64 ((kv l0 x5_1).f1),.string ((kv l0 x5_1).f2),.string ((kv l0 x5_1).f3)],.int .i64 x1_1] rfl (by(try simp only[jq0,jq1,jq2]);first|done|rfl|(simp only[jq3,jq4];rfl)) ?_;(with_reducible refine(qzx.calls ((kv l0 x5_1).f0) ((kv l0 x5_1).f1) ((kv l0 x5_1).f2) ((kv l0 x5_1).f3) x1_1 t102 _ A6.out).mono ?_);rintro e w9 ⟨rfl,hb⟩;refine⟨_,rfl,?_⟩;replace HB:=U.mk (qx (by solve_by_elim only[HB.out,L,O,J]) hb);(try clear hb)))
       go_roundg k1
       case measure=>have:=HK1.out;omega
       case rel=>exact⟨(t102),(wrap64 (x5_1 + 1)),(by first|rfl|(simp;done)|(simp[*];done)),(by first|rfl|(simp;done)|(simp[*];done)),H',⟨by have:=HK1.out;omega⟩,⟨by solve_by_elim only[HB.out,L,O,J]⟩⟩
     ·rw[if_neg c5] at H;exact absurd H (by simp)
    ·rw[if_neg c4] at H;have c4b0:decide (x5_1 < (l0.length:Int))=false:=decide_eq_false c4;clear c4;obtain rfl:=Option.some.inj H;go_wp2;go_ret
     exact⟨by first|rfl|(simp[*,zw,zv] <;> rfl),by solve_by_elim only[HB.out,L,O,J]⟩
def qjv.l0:Nat→List (S23)→List (S30)→Int→Option ((List (S30)))
 | 0,_,_,_=>none
 | k + 1,x0,x3,x4=>if x4 < (x0.length:Int) then(if 0≤x4 then((qjk.f ((kv x0 x4).f0) ((kv x0 x4).f1) ((kv x0 x4).f2) ((kv x0 x4).f3)).bind fun bt105=>(if x4 < (x3.length:Int) then(qjv.l0 k x0 (x3.set (x4:Int).toNat (⟨bt105.1,bt105.2.1,bt105.2.2.1,bt105.2.2.2⟩ : S30)) (wrap64 (x4 + 1))) else(none))) else(none)) else(some x3)
def qjv.f (k:Nat) (l0:List (S23)):Option ((List (S30))):=if 0≤(l0.length:Int) then(if ((l0.length:Int):Int).toNat≤5864062014805 then(qjv.l0 k l0 (List.replicate ((l0.length:Int):Int).toNat z30) 0) else(none)) else(none)
theorem qjv.calls (k:Nat) (A0:Option Addr) (c0:Nat) (l0:List (S23)) (r:List (S30)) (w:World) (hr0:Kd.C k23 w A0 l0.length l0) (hc0:l0.length≤c0) (h:qjv.f k l0=some r) :
  Calls Tryz.prog 20 #[.slice A0 l0.length c0] w fun e w'=>∃ v0_:Value,e=.returned (v0_)∧Kd.R k30 30 w' w.heap.size (fun _=>True) v0_ r∧Below w.heap.size w w':=by
 have hu23:=Tryz.underlying23;have hu30:=Tryz.underlying30;have HR0:=U.mk hr0;have HC0:=U.mk hc0;clear hr0 hc0;have HB:=U.mk (Below.refl w.heap.size w);unfold qjv.f at h;have H:=h;clear h
 by_cases c2 : 0≤(l0.length:Int)
 ·rw[if_pos c2] at H;have c2b0:=eq_true c2;have c2b1:decide (0≤(l0.length:Int))=true:=decide_eq_true c2;clear c2
  by_cases c3:((l0.length:Int):Int).toNat≤5864062014805
  ·rw[if_pos c3] at H;have c3b0:=eq_true c3;have c3b1:decide (((l0.length:Int):Int).toNat≤5864062014805)=true:=decide_eq_true c3;clear c3;obtain⟨y101,hy101⟩ : ∃ y_:List (S30),y_=(List.replicate ((l0.length:Int):Int).toNat z30):=⟨_,rfl⟩;replace H:(qjv.l0 k l0 y101 0)=some r:=by first|(rw[hy101];with_reducible exact H)|(have H2_:=(Option.bind_some _ _).symm.trans H;rw[hy101];with_reducible exact H2_)|(have H2_:=(Option.bind_some _ _).symm.trans H;with_reducible exact H2_)|with_reducible exact H|(rw[hy101];exact H)|exact H
   have Ny101:=U.mk hy101;clear hy101;have H':=U.mk H;clear H;go_enter Tryz.func20,Tryz.ntmps20;go_wp2_with (first|((with_reducible refine gate_dst (N:=7) rfl ?_);refine Kd.R_make k30 _ 30 rfl (N:=7) rfl 31 _ _ rfl (l0.length:Int) rfl rfl Tryz.underlying31 (.agg #[(.int .i64 0),(.int .i64 0),(.string ⟨#[]⟩),(.string ⟨#[]⟩)]) 48 info30 rfl (by decide) (by omega) z30 (ok:=fun _=>True) (okp:=fun _=>True) (k30_mkM _ _ _ z30 ) (fun _ hk=>hk) trivial (of_decide_eq_true (by assumption)) (Nat.le_trans (Nat.mul_le_mul_right _ (of_decide_eq_true (by assumption):(l0.length:Int).toNat≤5864062014805)) (by omega)) (Below.refl _ _) (Nat.le_refl _) ?_;intro v102 w4 ho5 hb hg_ hnew_;clear hg_ hnew_;(first|rw[← Ny101.out] at ho5|(simp only[Int.reduceToNat] at ho5;rw[← Ny101.out] at ho5));have HO103:=U.mk (Kd.R_lower ho5 (zq (by solve_by_elim only[HB.out,L,O,J])));replace HB:=U.mk (qx (by solve_by_elim only[HB.out,L,O,J]) hb);clear hb ho5))
   go_loopg [4] k (fun kq v4 w'=>∃ (x3_1:List (S30)) (x4_1:Int),v4=.int .i64 x4_1∧U (qjv.l0 kq l0 x3_1 x4_1=some r)∧U (kq≤k)∧U (Kd.R k30 30 w' w.heap.size (fun _=>True) v102 x3_1)∧U (Below w.heap.size w w'))
   case atStart=>exact⟨(y101),(0),(by first|rfl|(simp;done)|(simp[*];done)),H',⟨Nat.le_refl _⟩,⟨by(with_reducible repeat(first|apply Kd.zj|apply Kd.zz|apply Kd.zk));exact HO103.out⟩,⟨by solve_by_elim only[HB.out,L,O,J]⟩⟩
   case round =>
    clear H';try clear c2
    try clear c2b0
    try clear c2b1
    try clear p2
    try clear c3
    try clear c3b0
    try clear c3b1
    obtain⟨x3_1,x4_1,rfl,HA,HK1,HO_3,HB⟩:=hrel
    cases gk with
    | zero=>exact absurd HA.out (by simp[qjv.l0])
    | succ k1 =>
     have H:=HA.out;clear HA;simp only[qjv.l0] at H
     by_cases c6:x4_1 < (l0.length:Int)
     ·rw[if_pos c6] at H;have c6b0:decide (x4_1 < (l0.length:Int))=true:=decide_eq_true c6;clear c6
      by_cases c7 : 0≤x4_1
      ·rw[if_pos c7] at H;have c7b0:decide (0≤x4_1)=true:=decide_eq_true c7;clear c7;replace H:=jq8.mp H;obtain⟨⟨t105,t106,t107,t108⟩,A80,H⟩:=H;try dsimp only at H
       have A8:=U.mk A80;clear A80
       by_cases c9:x4_1 < (x3_1.length:Int)
       ·rw[if_pos c9] at H;have c9b0:decide (x4_1 < (x3_1.length:Int))=true:=decide_eq_true c9;clear c9;obtain⟨y109,hy109⟩ : ∃ y_:List (S30),y_=(x3_1.set (x4_1:Int).toNat (⟨t105,t106,t107,t108⟩ : S30)):=⟨_,rfl⟩;replace H:(qjv.l0 k1 l0 y109 (wrap64 (x4_1 + 1)))=some r:=by first|(rw[hy109];with_reducible exact H)|(have H2_:=(Option.bind_some _ _).symm.trans H;rw[hy109];with_reducible exact H2_)|(have H2_:=(Option.bind_some _ _).symm.trans H;with_reducible exact H2_)|with_reducible exact H|(rw[hy109];exact H)|exact H
        have Ny109:=U.mk hy109;clear hy109;have H':=U.mk H;clear H;have p104 : 0≤(x4_1:Int):=of_decide_eq_true (by assumption);have q104:x4_1 < (l0.length:Int):=of_decide_eq_true (by assumption);obtain⟨ad104,e104,hx104_0,hx104_1,hx104_2,hx104_3⟩:=at_T23 HR0.out x4_1 p104 q104
        cases e104
        replace hx104_0:=(HB.out.cell (World.block_lt_of_cell? w _ hx104_0)).trans hx104_0;replace hx104_1:=(HB.out.cell (World.block_lt_of_cell? w _ hx104_1)).trans hx104_1;replace hx104_2:=(HB.out.cell (World.block_lt_of_cell? w _ hx104_2)).trans hx104_2;replace hx104_3:=(HB.out.cell (World.block_lt_of_cell? w _ hx104_3)).trans hx104_3;replace p104:=eq_true p104;replace q104:=eq_true q104;go_wp2_with (first|((with_reducible refine zx (f:=19) rfl ?_);refine goesL_ (some 20) rfl rfl Tryz.func19 (by kernel_rfl) rfl #[.agg #[.int .i64 ((kv l0 x4_1).f0),.int .i64 ((kv l0 x4_1).f1),.string ((kv l0 x4_1).f2),.string ((kv l0 x4_1).f3)]] rfl (by(try simp only[jq0,jq1,jq2]);first|done|rfl|(simp only[jq3,jq4];rfl)) ?_;(with_reducible refine(qjk.calls ((kv l0 x4_1).f0) ((kv l0 x4_1).f1) ((kv l0 x4_1).f2) ((kv l0 x4_1).f3) t105 t106 t107 t108 _ A8.out).mono ?_);rintro e w11 ⟨rfl,hb⟩;refine⟨_,rfl,?_⟩;replace HO_3:=U.mk (Kd.R_below (by solve_by_elim only[HO_3.out,Kd.zj,Kd.zz,Kd.zk]) hb);replace HB:=U.mk (qx (by solve_by_elim only[HB.out,L,O,J]) hb);(try clear hb hM10 hM12);have p10 : 0≤(x4_1:Int):=of_decide_eq_true (by assumption);have q10:(x4_1:Int) < ((x3_1.length:Int):Int):=of_decide_eq_true (by assumption);obtain⟨go10,co10,eo10,gb10,gl10,cl10,HG10⟩:=Kd.R_form HO_3.out (by omega);(first|cases eo10|(injection eo10 with ea_ en_ ec_;(first|subst ea_|(injection ea_ with ea_;subst ea_));subst ec_;clear en_));have GB10:=U.mk gb10;have GG10:=U.mk HG10;clear gb10 gl10 HG10;obtain⟨ce10,hcl10,hM10,hcc10,hfr10⟩:=Kd.R_elem HO_3.out z30 (x4_1:Int) p10 q10;obtain rfl:=k30_openM hM10;have hx10_0:w11.cell? ⟨go10,(x4_1:Int).toNat * 4,none⟩ = some (.int .i64 ((kw x3_1 x4_1).f0)):=hcc10 0 _ rfl;have hx10_1:w11.cell? ⟨go10,(x4_1:Int).toNat * 4 + 1,none⟩ = some (.int .i64 ((kw x3_1 x4_1).f1)):=hcc10 1 _ rfl;have hx10_2:w11.cell? ⟨go10,(x4_1:Int).toNat * 4 + 2,none⟩ = some (.string ((kw x3_1 x4_1).f2)):=hcc10 2 _ rfl;have hx10_3:w11.cell? ⟨go10,(x4_1:Int).toNat * 4 + 3,none⟩ = some (.string ((kw x3_1 x4_1).f3)):=hcc10 3 _ rfl;have hf10_0:w11.frozen? ⟨go10,(x4_1:Int).toNat * 4,none⟩ = false:=hfr10 0;have hf10_1:w11.frozen? ⟨go10,(x4_1:Int).toNat * 4 + 1,none⟩ = false:=hfr10 1;have hf10_2:w11.frozen? ⟨go10,(x4_1:Int).toNat * 4 + 2,none⟩ = false:=hfr10 2;have hf10_3:w11.frozen? ⟨go10,(x4_1:Int).toNat * 4 + 3,none⟩ = false:=hfr10 3;clear hcl10 hcc10 hfr10;replace p10:=eq_true p10;replace q10:=eq_true q10;have HX12:=U.mk (show Kd.R k30 30 w11 w.heap.size (fun _=>True) (.slice (some ⟨go10,0,none⟩) x3_1.length co10) x3_1 from(by solve_by_elim only[HO_3.out,Kd.zj,Kd.zz,Kd.zk]));obtain⟨ce12,hcl12,hM12,hcc12,hfr12⟩:=Kd.R_elem HX12.out z30 (x4_1:Int) (of_decide_eq_true (by assumption)) (by have h_:(x4_1:Int) < ((x3_1.length:Int):Int):=of_decide_eq_true (by assumption);first|exact h_|(have e_:=(Kd.R_reads' HO_3.out).1;omega)|simpa using h_);obtain rfl:=k30_openM hM12;have HP12:=Kd.R_seg HX12.out (x4_1:Int) (of_decide_eq_true (by assumption)) (by have h_:(x4_1:Int) < ((x3_1.length:Int):Int):=of_decide_eq_true (by assumption);first|exact h_|(have e_:=(Kd.R_reads' HO_3.out).1;omega)|simpa using h_) (seg:=[.int .i64 t105,.int .i64 t106,.string t107,.string t108]) (j:=0) hcl12 hcc12 (show 4≤4 from by decide) (x':=(⟨t105,t106,t107,t108⟩ : S30)) (k30_mkM _ _ _ (⟨t105,t106,t107,t108⟩ : S30) ) (fun _ hk=>hk);have hx12_0:=hcc12 0 _ rfl;(try simp only[show(k30).sz=4 from rfl,Nat.mul_one,Nat.add_zero] at hx12_0);have hf12_0:=hfr12 0;(try simp only[show(k30).sz=4 from rfl,Nat.mul_one,Nat.add_zero] at hf12_0);have hx12_1:=hcc12 1 _ rfl;(try simp only[show(k30).sz=4 from rfl,Nat.mul_one,Nat.add_zero] at hx12_1);have hf12_1:=hfr12 1;(try simp only[show(k30).sz=4 from rfl,Nat.mul_one,Nat.add_zero] at hf12_1);have hx12_2:=hcc12 2 _ rfl;(try simp only[show(k30).sz=4 from rfl,Nat.mul_one,Nat.add_zero] at hx12_2);have hf12_2:=hfr12 2;(try simp only[show(k30).sz=4 from rfl,Nat.mul_one,Nat.add_zero] at hf12_2);have hx12_3:=hcc12 3 _ rfl;(try simp only[show(k30).sz=4 from rfl,Nat.mul_one,Nat.add_zero] at hx12_3);have hf12_3:=hfr12 3;(try simp only[show(k30).sz=4 from rfl,Nat.mul_one,Nat.add_zero] at hf12_3);clear hcl12 hcc12 hfr12)|((with_reducible refine jq (t:=30) (p:=21) rfl ?_);refine jz (t:=30) (p:=21) (v:=?vo_w13) (w1:=((((w11.setCell ⟨go10,(x4_1:Int).toNat * 4,none⟩ (.int .i64 t105)).setCell ⟨go10,(x4_1:Int).toNat * 4 + 1,none⟩ (.int .i64 t106)).setCell ⟨go10,(x4_1:Int).toNat * 4 + 2,none⟩ (.string t107)).setCell ⟨go10,(x4_1:Int).toNat * 4 + 3,none⟩ (.string t108))) ?hg ?ho ?hn ?hr ?_;(case ho=>rfl);(case hg=>rfl);(case hn=>rfl);(case hr=>first|(go_simp;done)|(go_simp;rfl));intro w13 hw;have hg:w11.grownBy w13 (some go10):=(by rw[hw];exact HP12.2);have hp_:Kd.R k30 30 w13 w.heap.size (fun _=>True) (.slice (some ⟨go10,0,none⟩) x3_1.length co10) y109:=(by rw[hw,Ny109.out];exact HP12.1);clear HP12;replace HO_3:=U.mk (hp_);replace HB:=U.mk ((by rw[hw];exact qz (qz (qz (qz (HB.out) GB10.out) GB10.out) GB10.out) GB10.out:Below w.heap.size w w13));clear hg hw hp_))
        go_roundg k1
        case measure=>have:=HK1.out;omega
        case rel=>exact⟨(y109),(wrap64 (x4_1 + 1)),(by first|rfl|(simp;done)|(simp[*];done)),H',⟨by have:=HK1.out;omega⟩,⟨by(with_reducible repeat(first|apply Kd.zj|apply Kd.zz|apply Kd.zk));exact HO_3.out⟩,⟨by solve_by_elim only[HB.out,L,O,J]⟩⟩
       ·rw[if_neg c9] at H;exact absurd H (by simp)
      ·rw[if_neg c7] at H;exact absurd H (by simp)
     ·rw[if_neg c6] at H;have c6b0:decide (x4_1 < (l0.length:Int))=false:=decide_eq_false c6;clear c6;obtain rfl:=Option.some.inj H;go_wp2;go_ret
      exact⟨_,by first|rfl|(simp[*,zw,zv] <;> rfl),by(with_reducible repeat(first|apply Kd.zj|apply Kd.zz|apply Kd.zk));exact HO_3.out,by solve_by_elim only[HB.out,L,O,J]⟩
  ·rw[if_neg c3] at H;exact absurd H (by simp)
 ·rw[if_neg c2] at H;exact absurd H (by simp)
def qzk.l0:Nat→List (S30)→List (S30)→Int→Option (Bool)
 | 0,_,_,_=>none
 | k + 1,x0,x1,x5=>if x5 < (x0.length:Int) then(if 0≤x5 then(if x5 < (x1.length:Int) then((qzj.f ((kw x0 x5).f0) ((kw x0 x5).f1) ((kw x0 x5).f2) ((kw x0 x5).f3) ((kw x1 x5).f0) ((kw x1 x5).f1) ((kw x1 x5).f2) ((kw x1 x5).f3)).bind fun t103=>(if t103=true then(qzk.l0 k x0 x1 (wrap64 (x5 + 1))) else(some false))) else(none)) else(none)) else(some true)
def qzk.f (k:Nat) (l0:List (S30)) (l1:List (S30)):Option (Bool):=if (l0.length:Int)=(l1.length:Int) then(qzk.l0 k l0 l1 0) else(some false)
def qzk.T6:Bool × List (List Nat × List Nat):=(true,[([],[]),([],[]),([0,1],[0,1]),([2],[2]),([],[]),([],[]),([4,5],[4,5]),([6],[6]),([3,7],[3,7]),([8],[8])])
def qzk.B6:List Nat:=[0,0,3,7,0,0,48,112,255,511]
theorem qzk.tab6:rtab .any (opsOf Tryz.f30 6)=qzk.T6:=by kernel_rfl
theorem qzk.bits6:waitsOk qzk.T6.2 qzk.B6=true:=by kernel_rfl
theorem qzk.calls (k:Nat) (A0:Option Addr) (c0:Nat) (l0:List (S30)) (A1:Option Addr) (c1:Nat) (l1:List (S30)) (r:Bool) (w:World) (hr0:Kd.C k30 w A0 l0.length l0) (hc0:l0.length≤c0) (hr1:Kd.C k30 w A1 l1.length l1) (hc1:l1.length≤c1) (h:qzk.f k l0 l1=some r) :
  Calls Tryz.prog 30 #[.slice A0 l0.length c0,.slice A1 l1.length c1] w fun e w'=>e=.returned (.bool r)∧Below w.heap.size w w':=by
 have hu30:=Tryz.underlying30;have HR0:=U.mk hr0;have HC0:=U.mk hc0;clear hr0 hc0;have HR1:=U.mk hr1;have HC1:=U.mk hc1;clear hr1 hc1;have HB:=U.mk (Below.refl w.heap.size w);unfold qzk.f at h;have H:=h;clear h
 by_cases c3:(l0.length:Int)=(l1.length:Int)
 ·rw[if_pos c3] at H;have c3b0:((l0.length:Int) == (l1.length:Int))=true:=beq_iff_eq.mpr c3;have c3b1:((l0.length:Int) != (l1.length:Int))=false:=bne_eq_false_iff_eq.mpr c3;have c3b2:(l0.length == l1.length)=true:=by first|simpa using c3|(simp at c3 ⊢;omega)
  clear c3;have H':=U.mk H;clear H;go_enter Tryz.func30,Tryz.ntmps30;go_wp2
  go_loopg [5] k (fun kq v5 w'=>∃ (x5_1:Int),v5=.int .i64 x5_1∧U (qzk.l0 kq l0 l1 x5_1=some r)∧U (kq≤k)∧U (Below w.heap.size w w'))
  case atStart=>exact⟨(0),(by first|rfl|(simp;done)|(simp[*];done)),H',⟨Nat.le_refl _⟩,⟨by solve_by_elim only[HB.out,L,O,J]⟩⟩
  case round =>
   clear H';try clear c1
   try clear p2
   try clear c3
   try clear c3b0
   try clear c3b1
   try clear c3b2
   obtain⟨x5_1,rfl,HA,HK1,HB⟩:=hrel
   cases gk with
   | zero=>exact absurd HA.out (by simp[qzk.l0])
   | succ k1 =>
    have H:=HA.out;clear HA;simp only[qzk.l0] at H
    by_cases c4:x5_1 < (l0.length:Int)
    ·rw[if_pos c4] at H;have c4b0:decide (x5_1 < (l0.length:Int))=true:=decide_eq_true c4;clear c4
     by_cases c5 : 0≤x5_1
     ·rw[if_pos c5] at H;have c5b0:decide (0≤x5_1)=true:=decide_eq_true c5;clear c5
      by_cases c6:x5_1 < (l1.length:Int)
      ·rw[if_pos c6] at H;have c6b0:decide (x5_1 < (l1.length:Int))=true:=decide_eq_true c6;clear c6;replace H:=jq8.mp H;obtain⟨t103,A70,H⟩:=H;try dsimp only at H
       have A7:=U.mk A70;clear A70
       by_cases c8:t103=true
       ·subst c8;have H1:(qzk.l0 k1 l0 l1 (wrap64 (x5_1 + 1)))=some r:=by rw[if_pos rfl] at H;exact H
        clear H;have H:=H1;clear H1;have H':=U.mk H;clear H;try go_wp2
        replace HB:=U.mk (J HB.out);have p101 : 0≤(x5_1:Int):=of_decide_eq_true (by assumption);have q101:x5_1 < (l0.length:Int):=of_decide_eq_true (by assumption);obtain⟨ad101,e101,hx101_0,hx101_1,hx101_2,hx101_3⟩:=at_T30 HR0.out x5_1 p101 q101;have hw101_3:=hx101_3;have hw101_2:=hx101_2;have hw101_1:=hx101_1;have hw101_0:=hx101_0
        cases e101
        replace hx101_0:=(HB.out.cell (World.block_lt_of_cell? w _ hx101_0)).trans hx101_0;replace hx101_1:=(HB.out.cell (World.block_lt_of_cell? w _ hx101_1)).trans hx101_1;replace hx101_2:=(HB.out.cell (World.block_lt_of_cell? w _ hx101_2)).trans hx101_2;replace hx101_3:=(HB.out.cell (World.block_lt_of_cell? w _ hx101_3)).trans hx101_3;replace p101:=eq_true p101;replace q101:=eq_true q101;have p102 : 0≤(x5_1:Int):=of_decide_eq_true (by assumption);have q102:x5_1 < (l1.length:Int):=of_decide_eq_true (by assumption);obtain⟨ad102,e102,hx102_0,hx102_1,hx102_2,hx102_3⟩:=at_T30 HR1.out x5_1 p102 q102;have hw102_3:=hx102_3;have hw102_2:=hx102_2;have hw102_1:=hx102_1;have hw102_0:=hx102_0
        cases e102
        replace hx102_0:=(HB.out.cell (World.block_lt_of_cell? w _ hx102_0)).trans hx102_0;replace hx102_1:=(HB.out.cell (World.block_lt_of_cell? w _ hx102_1)).trans hx102_1;replace hx102_2:=(HB.out.cell (World.block_lt_of_cell? w _ hx102_2)).trans hx102_2;replace hx102_3:=(HB.out.cell (World.block_lt_of_cell? w _ hx102_3)).trans hx102_3;replace p102:=eq_true p102;replace q102:=eq_true q102;refine start_ (n:=10) (S:=fun w'=>w'.cell? (ad101.add ((x5_1).toNat * 4))=some (.int .i64 ((kw l0 x5_1).f0))∧w'.cell? ⟨(ad101.add ((x5_1).toNat * 4)).block,(ad101.add ((x5_1).toNat * 4)).off + 1,none⟩ = some (.int .i64 ((kw l0 x5_1).f1))∧w'.cell? ⟨(ad101.add ((x5_1).toNat * 4)).block,(ad101.add ((x5_1).toNat * 4)).off + 2,none⟩ = some (.string ((kw l0 x5_1).f2))∧w'.cell? ⟨(ad101.add ((x5_1).toNat * 4)).block,(ad101.add ((x5_1).toNat * 4)).off + 3,none⟩ = some (.string ((kw l0 x5_1).f3))∧w'.cell? (ad102.add ((x5_1).toNat * 4))=some (.int .i64 ((kw l1 x5_1).f0))∧w'.cell? ⟨(ad102.add ((x5_1).toNat * 4)).block,(ad102.add ((x5_1).toNat * 4)).off + 1,none⟩ = some (.int .i64 ((kw l1 x5_1).f1))∧w'.cell? ⟨(ad102.add ((x5_1).toNat * 4)).block,(ad102.add ((x5_1).toNat * 4)).off + 2,none⟩ = some (.string ((kw l1 x5_1).f2))∧w'.cell? ⟨(ad102.add ((x5_1).toNat * 4)).block,(ad102.add ((x5_1).toNat * 4)).off + 3,none⟩ = some (.string ((kw l1 x5_1).f3))) (ds:=[]) #[Y,Y,Y,Y,Y,Y,Y,Y,Y,Y] (by kernel_rfl) rfl rfl ⟨((HB.out.cell (World.block_lt_of_cell? w _ hw101_0)).trans hw101_0),((HB.out.cell (World.block_lt_of_cell? w _ hw101_1)).trans hw101_1),((HB.out.cell (World.block_lt_of_cell? w _ hw101_2)).trans hw101_2),((HB.out.cell (World.block_lt_of_cell? w _ hw101_3)).trans hw101_3),((HB.out.cell (World.block_lt_of_cell? w _ hw102_0)).trans hw102_0),((HB.out.cell (World.block_lt_of_cell? w _ hw102_1)).trans hw102_1),((HB.out.cell (World.block_lt_of_cell? w _ hw102_2)).trans hw102_2),((HB.out.cell (World.block_lt_of_cell? w _ hw102_3)).trans hw102_3)⟩ (fun hHeld=>?_);refine with_tabW qzk.tab6 qzk.bits6 (fun HT_ HW_=>?_)
        generalize wr.drew=w9 at HB hx101_0 hx101_1 hx101_2 hx101_3 hx102_0 hx102_1 hx102_2 hx102_3 hHeld ⊢;refine pure_ (i:=0) (N:=some 17) (v:=?_) (a':=?_) #[Z,Y,Y,Y,Y,Y,Y,Y,Y,Y] rfl rfl (any_of HT_.out (by kernel_rfl)) (fun _ _ _ h=>h) (Or.inl ⟨by rfl,?_⟩) ?_ ?_;rotate_left
        ·intro w'
         go_simp
         with_reducible rfl
        rotate_left
        ·simp only[Act.put,jq5,jq6,jq7,i64_w,i32_w]
         rfl
        refine pure_ (i:=1) (N:=some 18) (v:=?_) (a':=?_) #[Z,Z,Y,Y,Y,Y,Y,Y,Y,Y] rfl rfl (any_of HT_.out (by kernel_rfl)) (fun _ _ _ h=>h) (Or.inl ⟨by rfl,?_⟩) ?_ ?_;rotate_left
        ·intro w'
         go_simp
         with_reducible rfl
        rotate_left
        ·simp only[Act.put,jq5,jq6,jq7,i64_w,i32_w]
         rfl
        refine pure_ (i:=2) (N:=some 19) (v:=?_) (a':=?_) #[Z,Z,Z,Y,Y,Y,Y,Y,Y,Y] rfl rfl (any_of HT_.out (by kernel_rfl)) (fun _ _ _ h=>h) (Or.inl ⟨by rfl,?_⟩) ?_ ?_;rotate_left
        ·intro w'
         go_simp
         with_reducible rfl
        rotate_left
        ·simp only[Act.put,jq5,jq6,jq7,i64_w,i32_w]
         rfl
        refine pure_ (i:=4) (N:=some 21) (v:=?_) (a':=?_) #[Z,Z,Z,Y,Z,Y,Y,Y,Y,Y] rfl rfl (any_of HT_.out (by kernel_rfl)) (fun _ _ _ h=>h) (Or.inl ⟨by rfl,?_⟩) ?_ ?_;rotate_left
        ·intro w'
         go_simp
         with_reducible rfl
        rotate_left
        ·simp only[Act.put,jq5,jq6,jq7,i64_w,i32_w]
         rfl
        refine pure_ (i:=5) (N:=some 22) (v:=?_) (a':=?_) #[Z,Z,Z,Y,Z,Z,Y,Y,Y,Y] rfl rfl (any_of HT_.out (by kernel_rfl)) (fun _ _ _ h=>h) (Or.inl ⟨by rfl,?_⟩) ?_ ?_;rotate_left
        ·intro w'
         go_simp
         with_reducible rfl
        rotate_left
        ·simp only[Act.put,jq5,jq6,jq7,i64_w,i32_w]
         rfl
        refine pure_ (i:=6) (N:=some 23) (v:=?_) (a':=?_) #[Z,Z,Z,Y,Z,Z,Z,Y,Y,Y] rfl rfl (any_of HT_.out (by kernel_rfl)) (fun _ _ _ h=>h) (Or.inl ⟨by rfl,?_⟩) ?_ ?_;rotate_left
        ·intro w'
         go_simp
         with_reducible rfl
        rotate_left
        ·simp only[Act.put,jq5,jq6,jq7,i64_w,i32_w]
         rfl
        refine take_ (i:=3) (N:=some 20) (v:=?_) (a':=?_) #[Z,Z,Z,Z,Z,Z,Z,Y,Y,Y] rfl rfl (take_ofW HT_.out HW_.out (by kernel_rfl)) (fun _ _ _ h=>h) (Or.inl ⟨by rfl,?_⟩) hHeld ?_ ?_;rotate_left
        ·rintro w' ⟨s0,s1,s2,s3,s4,s5,s6,s7⟩
         go_simp
         with_reducible rfl
        rotate_left
        ·simp only[Act.put,jq5,jq6,jq7,i64_w,i32_w]
         rfl
        refine take_ (i:=7) (N:=some 24) (v:=?_) (a':=?_) #[Z,Z,Z,Z,Z,Z,Z,Z,Y,Y] rfl rfl (take_ofW HT_.out HW_.out (by kernel_rfl)) (fun _ _ _ h=>h) (Or.inl ⟨by rfl,?_⟩) hHeld ?_ ?_;rotate_left
        ·rintro w' ⟨s0,s1,s2,s3,s4,s5,s6,s7⟩
         go_simp
         with_reducible rfl
        rotate_left
        ·simp only[Act.put,jq5,jq6,jq7,i64_w,i32_w]
         rfl
        refine one_ (i:=8) (N:=some 25) #[Z,Z,Z,Z,Z,Z,Z,Z,Z,Y] rfl rfl (one_of HT_.out (by kernel_rfl)) (by decide) (fun K hK=>?_);refine goes_ Tryz.func29 (by kernel_rfl) rfl #[.agg #[.int .i64 ((kw l0 x5_1).f0),.int .i64 ((kw l0 x5_1).f1),.string ((kw l0 x5_1).f2),.string ((kw l0 x5_1).f3)],.agg #[.int .i64 ((kw l1 x5_1).f0),.int .i64 ((kw l1 x5_1).f1),.string ((kw l1 x5_1).f2),.string ((kw l1 x5_1).f3)]] (by rfl) rfl rfl (by(try simp only[jq0,jq1,jq2]);first|done|rfl|(simp only[jq3,jq4];rfl)) ?_
        with_reducible refine(qzj.calls ((kw l0 x5_1).f0) ((kw l0 x5_1).f1) ((kw l0 x5_1).f2) ((kw l0 x5_1).f3) ((kw l1 x5_1).f0) ((kw l1 x5_1).f1) ((kw l1 x5_1).f2) ((kw l1 x5_1).f3) true _ A7.out).mono ?_
        rintro e w10 ⟨rfl,hb⟩
        refine⟨_,rfl,?_⟩;replace HB:=U.mk (qx (by solve_by_elim only[HB.out,L,O,J]) hb)
        (try clear hb)
        (try clear hb2)
        (try clear hk)
        (try clear hi)
        refine hK.out _ _ ⟨((HB.out.cell (World.block_lt_of_cell? w _ hw101_0)).trans hw101_0),((HB.out.cell (World.block_lt_of_cell? w _ hw101_1)).trans hw101_1),((HB.out.cell (World.block_lt_of_cell? w _ hw101_2)).trans hw101_2),((HB.out.cell (World.block_lt_of_cell? w _ hw101_3)).trans hw101_3),((HB.out.cell (World.block_lt_of_cell? w _ hw102_0)).trans hw102_0),((HB.out.cell (World.block_lt_of_cell? w _ hw102_1)).trans hw102_1),((HB.out.cell (World.block_lt_of_cell? w _ hw102_2)).trans hw102_2),((HB.out.cell (World.block_lt_of_cell? w _ hw102_3)).trans hw102_3)⟩ (fun hHeld=>?_);clear hK K;refine norm_ (a':=?_) ?_ ?_;rotate_left
        ·show Act.put _ (some 25) _=_
         simp only[Act.put,jq5,jq6,jq7,i64_w,i32_w]
         rfl
        refine pure_ (i:=9) (N:=some 26) (v:=?_) (a':=?_) #[Z,Z,Z,Z,Z,Z,Z,Z,Z,Z] rfl rfl (any_of HT_.out (by kernel_rfl)) (fun _ _ _ h=>h) (Or.inl ⟨by rfl,?_⟩) ?_ ?_;rotate_left
        ·intro w'
         go_simp
         with_reducible rfl
        rotate_left
        ·simp only[Act.put,jq5,jq6,jq7,i64_w,i32_w]
         rfl
        refine done_ (done_of HT_.out (by kernel_rfl)) ?_;try go_wp2
        go_roundg k1
        case measure=>have:=HK1.out;omega
        case rel=>exact⟨(wrap64 (x5_1 + 1)),(by first|rfl|(simp;done)|(simp[*];done)),H',⟨by have:=HK1.out;omega⟩,⟨by solve_by_elim only[HB.out,L,O,J]⟩⟩
       ·replace c8:=jq9.mpr c8;subst c8;have H1:(some false)=some r:=by rw[if_neg (show ¬ (false=true) by decide)] at H;exact H
        clear H;have H:=H1;clear H1;obtain rfl:=Option.some.inj H;try go_wp2
        replace HB:=U.mk (J HB.out);have p101 : 0≤(x5_1:Int):=of_decide_eq_true (by assumption);have q101:x5_1 < (l0.length:Int):=of_decide_eq_true (by assumption);obtain⟨ad101,e101,hx101_0,hx101_1,hx101_2,hx101_3⟩:=at_T30 HR0.out x5_1 p101 q101;have hw101_3:=hx101_3;have hw101_2:=hx101_2;have hw101_1:=hx101_1;have hw101_0:=hx101_0
        cases e101
        replace hx101_0:=(HB.out.cell (World.block_lt_of_cell? w _ hx101_0)).trans hx101_0;replace hx101_1:=(HB.out.cell (World.block_lt_of_cell? w _ hx101_1)).trans hx101_1;replace hx101_2:=(HB.out.cell (World.block_lt_of_cell? w _ hx101_2)).trans hx101_2;replace hx101_3:=(HB.out.cell (World.block_lt_of_cell? w _ hx101_3)).trans hx101_3;replace p101:=eq_true p101;replace q101:=eq_true q101;have p102 : 0≤(x5_1:Int):=of_decide_eq_true (by assumption);have q102:x5_1 < (l1.length:Int):=of_decide_eq_true (by assumption);obtain⟨ad102,e102,hx102_0,hx102_1,hx102_2,hx102_3⟩:=at_T30 HR1.out x5_1 p102 q102;have hw102_3:=hx102_3;have hw102_2:=hx102_2;have hw102_1:=hx102_1;have hw102_0:=hx102_0
        cases e102
        replace hx102_0:=(HB.out.cell (World.block_lt_of_cell? w _ hx102_0)).trans hx102_0;replace hx102_1:=(HB.out.cell (World.block_lt_of_cell? w _ hx102_1)).trans hx102_1;replace hx102_2:=(HB.out.cell (World.block_lt_of_cell? w _ hx102_2)).trans hx102_2;replace hx102_3:=(HB.out.cell (World.block_lt_of_cell? w _ hx102_3)).trans hx102_3;replace p102:=eq_true p102;replace q102:=eq_true q102;refine start_ (n:=10) (S:=fun w'=>w'.cell? (ad101.add ((x5_1).toNat * 4))=some (.int .i64 ((kw l0 x5_1).f0))∧w'.cell? ⟨(ad101.add ((x5_1).toNat * 4)).block,(ad101.add ((x5_1).toNat * 4)).off + 1,none⟩ = some (.int .i64 ((kw l0 x5_1).f1))∧w'.cell? ⟨(ad101.add ((x5_1).toNat * 4)).block,(ad101.add ((x5_1).toNat * 4)).off + 2,none⟩ = some (.string ((kw l0 x5_1).f2))∧w'.cell? ⟨(ad101.add ((x5_1).toNat * 4)).block,(ad101.add ((x5_1).toNat * 4)).off + 3,none⟩ = some (.string ((kw l0 x5_1).f3))∧w'.cell? (ad102.add ((x5_1).toNat * 4))=some (.int .i64 ((kw l1 x5_1).f0))∧w'.cell? ⟨(ad102.add ((x5_1).toNat * 4)).block,(ad102.add ((x5_1).toNat * 4)).off + 1,none⟩ = some (.int .i64 ((kw l1 x5_1).f1))∧w'.cell? ⟨(ad102.add ((x5_1).toNat * 4)).block,(ad102.add ((x5_1).toNat * 4)).off + 2,none⟩ = some (.string ((kw l1 x5_1).f2))∧w'.cell? ⟨(ad102.add ((x5_1).toNat * 4)).block,(ad102.add ((x5_1).toNat * 4)).off + 3,none⟩ = some (.string ((kw l1 x5_1).f3))) (ds:=[]) #[Y,Y,Y,Y,Y,Y,Y,Y,Y,Y] (by kernel_rfl) rfl rfl ⟨((HB.out.cell (World.block_lt_of_cell? w _ hw101_0)).trans hw101_0),((HB.out.cell (World.block_lt_of_cell? w _ hw101_1)).trans hw101_1),((HB.out.cell (World.block_lt_of_cell? w _ hw101_2)).trans hw101_2),((HB.out.cell (World.block_lt_of_cell? w _ hw101_3)).trans hw101_3),((HB.out.cell (World.block_lt_of_cell? w _ hw102_0)).trans hw102_0),((HB.out.cell (World.block_lt_of_cell? w _ hw102_1)).trans hw102_1),((HB.out.cell (World.block_lt_of_cell? w _ hw102_2)).trans hw102_2),((HB.out.cell (World.block_lt_of_cell? w _ hw102_3)).trans hw102_3)⟩ (fun hHeld=>?_);refine with_tabW qzk.tab6 qzk.bits6 (fun HT_ HW_=>?_)
        generalize wr.drew=w11 at HB hx101_0 hx101_1 hx101_2 hx101_3 hx102_0 hx102_1 hx102_2 hx102_3 hHeld ⊢;refine pure_ (i:=0) (N:=some 17) (v:=?_) (a':=?_) #[Z,Y,Y,Y,Y,Y,Y,Y,Y,Y] rfl rfl (any_of HT_.out (by kernel_rfl)) (fun _ _ _ h=>h) (Or.inl ⟨by rfl,?_⟩) ?_ ?_;rotate_left
        ·intro w'
         go_simp
         with_reducible rfl
        rotate_left
        ·simp only[Act.put,jq5,jq6,jq7,i64_w,i32_w]
         rfl
        refine pure_ (i:=1) (N:=some 18) (v:=?_) (a':=?_) #[Z,Z,Y,Y,Y,Y,Y,Y,Y,Y] rfl rfl (any_of HT_.out (by kernel_rfl)) (fun _ _ _ h=>h) (Or.inl ⟨by rfl,?_⟩) ?_ ?_;rotate_left
        ·intro w'
         go_simp
         with_reducible rfl
        rotate_left
        ·simp only[Act.put,jq5,jq6,jq7,i64_w,i32_w]
         rfl
        refine pure_ (i:=2) (N:=some 19) (v:=?_) (a':=?_) #[Z,Z,Z,Y,Y,Y,Y,Y,Y,Y] rfl rfl (any_of HT_.out (by kernel_rfl)) (fun _ _ _ h=>h) (Or.inl ⟨by rfl,?_⟩) ?_ ?_;rotate_left
        ·intro w'
         go_simp
         with_reducible rfl
        rotate_left
        ·simp only[Act.put,jq5,jq6,jq7,i64_w,i32_w]
         rfl
        refine pure_ (i:=4) (N:=some 21) (v:=?_) (a':=?_) #[Z,Z,Z,Y,Z,Y,Y,Y,Y,Y] rfl rfl (any_of HT_.out (by kernel_rfl)) (fun _ _ _ h=>h) (Or.inl ⟨by rfl,?_⟩) ?_ ?_;rotate_left
        ·intro w'
         go_simp
         with_reducible rfl
        rotate_left
        ·simp only[Act.put,jq5,jq6,jq7,i64_w,i32_w]
         rfl
        refine pure_ (i:=5) (N:=some 22) (v:=?_) (a':=?_) #[Z,Z,Z,Y,Z,Z,Y,Y,Y,Y] rfl rfl (any_of HT_.out (by kernel_rfl)) (fun _ _ _ h=>h) (Or.inl ⟨by rfl,?_⟩) ?_ ?_;rotate_left
        ·intro w'
         go_simp
         with_reducible rfl
        rotate_left
        ·simp only[Act.put,jq5,jq6,jq7,i64_w,i32_w]
         rfl
        refine pure_ (i:=6) (N:=some 23) (v:=?_) (a':=?_) #[Z,Z,Z,Y,Z,Z,Z,Y,Y,Y] rfl rfl (any_of HT_.out (by kernel_rfl)) (fun _ _ _ h=>h) (Or.inl ⟨by rfl,?_⟩) ?_ ?_;rotate_left
        ·intro w'
         go_simp
         with_reducible rfl
        rotate_left
        ·simp only[Act.put,jq5,jq6,jq7,i64_w,i32_w]
         rfl
        refine take_ (i:=3) (N:=some 20) (v:=?_) (a':=?_) #[Z,Z,Z,Z,Z,Z,Z,Y,Y,Y] rfl rfl (take_ofW HT_.out HW_.out (by kernel_rfl)) (fun _ _ _ h=>h) (Or.inl ⟨by rfl,?_⟩) hHeld ?_ ?_;rotate_left
        ·rintro w' ⟨s0,s1,s2,s3,s4,s5,s6,s7⟩
         go_simp
         with_reducible rfl
        rotate_left
        ·simp only[Act.put,jq5,jq6,jq7,i64_w,i32_w]
         rfl
        refine take_ (i:=7) (N:=some 24) (v:=?_) (a':=?_) #[Z,Z,Z,Z,Z,Z,Z,Z,Y,Y] rfl rfl (take_ofW HT_.out HW_.out (by kernel_rfl)) (fun _ _ _ h=>h) (Or.inl ⟨by rfl,?_⟩) hHeld ?_ ?_;rotate_left
        ·rintro w' ⟨s0,s1,s2,s3,s4,s5,s6,s7⟩
         go_simp
         with_reducible rfl
        rotate_left
        ·simp only[Act.put,jq5,jq6,jq7,i64_w,i32_w]
         rfl
        refine one_ (i:=8) (N:=some 25) #[Z,Z,Z,Z,Z,Z,Z,Z,Z,Y] rfl rfl (one_of HT_.out (by kernel_rfl)) (by decide) (fun K hK=>?_);refine goes_ Tryz.func29 (by kernel_rfl) rfl #[.agg #[.int .i64 ((kw l0 x5_1).f0),.int .i64 ((kw l0 x5_1).f1),.string ((kw l0 x5_1).f2),.string ((kw l0 x5_1).f3)],.agg #[.int .i64 ((kw l1 x5_1).f0),.int .i64 ((kw l1 x5_1).f1),.string ((kw l1 x5_1).f2),.string ((kw l1 x5_1).f3)]] (by rfl) rfl rfl (by(try simp only[jq0,jq1,jq2]);first|done|rfl|(simp only[jq3,jq4];rfl)) ?_
        with_reducible refine(qzj.calls ((kw l0 x5_1).f0) ((kw l0 x5_1).f1) ((kw l0 x5_1).f2) ((kw l0 x5_1).f3) ((kw l1 x5_1).f0) ((kw l1 x5_1).f1) ((kw l1 x5_1).f2) ((kw l1 x5_1).f3) false _ A7.out).mono ?_
        rintro e w12 ⟨rfl,hb⟩
        refine⟨_,rfl,?_⟩;replace HB:=U.mk (qx (by solve_by_elim only[HB.out,L,O,J]) hb)
        (try clear hb)
        (try clear hb2)
        (try clear hk)
        (try clear hi)
        refine hK.out _ _ ⟨((HB.out.cell (World.block_lt_of_cell? w _ hw101_0)).trans hw101_0),((HB.out.cell (World.block_lt_of_cell? w _ hw101_1)).trans hw101_1),((HB.out.cell (World.block_lt_of_cell? w _ hw101_2)).trans hw101_2),((HB.out.cell (World.block_lt_of_cell? w _ hw101_3)).trans hw101_3),((HB.out.cell (World.block_lt_of_cell? w _ hw102_0)).trans hw102_0),((HB.out.cell (World.block_lt_of_cell? w _ hw102_1)).trans hw102_1),((HB.out.cell (World.block_lt_of_cell? w _ hw102_2)).trans hw102_2),((HB.out.cell (World.block_lt_of_cell? w _ hw102_3)).trans hw102_3)⟩ (fun hHeld=>?_);clear hK K;refine norm_ (a':=?_) ?_ ?_;rotate_left
        ·show Act.put _ (some 25) _=_
         simp only[Act.put,jq5,jq6,jq7,i64_w,i32_w]
         rfl
        refine pure_ (i:=9) (N:=some 26) (v:=?_) (a':=?_) #[Z,Z,Z,Z,Z,Z,Z,Z,Z,Z] rfl rfl (any_of HT_.out (by kernel_rfl)) (fun _ _ _ h=>h) (Or.inl ⟨by rfl,?_⟩) ?_ ?_;rotate_left
        ·intro w'
         go_simp
         with_reducible rfl
        rotate_left
        ·simp only[Act.put,jq5,jq6,jq7,i64_w,i32_w]
         rfl
        refine done_ (done_of HT_.out (by kernel_rfl)) ?_;try go_wp2
        go_ret
        exact⟨by first|rfl|(simp[*,zw,zv] <;> rfl),by solve_by_elim only[HB.out,L,O,J]⟩
      ·rw[if_neg c6] at H;exact absurd H (by simp)
     ·rw[if_neg c5] at H;exact absurd H (by simp)
    ·rw[if_neg c4] at H;have c4b0:decide (x5_1 < (l0.length:Int))=false:=decide_eq_false c4;clear c4;obtain rfl:=Option.some.inj H;go_wp2;go_ret
     exact⟨by first|rfl|(simp[*,zw,zv] <;> rfl),by solve_by_elim only[HB.out,L,O,J]⟩
 ·rw[if_neg c3] at H;have c3b0:((l0.length:Int) == (l1.length:Int))=false:=beq_eq_false_iff_ne.mpr c3;have c3b1:((l0.length:Int) != (l1.length:Int))=true:=bne_iff_ne.mpr c3;have c3b2:(l0.length == l1.length)=false:=by first|simpa using c3|(simp at c3 ⊢;omega)
  obtain rfl:=Option.some.inj H;go_enter Tryz.func30,Tryz.ntmps30;go_wp2;go_ret
  exact⟨by first|rfl|(simp[*,zw,zv] <;> rfl),by solve_by_elim only[HB.out,L,O,J]⟩
def qjz.l0:Nat→List ByteArray→Int→Int→Option (Int)
 | 0,_,_,_=>none
 | k + 1,x0,x1,x5=>if x5 < (x0.length:Int) then(if 0≤x5 then(if (wrap64 (x1 - ((rdOf ByteArray.empty x0 x5).size:Int))) < 0 then(some (-1)) else(qjz.l0 k x0 (wrap64 (x1 - ((rdOf ByteArray.empty x0 x5).size:Int))) (wrap64 (x5 + 1)))) else(none)) else(some x1)
def qjz.f (k:Nat) (l0:List ByteArray) (a1:Int):Option (Int):=if (wrap64 (a1 - (l0.length:Int))) < 0 then(some (-1)) else(qjz.l0 k l0 (wrap64 (a1 - (l0.length:Int))) 0)
theorem qjz.calls (k:Nat) (A0:Option Addr) (c0:Nat) (l0:List ByteArray) (a1:Int) (r:Int) (w:World) (hr0:Kd.C Kd.string w A0 l0.length l0) (hc0:l0.length≤c0) (h:qjz.f k l0 a1=some r) :
  Calls Tryz.prog 11 #[.slice A0 l0.length c0,.int .i64 a1] w fun e w'=>e=.returned (.int .i64 r)∧Drawn0 w w':=by
 have HR0:=U.mk hr0;have HC0:=U.mk hc0;clear hr0 hc0;unfold qjz.f at h;have H:=h;clear h
 by_cases c3:(wrap64 (a1 - (l0.length:Int))) < 0
 ·rw[if_pos c3] at H;have c3b0:decide ((wrap64 (a1 - (l0.length:Int))) < 0)=true:=decide_eq_true c3;clear c3;obtain rfl:=Option.some.inj H;go_enter Tryz.func11,Tryz.ntmps11;go_wp2;go_ret
  exact⟨by first|rfl|(simp;done)|(simp[*];done),by repeat(first|exact Drawn0.refl _|apply Drawn0.step)⟩
 ·rw[if_neg c3] at H;have c3b0:decide ((wrap64 (a1 - (l0.length:Int))) < 0)=false:=decide_eq_false c3;clear c3;have H':=U.mk H;clear H;go_enter Tryz.func11,Tryz.ntmps11;go_wp2
  go_loopg [1,5] k (fun kq v1 v5 w'=>∃ (x1_1:Int) (x5_1:Int),v1=.int .i64 x1_1∧v5=.int .i64 x5_1∧U (qjz.l0 kq l0 x1_1 x5_1=some r)∧U (kq≤k)∧Drawn0 w w')
  case atStart=>exact⟨(wrap64 (a1 - (l0.length:Int))),(0),(by first|rfl|(simp;done)|(simp[*];done)),(by first|rfl|(simp;done)|(simp[*];done)),H',⟨Nat.le_refl _⟩,by repeat(first|exact Drawn0.refl _|apply Drawn0.step)⟩
  case round =>
   clear H';try clear c1
   try clear p2
   try clear c3
   try clear c3b0
   obtain⟨x1_1,x5_1,rfl,rfl,HA,HK1,⟨m1,rfl⟩⟩:=hrel
   cases gk with
   | zero=>exact absurd HA.out (by simp[qjz.l0])
   | succ k1 =>
    have H:=HA.out;clear HA;simp only[qjz.l0] at H
    by_cases c4:x5_1 < (l0.length:Int)
    ·rw[if_pos c4] at H;have c4b0:decide (x5_1 < (l0.length:Int))=true:=decide_eq_true c4;clear c4
     by_cases c5 : 0≤x5_1
     ·rw[if_pos c5] at H;have c5b0:decide (0≤x5_1)=true:=decide_eq_true c5;clear c5
      by_cases c6:(wrap64 (x1_1 - ((rdOf ByteArray.empty l0 x5_1).size:Int))) < 0
      ·rw[if_pos c6] at H;have c6b0:decide ((wrap64 (x1_1 - ((rdOf ByteArray.empty l0 x5_1).size:Int))) < 0)=true:=decide_eq_true c6;clear c6;obtain rfl:=Option.some.inj H;have p101 : 0≤(x5_1:Int):=of_decide_eq_true (by assumption);have q101:x5_1 < (l0.length:Int):=of_decide_eq_true (by assumption);obtain⟨ad101,e101,hx101_0⟩:=Kd.at_string HR0.out x5_1 p101 q101
       cases e101
       replace p101:=eq_true p101;replace q101:=eq_true q101;go_wp2;go_ret
       exact⟨by first|rfl|(simp;done)|(simp[*];done),by repeat(first|exact Drawn0.refl _|apply Drawn0.step)⟩
      ·rw[if_neg c6] at H;have c6b0:decide ((wrap64 (x1_1 - ((rdOf ByteArray.empty l0 x5_1).size:Int))) < 0)=false:=decide_eq_false c6;clear c6;have H':=U.mk H;clear H;have p101 : 0≤(x5_1:Int):=of_decide_eq_true (by assumption);have q101:x5_1 < (l0.length:Int):=of_decide_eq_true (by assumption);obtain⟨ad101,e101,hx101_0⟩:=Kd.at_string HR0.out x5_1 p101 q101
       cases e101
       replace p101:=eq_true p101;replace q101:=eq_true q101;go_wp2;go_roundg k1
       case measure=>have:=HK1.out;omega
       case rel=>exact⟨(wrap64 (x1_1 - ((rdOf ByteArray.empty l0 x5_1).size:Int))),(wrap64 (x5_1 + 1)),(by first|rfl|(simp;done)|(simp[*];done)),(by first|rfl|(simp;done)|(simp[*];done)),H',⟨by have:=HK1.out;omega⟩,by repeat(first|exact Drawn0.refl _|apply Drawn0.step)⟩
     ·rw[if_neg c5] at H;exact absurd H (by simp)
    ·rw[if_neg c4] at H;have c4b0:decide (x5_1 < (l0.length:Int))=false:=decide_eq_false c4;clear c4;obtain rfl:=Option.some.inj H;go_wp2;go_ret
     exact⟨by first|rfl|(simp;done)|(simp[*];done),by repeat(first|exact Drawn0.refl _|apply Drawn0.step)⟩
def qjw.l0:Nat→List ByteArray→List ByteArray→Int→Option (List ByteArray)
 | 0,_,_,_=>none
 | k + 1,x0,x3,x4=>if x4 < (x0.length:Int) then(if 0≤x4 then(if x4 < (x3.length:Int) then(qjw.l0 k x0 (x3.set (x4:Int).toNat (rdOf ByteArray.empty x0 x4)) (wrap64 (x4 + 1))) else(none)) else(none)) else(some x3)
def qjw.f (k:Nat) (l0:List ByteArray):Option (List ByteArray):=if 0≤(l0.length:Int) then(if ((l0.length:Int):Int).toNat≤17592186044416 then(qjw.l0 k l0 (List.replicate ((l0.length:Int):Int).toNat (⟨#[]⟩ : ByteArray)) 0) else(none)) else(none)
theorem qjw.calls (k:Nat) (A0:Option Addr) (c0:Nat) (l0:List ByteArray) (r:List ByteArray) (w:World) (hr0:Kd.C Kd.string w A0 l0.length l0) (hc0:l0.length≤c0) (h:qjw.f k l0=some r) :
  Calls Tryz.prog 21 #[.slice A0 l0.length c0] w fun e w'=>∃ v0_:Value,e=.returned (v0_)∧Kd.R Kd.string 9 w' w.heap.size (fun _=>True) v0_ r∧Below w.heap.size w w':=by
 have HR0:=U.mk hr0;have HC0:=U.mk hc0;clear hr0 hc0;have HB:=U.mk (Below.refl w.heap.size w);unfold qjw.f at h;have H:=h;clear h
 by_cases c2 : 0≤(l0.length:Int)
 ·rw[if_pos c2] at H;have c2b0:=eq_true c2;have c2b1:decide (0≤(l0.length:Int))=true:=decide_eq_true c2;clear c2
  by_cases c3:((l0.length:Int):Int).toNat≤17592186044416
  ·rw[if_pos c3] at H;have c3b0:=eq_true c3;have c3b1:decide (((l0.length:Int):Int).toNat≤17592186044416)=true:=decide_eq_true c3;clear c3;obtain⟨y101,hy101⟩ : ∃ y_:List ByteArray,y_=(List.replicate ((l0.length:Int):Int).toNat (⟨#[]⟩ : ByteArray)):=⟨_,rfl⟩;replace H:(qjw.l0 k l0 y101 0)=some r:=by first|(rw[hy101];with_reducible exact H)|(have H2_:=(Option.bind_some _ _).symm.trans H;rw[hy101];with_reducible exact H2_)|(have H2_:=(Option.bind_some _ _).symm.trans H;with_reducible exact H2_)|with_reducible exact H|(rw[hy101];exact H)|exact H
   have Ny101:=U.mk hy101;clear hy101;have H':=U.mk H;clear H;go_enter Tryz.func21,Tryz.ntmps21;go_wp2_with (first|((with_reducible refine gate_dst (N:=7) rfl ?_);refine Kd.R_make Kd.string _ 9 rfl (N:=7) rfl 25 _ _ rfl (l0.length:Int) rfl rfl Tryz.underlying25 (.string ⟨#[]⟩) 16 info9 rfl (by decide) (by omega) (⟨#[]⟩ : ByteArray) (ok:=fun _=>True) (okp:=fun _=>True) rfl (fun _ hk=>hk) trivial (of_decide_eq_true (by assumption)) (Nat.le_trans (Nat.mul_le_mul_right _ (of_decide_eq_true (by assumption):(l0.length:Int).toNat≤17592186044416)) (by omega)) (Below.refl _ _) (Nat.le_refl _) ?_;intro v102 w4 ho5 hb hg_ hnew_;clear hg_ hnew_;(first|rw[← Ny101.out] at ho5|(simp only[Int.reduceToNat] at ho5;rw[← Ny101.out] at ho5));have HO103:=U.mk (Kd.R_lower ho5 (zq (by solve_by_elim only[HB.out,L,O,J])));replace HB:=U.mk (qx (by solve_by_elim only[HB.out,L,O,J]) hb);clear hb ho5))
   go_loopg [4] k (fun kq v4 w'=>∃ (x3_1:List ByteArray) (x4_1:Int),v4=.int .i64 x4_1∧U (qjw.l0 kq l0 x3_1 x4_1=some r)∧U (kq≤k)∧U (Kd.R Kd.string 9 w' w.heap.size (fun _=>True) v102 x3_1)∧U (Below w.heap.size w w'))
   case atStart=>exact⟨(y101),(0),(by first|rfl|(simp;done)|(simp[*];done)),H',⟨Nat.le_refl _⟩,⟨by(with_reducible repeat(first|apply Kd.zj|apply Kd.zz|apply Kd.zk));exact HO103.out⟩,⟨by solve_by_elim only[HB.out,L,O,J]⟩⟩
   case round =>
    clear H';try clear c2
    try clear c2b0
    try clear c2b1
    try clear p2
    try clear c3
    try clear c3b0
    try clear c3b1
    obtain⟨x3_1,x4_1,rfl,HA,HK1,HO_3,HB⟩:=hrel
    cases gk with
    | zero=>exact absurd HA.out (by simp[qjw.l0])
    | succ k1 =>
     have H:=HA.out;clear HA;simp only[qjw.l0] at H
     by_cases c6:x4_1 < (l0.length:Int)
     ·rw[if_pos c6] at H;have c6b0:decide (x4_1 < (l0.length:Int))=true:=decide_eq_true c6;clear c6
      by_cases c7 : 0≤x4_1
      ·rw[if_pos c7] at H;have c7b0:decide (0≤x4_1)=true:=decide_eq_true c7;clear c7
       by_cases c8:x4_1 < (x3_1.length:Int)
       ·rw[if_pos c8] at H;have c8b0:decide (x4_1 < (x3_1.length:Int))=true:=decide_eq_true c8;clear c8;obtain⟨y105,hy105⟩ : ∃ y_:List ByteArray,y_=(x3_1.set (x4_1:Int).toNat (rdOf ByteArray.empty l0 x4_1)):=⟨_,rfl⟩;replace H:(qjw.l0 k1 l0 y105 (wrap64 (x4_1 + 1)))=some r:=by first|(rw[hy105];with_reducible exact H)|(have H2_:=(Option.bind_some _ _).symm.trans H;rw[hy105];with_reducible exact H2_)|(have H2_:=(Option.bind_some _ _).symm.trans H;with_reducible exact H2_)|with_reducible exact H|(rw[hy105];exact H)|exact H
        have Ny105:=U.mk hy105;clear hy105;have H':=U.mk H;clear H;have p104 : 0≤(x4_1:Int):=of_decide_eq_true (by assumption);have q104:x4_1 < (l0.length:Int):=of_decide_eq_true (by assumption);obtain⟨ad104,e104,hx104_0⟩:=Kd.at_string HR0.out x4_1 p104 q104
        cases e104
        replace hx104_0:=(HB.out.cell (World.block_lt_of_cell? w _ hx104_0)).trans hx104_0;replace p104:=eq_true p104;replace q104:=eq_true q104;have p9 : 0≤(x4_1:Int):=of_decide_eq_true (by assumption);have q9:(x4_1:Int) < ((x3_1.length:Int):Int):=of_decide_eq_true (by assumption);obtain⟨go9,co9,eo9,gb9,gl9,cl9,HG9⟩:=Kd.R_form HO_3.out (by omega)
        (first|cases eo9|(injection eo9 with ea_ en_ ec_;(first|subst ea_|(injection ea_ with ea_;subst ea_));subst ec_;clear en_))
        have GB9:=U.mk gb9;have GG9:=U.mk HG9;clear gb9 gl9 HG9;obtain⟨hx9_0,hf9_0⟩:=Kd.R_celln (⟨#[]⟩ : ByteArray) HO_3.out (x4_1:Int) p9 q9;replace p9:=eq_true p9;replace q9:=eq_true q9;have HP10:=Kd.R_putg HO_3.out (x4_1:Int) (rdOf ByteArray.empty l0 x4_1);go_wp2_with (first|((with_reducible refine jq (t:=9) (p:=20) rfl ?_);refine jz (t:=9) (p:=20) (v:=?vo_w11) (w1:=(wr.setCell ⟨go9,(x4_1:Int).toNat,none⟩ (.string (rdOf ByteArray.empty l0 x4_1)))) ?hg ?ho ?hn ?hr ?_;(case ho=>rfl);(case hg=>rfl);(case hn=>rfl);(case hr=>first|(go_simp;done)|(go_simp;rfl));intro w11 hw;have hg:wr.grownBy w11 (some go9):=(by rw[hw];exact HP10.2);have hp_:Kd.R Kd.string 9 w11 w.heap.size (fun _=>True) (.slice (some ⟨go9,0,none⟩) x3_1.length co9) y105:=(by rw[hw,Ny105.out];exact HP10.1);clear HP10;replace HO_3:=U.mk (hp_);replace HB:=U.mk ((by rw[hw];exact qz (HB.out) GB9.out:Below w.heap.size w w11));clear hg hw hp_))
        go_roundg k1
        case measure=>have:=HK1.out;omega
        case rel=>exact⟨(y105),(wrap64 (x4_1 + 1)),(by first|rfl|(simp;done)|(simp[*];done)),H',⟨by have:=HK1.out;omega⟩,⟨by(with_reducible repeat(first|apply Kd.zj|apply Kd.zz|apply Kd.zk));exact HO_3.out⟩,⟨by solve_by_elim only[HB.out,L,O,J]⟩⟩
       ·rw[if_neg c8] at H;exact absurd H (by simp)
      ·rw[if_neg c7] at H;exact absurd H (by simp)
     ·rw[if_neg c6] at H;have c6b0:decide (x4_1 < (l0.length:Int))=false:=decide_eq_false c6;clear c6;obtain rfl:=Option.some.inj H;go_wp2;go_ret
      exact⟨_,by first|rfl|(simp[*,zw,zv] <;> rfl),by(with_reducible repeat(first|apply Kd.zj|apply Kd.zz|apply Kd.zk));exact HO_3.out,by solve_by_elim only[HB.out,L,O,J]⟩
  ·rw[if_neg c3] at H;exact absurd H (by simp)
 ·rw[if_neg c2] at H;exact absurd H (by simp)
def qzv.l0:Nat→List ByteArray→List ByteArray→Int→Option (Bool)
 | 0,_,_,_=>none
 | k + 1,x0,x1,x5=>if x5 < (x0.length:Int) then(if 0≤x5 then(if x5 < (x1.length:Int) then(if (rdOf ByteArray.empty x0 x5).toList=(rdOf ByteArray.empty x1 x5).toList then(qzv.l0 k x0 x1 (wrap64 (x5 + 1))) else(some false)) else(none)) else(none)) else(some true)
def qzv.f (k:Nat) (l0:List ByteArray) (l1:List ByteArray):Option (Bool):=if (l0.length:Int)=(l1.length:Int) then(qzv.l0 k l0 l1 0) else(some false)
theorem qzv.calls (k:Nat) (A0:Option Addr) (c0:Nat) (l0:List ByteArray) (A1:Option Addr) (c1:Nat) (l1:List ByteArray) (r:Bool) (w:World) (hr0:Kd.C Kd.string w A0 l0.length l0) (hc0:l0.length≤c0) (hr1:Kd.C Kd.string w A1 l1.length l1) (hc1:l1.length≤c1) (h:qzv.f k l0 l1=some r) :
  Calls Tryz.prog 31 #[.slice A0 l0.length c0,.slice A1 l1.length c1] w fun e w'=>e=.returned (.bool r)∧Drawn0 w w':=by
 have HR0:=U.mk hr0;have HC0:=U.mk hc0;clear hr0 hc0;have HR1:=U.mk hr1;have HC1:=U.mk hc1;clear hr1 hc1;unfold qzv.f at h;have H:=h;clear h
 by_cases c3:(l0.length:Int)=(l1.length:Int)
 ·rw[if_pos c3] at H;have c3b0:((l0.length:Int) == (l1.length:Int))=true:=beq_iff_eq.mpr c3;have c3b1:((l0.length:Int) != (l1.length:Int))=false:=bne_eq_false_iff_eq.mpr c3;have c3b2:(l0.length == l1.length)=true:=by first|simpa using c3|(simp at c3 ⊢;omega)
  clear c3;have H':=U.mk H;clear H;go_enter Tryz.func31,Tryz.ntmps31;go_wp2
  repeat(go_quiet (fail);try go_wp2)
  go_loopg [5] k (fun kq v5 w'=>∃ (x5_1:Int),v5=.int .i64 x5_1∧U (qzv.l0 kq l0 l1 x5_1=some r)∧U (kq≤k)∧Drawn0 w w')
  case atStart=>exact⟨(0),(by first|rfl|(simp;done)|(simp[*];done)),H',⟨Nat.le_refl _⟩,by repeat(first|exact Drawn0.refl _|apply Drawn0.step)⟩
  case round =>
   clear H';try clear c1
   try clear p2
   try clear c3
   try clear c3b0
   try clear c3b1
   try clear c3b2
   obtain⟨x5_1,rfl,HA,HK1,⟨m1,rfl⟩⟩:=hrel
   cases gk with
   | zero=>exact absurd HA.out (by simp[qzv.l0])
   | succ k1 =>
    have H:=HA.out;clear HA;simp only[qzv.l0] at H
    by_cases c4:x5_1 < (l0.length:Int)
    ·rw[if_pos c4] at H;have c4b0:decide (x5_1 < (l0.length:Int))=true:=decide_eq_true c4;clear c4
     by_cases c5 : 0≤x5_1
     ·rw[if_pos c5] at H;have c5b0:decide (0≤x5_1)=true:=decide_eq_true c5;clear c5
      by_cases c6:x5_1 < (l1.length:Int)
      ·rw[if_pos c6] at H;have c6b0:decide (x5_1 < (l1.length:Int))=true:=decide_eq_true c6;clear c6
       by_cases c7:(rdOf ByteArray.empty l0 x5_1).toList=(rdOf ByteArray.empty l1 x5_1).toList
       ·rw[if_pos c7] at H;have c7b0:((rdOf ByteArray.empty l0 x5_1).toList == (rdOf ByteArray.empty l1 x5_1).toList)=true:=beq_iff_eq.mpr c7;have c7b1:((rdOf ByteArray.empty l0 x5_1).toList != (rdOf ByteArray.empty l1 x5_1).toList)=false:=bne_eq_false_iff_eq.mpr c7;clear c7;have H':=U.mk H;clear H;have p101 : 0≤(x5_1:Int):=of_decide_eq_true (by assumption);have q101:x5_1 < (l0.length:Int):=of_decide_eq_true (by assumption);obtain⟨ad101,e101,hx101_0⟩:=Kd.at_string HR0.out x5_1 p101 q101
        cases e101
        replace p101:=eq_true p101;replace q101:=eq_true q101;have p102 : 0≤(x5_1:Int):=of_decide_eq_true (by assumption);have q102:x5_1 < (l1.length:Int):=of_decide_eq_true (by assumption);obtain⟨ad102,e102,hx102_0⟩:=Kd.at_string HR1.out x5_1 p102 q102
        cases e102
        replace p102:=eq_true p102;replace q102:=eq_true q102;go_wp2
        repeat(go_quiet (fail);try go_wp2)
        go_roundg k1
        case measure=>have:=HK1.out;omega
        case rel=>exact⟨(wrap64 (x5_1 + 1)),(by first|rfl|(simp;done)|(simp[*];done)),H',⟨by have:=HK1.out;omega⟩,by repeat(first|exact Drawn0.refl _|apply Drawn0.step)⟩
       ·rw[if_neg c7] at H;have c7b0:((rdOf ByteArray.empty l0 x5_1).toList == (rdOf ByteArray.empty l1 x5_1).toList)=false:=beq_eq_false_iff_ne.mpr c7;have c7b1:((rdOf ByteArray.empty l0 x5_1).toList != (rdOf ByteArray.empty l1 x5_1).toList)=true:=bne_iff_ne.mpr c7;obtain rfl:=Option.some.inj H;have p101 : 0≤(x5_1:Int):=of_decide_eq_true (by assumption);have q101:x5_1 < (l0.length:Int):=of_decide_eq_true (by assumption);obtain⟨ad101,e101,hx101_0⟩:=Kd.at_string HR0.out x5_1 p101 q101
        cases e101
        replace p101:=eq_true p101;replace q101:=eq_true q101;have p102 : 0≤(x5_1:Int):=of_decide_eq_true (by assumption);have q102:x5_1 < (l1.length:Int):=of_decide_eq_true (by assumption);obtain⟨ad102,e102,hx102_0⟩:=Kd.at_string HR1.out x5_1 p102 q102
        cases e102
        replace p102:=eq_true p102;replace q102:=eq_true q102;go_wp2
        repeat(go_quiet (fail);try go_wp2)
        go_ret
        exact⟨by first|rfl|(simp;done)|(simp[*];done),by repeat(first|exact Drawn0.refl _|apply Drawn0.step)⟩
      ·rw[if_neg c6] at H;exact absurd H (by simp)
     ·rw[if_neg c5] at H;exact absurd H (by simp)
    ·rw[if_neg c4] at H;have c4b0:decide (x5_1 < (l0.length:Int))=false:=decide_eq_false c4;clear c4;obtain rfl:=Option.some.inj H;go_wp2
     repeat(go_quiet (fail);try go_wp2)
     go_ret
     exact⟨by first|rfl|(simp;done)|(simp[*];done),by repeat(first|exact Drawn0.refl _|apply Drawn0.step)⟩
 ·rw[if_neg c3] at H;have c3b0:((l0.length:Int) == (l1.length:Int))=false:=beq_eq_false_iff_ne.mpr c3;have c3b1:((l0.length:Int) != (l1.length:Int))=true:=bne_iff_ne.mpr c3;have c3b2:(l0.length == l1.length)=false:=by first|simpa using c3|(simp at c3 ⊢;omega)
  obtain rfl:=Option.some.inj H;go_enter Tryz.func31,Tryz.ntmps31;go_wp2
  repeat(go_quiet (fail);try go_wp2)
  go_ret
  exact⟨by first|rfl|(simp;done)|(simp[*];done),by repeat(first|exact Drawn0.refl _|apply Drawn0.step)⟩
def qjj.f (k:Nat) (a0_0:Int) (a0_1:Int) (a0_2:Int) (a0_3:ByteArray) (a0_4:ByteArray) (l0_5:List (S23)) (l0_6:List ByteArray) (a1:Int):Option (Int):=(qzx.f a0_1 a0_2 a0_3 a0_4 a1).bind fun t102=>(if t102 < 0 then(some (-1)) else((qjq.f k l0_5 t102).bind fun t103=>(if t103 < 0 then(some (-1)) else((qjz.f k l0_6 t103).bind fun t104=>(if t104 < 0 then(some (-1)) else(some t104))))))
theorem qjj.calls (k:Nat) (a0_0:Int) (a0_1:Int) (a0_2:Int) (a0_3:ByteArray) (a0_4:ByteArray) (A0_5:Option Addr) (c0_5:Nat) (l0_5:List (S23)) (A0_6:Option Addr) (c0_6:Nat) (l0_6:List ByteArray) (a1:Int) (r:Int) (w:World) (hr0_5:Kd.C k23 w A0_5 l0_5.length l0_5) (hc0_5:l0_5.length≤c0_5) (hr0_6:Kd.C Kd.string w A0_6 l0_6.length l0_6) (hc0_6:l0_6.length≤c0_6) (h:qjj.f k a0_0 a0_1 a0_2 a0_3 a0_4 l0_5 l0_6 a1=some r) :
  Calls Tryz.prog 4 #[.agg #[.int .i64 a0_0,.int .i64 a0_1,.int .i64 a0_2,.string a0_3,.string a0_4,.slice A0_5 l0_5.length c0_5,.slice A0_6 l0_6.length c0_6],.int .i64 a1] w fun e w'=>e=.returned (.int .i64 r)∧Below w.heap.size w w':=by
 have hu27:=Tryz.underlying27;have hu23:=Tryz.underlying23;have HR0_5:=U.mk hr0_5;have HC0_5:=U.mk hc0_5;clear hr0_5 hc0_5;have HR0_6:=U.mk hr0_6;have HC0_6:=U.mk hc0_6;clear hr0_6 hc0_6;have HB:=U.mk (Below.refl w.heap.size w);unfold qjj.f at h;have H:=h;clear h;replace H:=jq8.mp H;obtain⟨t102,A30,H⟩:=H;try dsimp only at H
 have A3:=U.mk A30;clear A30
 by_cases c4:t102 < 0
 ·rw[if_pos c4] at H;have c4b0:decide (t102 < 0)=true:=decide_eq_true c4;clear c4;obtain rfl:=Option.some.inj H;go_enter Tryz.func4,Tryz.ntmps4;go_wp2_with (first|((with_reducible refine gate_dst (N:=2) rfl ?_);refine box_event ?hg (N:=2) ?hd (cs:=#[.int .i64 a0_0,.int .i64 a0_1,.int .i64 a0_2,.string a0_3,.string a0_4,.slice A0_5 l0_5.length c0_5,.slice A0_6 l0_6.length c0_6]) (t:=27) ?hr ?_;(case hd=>rfl);(case hg=>rfl);(case hr=>first|(go_simp;done)|(go_simp;rfl));intro gb101 hg w5 hbox hb;have BK101:=U.mk (hbox);have GW101:=U.mk ((by rw[hg];exact(zq (by solve_by_elim only[HB.out,L,O,J])):w.heap.size≤gb101));have GE101:=GW101;replace HB:=U.mk (qx (by solve_by_elim only[HB.out,L,O,J]) hb);clear hb hbox hg;obtain⟨y6_0,y6_1,y6_2,y6_3,y6_4,y6_5,y6_6,z6_0,z6_1,z6_2,z6_3,z6_4,z6_5,z6_6⟩:=bx7f BK101.out)|((with_reducible refine zx (f:=9) rfl ?_);refine goesL_ (some 8) rfl rfl Tryz.func9 (by kernel_rfl) rfl #[.agg #[.int .i64 a0_1,.int .i64 a0_2,.string a0_3,.string a0_4],.int .i64 a1] rfl (by(try simp only[jq0,jq1,jq2]);first|done|rfl|(simp only[jq3,jq4];rfl)) ?_;(with_reducible refine(qzx.calls a0_1 a0_2 a0_3 a0_4 a1 t102 _ A3.out).mono ?_);rintro e w7 ⟨rfl,hb⟩;refine⟨_,rfl,?_⟩;replace BK101:=U.mk (jx (by solve_by_elim only[BK101.out,qk,qv,qj]) hb);replace HB:=U.mk (qx (by solve_by_elim (maxDepth:=20) only[HB.out,L,O,J,qz,GE101.out]) hb);(try clear hb)))
  go_ret
  exact⟨by first|rfl|(simp[*,zw,zv] <;> rfl),by solve_by_elim (maxDepth:=20) only[HB.out,L,O,J,qz,GE101.out]⟩
 ·rw[if_neg c4] at H;have c4b0:decide (t102 < 0)=false:=decide_eq_false c4;clear c4;replace H:=jq8.mp H;obtain⟨t103,A80,H⟩:=H;try dsimp only at H
  have A8:=U.mk A80;clear A80
  by_cases c9:t103 < 0
  ·rw[if_pos c9] at H;have c9b0:decide (t103 < 0)=true:=decide_eq_true c9;clear c9;obtain rfl:=Option.some.inj H;go_enter Tryz.func4,Tryz.ntmps4;go_wp2_with (first|((with_reducible refine gate_dst (N:=2) rfl ?_);refine box_event ?hg (N:=2) ?hd (cs:=#[.int .i64 a0_0,.int .i64 a0_1,.int .i64 a0_2,.string a0_3,.string a0_4,.slice A0_5 l0_5.length c0_5,.slice A0_6 l0_6.length c0_6]) (t:=27) ?hr ?_;(case hd=>rfl);(case hg=>rfl);(case hr=>first|(go_simp;done)|(go_simp;rfl));intro gb101 hg w10 hbox hb;have BK101:=U.mk (hbox);have GW101:=U.mk ((by rw[hg];exact(zq (by solve_by_elim only[HB.out,L,O,J])):w.heap.size≤gb101));have GE101:=GW101;replace HB:=U.mk (qx (by solve_by_elim only[HB.out,L,O,J]) hb);clear hb hbox hg;obtain⟨y11_0,y11_1,y11_2,y11_3,y11_4,y11_5,y11_6,z11_0,z11_1,z11_2,z11_3,z11_4,z11_5,z11_6⟩:=bx7f BK101.out)|((with_reducible refine zx (f:=9) rfl ?_);refine goesL_ (some 8) rfl rfl Tryz.func9 (by kernel_rfl) rfl #[.agg #[.int .i64 a0_1,.int .i64 a0_2,.string a0_3,.string a0_4],.int .i64 a1] rfl (by(try simp only[jq0,jq1,jq2]);first|done|rfl|(simp only[jq3,jq4];rfl)) ?_;(with_reducible refine(qzx.calls a0_1 a0_2 a0_3 a0_4 a1 t102 _ A3.out).mono ?_);rintro e w12 ⟨rfl,hb⟩;refine⟨_,rfl,?_⟩;replace BK101:=U.mk (jx (by solve_by_elim only[BK101.out,qk,qv,qj]) hb);replace HB:=U.mk (qx (by solve_by_elim (maxDepth:=20) only[HB.out,L,O,J,qz,GE101.out]) hb);(try clear hb);obtain⟨y13_0,y13_1,y13_2,y13_3,y13_4,y13_5,y13_6,z13_0,z13_1,z13_2,z13_3,z13_4,z13_5,z13_6⟩:=bx7f BK101.out)|((with_reducible refine zx (f:=10) rfl ?_);refine goesL_ (some 14) rfl rfl Tryz.func10 (by kernel_rfl) rfl #[.slice A0_5 l0_5.length c0_5,.int .i64 t102] rfl (by(try simp only[jq0,jq1,jq2]);first|done|rfl|(simp only[jq3,jq4];rfl)) ?_;(with_reducible refine(qjq.calls k _ _ l0_5 t102 t103 _ ?side1 ?side2 A8.out).mono ?_);(case side1=>solve_by_elim only[(Kd.C_below HR0_5.out HB.out),Kd.C_alloc,Kd.C_drewN,Kd.C_drew]);(case side2=>exact HC0_5.out);rintro e w14 ⟨rfl,hb⟩;refine⟨_,rfl,?_⟩;replace BK101:=U.mk (jx (by solve_by_elim only[BK101.out,qk,qv,qj]) hb);replace HB:=U.mk (qx (by solve_by_elim (maxDepth:=20) only[HB.out,L,O,J,qz,GE101.out]) hb);(try clear hb)))
   go_ret
   exact⟨by first|rfl|(simp[*,zw,zv] <;> rfl),by solve_by_elim (maxDepth:=20) only[HB.out,L,O,J,qz,GE101.out]⟩
  ·rw[if_neg c9] at H;have c9b0:decide (t103 < 0)=false:=decide_eq_false c9;clear c9;replace H:=jq8.mp H;obtain⟨t104,A150,H⟩:=H;try dsimp only at H
   have A15:=U.mk A150;clear A150
   by_cases c16:t104 < 0
   ·rw[if_pos c16] at H;have c16b0:decide (t104 < 0)=true:=decide_eq_true c16;clear c16;obtain rfl:=Option.some.inj H;go_enter Tryz.func4,Tryz.ntmps4;go_wp2_with (first|((with_reducible refine gate_dst (N:=2) rfl ?_);refine box_event ?hg (N:=2) ?hd (cs:=#[.int .i64 a0_0,.int .i64 a0_1,.int .i64 a0_2,.string a0_3,.string a0_4,.slice A0_5 l0_5.length c0_5,.slice A0_6 l0_6.length c0_6]) (t:=27) ?hr ?_;(case hd=>rfl);(case hg=>rfl);(case hr=>first|(go_simp;done)|(go_simp;rfl));intro gb101 hg w17 hbox hb;have BK101:=U.mk (hbox);have GW101:=U.mk ((by rw[hg];exact(zq (by solve_by_elim only[HB.out,L,O,J])):w.heap.size≤gb101));have GE101:=GW101;replace HB:=U.mk (qx (by solve_by_elim only[HB.out,L,O,J]) hb);clear hb hbox hg;obtain⟨y18_0,y18_1,y18_2,y18_3,y18_4,y18_5,y18_6,z18_0,z18_1,z18_2,z18_3,z18_4,z18_5,z18_6⟩:=bx7f BK101.out)|((with_reducible refine zx (f:=9) rfl ?_);refine goesL_ (some 8) rfl rfl Tryz.func9 (by kernel_rfl) rfl #[.agg #[.int .i64 a0_1,.int .i64 a0_2,.string a0_3,.string a0_4],.int .i64 a1] rfl (by(try simp only[jq0,jq1,jq2]);first|done|rfl|(simp only[jq3,jq4];rfl)) ?_;(with_reducible refine(qzx.calls a0_1 a0_2 a0_3 a0_4 a1 t102 _ A3.out).mono ?_);rintro e w19 ⟨rfl,hb⟩;refine⟨_,rfl,?_⟩;replace BK101:=U.mk (jx (by solve_by_elim only[BK101.out,qk,qv,qj]) hb);replace HB:=U.mk (qx (by solve_by_elim (maxDepth:=20) only[HB.out,L,O,J,qz,GE101.out]) hb);(try clear hb);obtain⟨y20_0,y20_1,y20_2,y20_3,y20_4,y20_5,y20_6,z20_0,z20_1,z20_2,z20_3,z20_4,z20_5,z20_6⟩:=bx7f BK101.out)|((with_reducible refine zx (f:=10) rfl ?_);refine goesL_ (some 14) rfl rfl Tryz.func10 (by kernel_rfl) rfl #[.slice A0_5 l0_5.length c0_5,.int .i64 t102] rfl (by(try simp only[jq0,jq1,jq2]);first|done|rfl|(simp only[jq3,jq4];rfl)) ?_;(with_reducible refine(qjq.calls k _ _ l0_5 t102 t103 _ ?side1 ?side2 A8.out).mono ?_);(case side1=>solve_by_elim only[(Kd.C_below HR0_5.out HB.out),Kd.C_alloc,Kd.C_drewN,Kd.C_drew]);(case side2=>exact HC0_5.out);rintro e w21 ⟨rfl,hb⟩;refine⟨_,rfl,?_⟩;replace BK101:=U.mk (jx (by solve_by_elim only[BK101.out,qk,qv,qj]) hb);replace HB:=U.mk (qx (by solve_by_elim (maxDepth:=20) only[HB.out,L,O,J,qz,GE101.out]) hb);(try clear hb);obtain⟨y22_0,y22_1,y22_2,y22_3,y22_4,y22_5,y22_6,z22_0,z22_1,z22_2,z22_3,z22_4,z22_5,z22_6⟩:=bx7f BK101.out)|((with_reducible refine zx (f:=11) rfl ?_);refine goesL_ (some 20) rfl rfl Tryz.func11 (by kernel_rfl) rfl #[.slice A0_6 l0_6.length c0_6,.int .i64 t103] rfl (by(try simp only[jq0,jq1,jq2]);first|done|rfl|(simp only[jq3,jq4];rfl)) ?_;(with_reducible refine(qjz.calls k _ _ l0_6 t103 t104 _ ?side1 ?side2 A15.out).mono ?_);(case side1=>solve_by_elim only[(Kd.C_below HR0_6.out HB.out),Kd.C_alloc,Kd.C_drewN,Kd.C_drew]);(case side2=>exact HC0_6.out);rintro e w' ⟨rfl,⟨nd,rfl⟩⟩;refine⟨_,rfl,?_⟩))
    go_ret
    exact⟨by first|rfl|(simp[*,zw,zv] <;> rfl),by solve_by_elim (maxDepth:=20) only[HB.out,L,O,J,qz,GE101.out]⟩
   ·rw[if_neg c16] at H;have c16b0:decide (t104 < 0)=false:=decide_eq_false c16;clear c16;obtain rfl:=Option.some.inj H;go_enter Tryz.func4,Tryz.ntmps4;go_wp2_with (first|((with_reducible refine gate_dst (N:=2) rfl ?_);refine box_event ?hg (N:=2) ?hd (cs:=#[.int .i64 a0_0,.int .i64 a0_1,.int .i64 a0_2,.string a0_3,.string a0_4,.slice A0_5 l0_5.length c0_5,.slice A0_6 l0_6.length c0_6]) (t:=27) ?hr ?_;(case hd=>rfl);(case hg=>rfl);(case hr=>first|(go_simp;done)|(go_simp;rfl));intro gb101 hg w23 hbox hb;have BK101:=U.mk (hbox);have GW101:=U.mk ((by rw[hg];exact(zq (by solve_by_elim only[HB.out,L,O,J])):w.heap.size≤gb101));have GE101:=GW101;replace HB:=U.mk (qx (by solve_by_elim only[HB.out,L,O,J]) hb);clear hb hbox hg;obtain⟨y24_0,y24_1,y24_2,y24_3,y24_4,y24_5,y24_6,z24_0,z24_1,z24_2,z24_3,z24_4,z24_5,z24_6⟩:=bx7f BK101.out)|((with_reducible refine zx (f:=9) rfl ?_);refine goesL_ (some 8) rfl rfl Tryz.func9 (by kernel_rfl) rfl #[.agg #[.int .i64 a0_1,.int .i64 a0_2,.string a0_3,.string a0_4],.int .i64 a1] rfl (by(try simp only[jq0,jq1,jq2]);first|done|rfl|(simp only[jq3,jq4];rfl)) ?_;(with_reducible refine(qzx.calls a0_1 a0_2 a0_3 a0_4 a1 t102 _ A3.out).mono ?_);rintro e w25 ⟨rfl,hb⟩;refine⟨_,rfl,?_⟩;replace BK101:=U.mk (jx (by solve_by_elim only[BK101.out,qk,qv,qj]) hb);replace HB:=U.mk (qx (by solve_by_elim (maxDepth:=20) only[HB.out,L,O,J,qz,GE101.out]) hb);(try clear hb);obtain⟨y26_0,y26_1,y26_2,y26_3,y26_4,y26_5,y26_6,z26_0,z26_1,z26_2,z26_3,z26_4,z26_5,z26_6⟩:=bx7f BK101.out)|((with_reducible refine zx (f:=10) rfl ?_);refine goesL_ (some 14) rfl rfl Tryz.func10 (by kernel_rfl) rfl #[.slice A0_5 l0_5.length c0_5,.int .i64 t102] rfl (by(try simp only[jq0,jq1,jq2]);first|done|rfl|(simp only[jq3,jq4];rfl)) ?_;(with_reducible refine(qjq.calls k _ _ l0_5 t102 t103 _ ?side1 ?side2 A8.out).mono ?_);(case side1=>solve_by_elim only[(Kd.C_below HR0_5.out HB.out),Kd.C_alloc,Kd.C_drewN,Kd.C_drew]);(case side2=>exact HC0_5.out);rintro e w27 ⟨rfl,hb⟩;refine⟨_,rfl,?_⟩;replace BK101:=U.mk (jx (by solve_by_elim only[BK101.out,qk,qv,qj]) hb);replace HB:=U.mk (qx (by solve_by_elim (maxDepth:=20) only[HB.out,L,O,J,qz,GE101.out]) hb);(try clear hb);obtain⟨y28_0,y28_1,y28_2,y28_3,y28_4,y28_5,y28_6,z28_0,z28_1,z28_2,z28_3,z28_4,z28_5,z28_6⟩:=bx7f BK101.out)|((with_reducible refine zx (f:=11) rfl ?_);refine goesL_ (some 20) rfl rfl Tryz.func11 (by kernel_rfl) rfl #[.slice A0_6 l0_6.length c0_6,.int .i64 t103] rfl (by(try simp only[jq0,jq1,jq2]);first|done|rfl|(simp only[jq3,jq4];rfl)) ?_;(with_reducible refine(qjz.calls k _ _ l0_6 t103 t104 _ ?side1 ?side2 A15.out).mono ?_);(case side1=>solve_by_elim only[(Kd.C_below HR0_6.out HB.out),Kd.C_alloc,Kd.C_drewN,Kd.C_drew]);(case side2=>exact HC0_6.out);rintro e w' ⟨rfl,⟨nd,rfl⟩⟩;refine⟨_,rfl,?_⟩))
    go_ret
    exact⟨by first|rfl|(simp[*,zw,zv] <;> rfl),by solve_by_elim (maxDepth:=20) only[HB.out,L,O,J,qz,GE101.out]⟩
def qjx.f (k:Nat) (a0_0:Int) (a0_1:Int) (a0_2:Int) (a0_3:ByteArray) (a0_4:ByteArray) (l0_5:List (S23)) (l0_6:List ByteArray):Option (Int × Int × Int × ByteArray × ByteArray × (List (S30)) × List ByteArray):=(qjk.f a0_1 a0_2 a0_3 a0_4).bind fun bt104=>((qjv.f k l0_5).bind fun t108=>((qjw.f k l0_6).bind fun t111=>(some (a0_0,bt104.1,bt104.2.1,bt104.2.2.1,bt104.2.2.2,t108,t111))))
theorem qjx.calls (k:Nat) (a0_0:Int) (a0_1:Int) (a0_2:Int) (a0_3:ByteArray) (a0_4:ByteArray) (A0_5:Option Addr) (c0_5:Nat) (l0_5:List (S23)) (A0_6:Option Addr) (c0_6:Nat) (l0_6:List ByteArray) (r1:Int) (r2:Int) (r3:Int) (r4:ByteArray) (r5:ByteArray) (r6:List (S30)) (r7:List ByteArray) (w:World) (hr0_5:Kd.C k23 w A0_5 l0_5.length l0_5) (hc0_5:l0_5.length≤c0_5) (hr0_6:Kd.C Kd.string w A0_6 l0_6.length l0_6) (hc0_6:l0_6.length≤c0_6) (h:qjx.f k a0_0 a0_1 a0_2 a0_3 a0_4 l0_5 l0_6=some (r1,r2,r3,r4,r5,r6,r7)) :
  Calls Tryz.prog 6 #[.agg #[.int .i64 a0_0,.int .i64 a0_1,.int .i64 a0_2,.string a0_3,.string a0_4,.slice A0_5 l0_5.length c0_5,.slice A0_6 l0_6.length c0_6]] w fun e w'=>∃ v5_ v6_:Value,e=.returned (.agg #[.int .i64 r1,.int .i64 r2,.int .i64 r3,.string r4,.string r5,v5_,v6_])∧Kd.R k30 30 w' w.heap.size (fun _=>True) v5_ r6∧Kd.R Kd.string 9 w' w.heap.size (fun _=>True) v6_ r7∧Below w.heap.size w w':=by
 have hu27:=Tryz.underlying27;have hu33:=Tryz.underlying33;have hu23:=Tryz.underlying23;have hu30:=Tryz.underlying30;have HR0_5:=U.mk hr0_5;have HC0_5:=U.mk hc0_5;clear hr0_5 hc0_5;have HR0_6:=U.mk hr0_6;have HC0_6:=U.mk hc0_6;clear hr0_6 hc0_6;have HB:=U.mk (Below.refl w.heap.size w);unfold qjx.f at h;have H:=h;clear h;replace H:=jq8.mp H;obtain⟨⟨t104,t105,t106,t107⟩,A20,H⟩:=H;try dsimp only at H
 have A2:=U.mk A20;clear A20;replace H:=jq8.mp H;obtain⟨t108,A30,H⟩:=H;try dsimp only at H
 have A3:=U.mk A30;clear A30;replace H:=jq8.mp H;obtain⟨t111,A40,H⟩:=H;try dsimp only at H
 have A4:=U.mk A40;clear A40;simp only[Option.some.injEq,Prod.mk.injEq] at H;obtain⟨rfl,rfl,rfl,rfl,rfl,rfl,rfl⟩:=H;go_enter Tryz.func6,Tryz.ntmps6;go_wp2_with (first|((with_reducible refine gate_dst (N:=1) rfl ?_);refine box_event ?hg (N:=1) ?hd (cs:=#[.int .i64 a0_0,.int .i64 a0_1,.int .i64 a0_2,.string a0_3,.string a0_4,.slice A0_5 l0_5.length c0_5,.slice A0_6 l0_6.length c0_6]) (t:=27) ?hr ?_;(case hd=>rfl);(case hg=>rfl);(case hr=>first|(go_simp;done)|(go_simp;rfl));intro gb101 hg w5 hbox hb;have BK101:=U.mk (hbox);have GW101:=U.mk ((by rw[hg];exact(zq (by solve_by_elim only[HB.out,L,O,J])):w.heap.size≤gb101));have GE101:=GW101;replace HB:=U.mk (qx (by solve_by_elim only[HB.out,L,O,J]) hb);clear hb hbox hg)|((with_reducible refine gate_dst (N:=2) rfl ?_);refine box_event ?hg (N:=2) ?hd (cs:=#[.int .i64 0,.int .i64 0,.int .i64 0,.string (⟨#[]⟩ : ByteArray),.string (⟨#[]⟩ : ByteArray),.slice none 0 0,.slice none 0 0]) (t:=33) ?hr ?_;(case hd=>rfl);(case hg=>rfl);(case hr=>first|(go_simp;done)|(go_simp;rfl));intro gb102 hg w6 hbox hb;have BK102:=U.mk (hbox);have GW102:=U.mk ((by rw[hg];exact(zq (by solve_by_elim (maxDepth:=20) only[HB.out,L,O,J,qz,GE101.out])):w.heap.size≤gb102));have GE102:=GW102;replace HB:=U.mk (qx (by solve_by_elim (maxDepth:=20) only[HB.out,L,O,J,qz,GE101.out]) hb);have NB101_102:=U.mk ((by rw[hg];exact Nat.ne_of_lt (blk_lt (by solve_by_elim only[BK101.out,qk,qv,qj])):gb101≠gb102));have NB102_101:=U.mk ((by rw[hg];exact Nat.ne_of_gt (blk_lt (by solve_by_elim only[BK101.out,qk,qv,qj])):gb102≠gb101));replace BK101:=U.mk (jx (by solve_by_elim only[BK101.out,qk,qv,qj]) hb);clear hb hbox hg)|((with_reducible refine gate_dst (N:=3) rfl ?_);refine box_event ?hg (N:=3) ?hd (cs:=#[.int .i64 0,.int .i64 0,.int .i64 0,.string (⟨#[]⟩ : ByteArray),.string (⟨#[]⟩ : ByteArray),.slice none 0 0,.slice none 0 0]) (t:=33) ?hr ?_;(case hd=>rfl);(case hg=>rfl);(case hr=>first|(go_simp;done)|(go_simp;rfl));intro gb103 hg w7 hbox hb;have BK103:=U.mk (hbox);have GW103:=U.mk ((by rw[hg];exact(zq (by repeat(first|(with_reducible first|exact HB.out|apply L|apply O|apply J|refine qz ?_ GE101.out|refine qz ?_ GE102.out)|exact HB.out))):w.heap.size≤gb103));have GE103:=GW103;replace HB:=U.mk (qx (by repeat(first|(with_reducible first|exact HB.out|apply L|apply O|apply J|refine qz ?_ GE101.out|refine qz ?_ GE102.out)|exact HB.out)) hb);have NB101_103:=U.mk ((by rw[hg];exact Nat.ne_of_lt (blk_lt (by solve_by_elim only[BK101.out,qk,qv,qj])):gb101≠gb103));have NB103_101:=U.mk ((by rw[hg];exact Nat.ne_of_gt (blk_lt (by solve_by_elim only[BK101.out,qk,qv,qj])):gb103≠gb101));replace BK101:=U.mk (jx (by solve_by_elim only[BK101.out,qk,qv,qj]) hb);have NB102_103:=U.mk ((by rw[hg];exact Nat.ne_of_lt (blk_lt (by solve_by_elim only[BK102.out,qk,qv,qj])):gb102≠gb103));have NB103_102:=U.mk ((by rw[hg];exact Nat.ne_of_gt (blk_lt (by solve_by_elim only[BK102.out,qk,qv,qj])):gb103≠gb102));replace BK102:=U.mk (jx (by solve_by_elim only[BK102.out,qk,qv,qj]) hb);clear hb hbox hg;have hnb8:=NB101_102.out;have hnc8:=NB102_101.out;have hnb9:=NB101_103.out;have hnc9:=NB103_101.out;obtain⟨y10_0,y10_1,y10_2,y10_3,y10_4,y10_5,y10_6,z10_0,z10_1,z10_2,z10_3,z10_4,z10_5,z10_6⟩:=bx7f BK101.out;have hnb11:=NB103_102.out;have hnc11:=NB102_103.out;obtain⟨y12_0,y12_1,y12_2,y12_3,y12_4,y12_5,y12_6,z12_0,z12_1,z12_2,z12_3,z12_4,z12_5,z12_6⟩:=bx7f BK103.out)|((with_reducible refine zx (f:=19) rfl ?_);refine goesL_ (some 9) rfl rfl Tryz.func19 (by kernel_rfl) rfl #[.agg #[.int .i64 a0_1,.int .i64 a0_2,.string a0_3,.string a0_4]] rfl (by(try simp only[jq0,jq1,jq2]);first|done|rfl|(simp only[jq3,jq4];rfl)) ?_;(with_reducible refine(qjk.calls a0_1 a0_2 a0_3 a0_4 t104 t105 t106 t107 _ A2.out).mono ?_);rintro e w13 ⟨rfl,hb⟩;refine⟨_,rfl,?_⟩;replace BK101:=U.mk (jx (g:=gb101) (o:=.cells #[.int .i64 a0_0,.int .i64 a0_1,.int .i64 a0_2,.string a0_3,.string a0_4,.slice A0_5 l0_5.length c0_5,.slice A0_6 l0_6.length c0_6] 27 (0,0)) (by(with_reducible repeat(first|refine qk ?_ _|refine qv ?_|refine qj ?_ _));refine blk_far ?_ NB101_103.out _;(with_reducible repeat(first|refine qk ?_ _|refine qv ?_|refine qj ?_ _));exact BK101.out) hb);replace BK102:=U.mk (jx (g:=gb102) (o:=.cells #[.int .i64 0,.int .i64 0,.int .i64 0,.string (⟨#[]⟩ : ByteArray),.string (⟨#[]⟩ : ByteArray),.slice none 0 0,.slice none 0 0] 33 (0,0)) (by(with_reducible repeat(first|refine qk ?_ _|refine qv ?_|refine qj ?_ _));refine blk_far ?_ NB102_103.out _;(with_reducible repeat(first|refine qk ?_ _|refine qv ?_|refine qj ?_ _));exact BK102.out) hb);replace BK103:=U.mk (jx (g:=gb103) (o:=.cells #[.int .i64 a0_0,.int .i64 0,.int .i64 0,.string (⟨#[]⟩ : ByteArray),.string (⟨#[]⟩ : ByteArray),.slice none 0 0,.slice none 0 0] 33 (0,0)) (by(with_reducible repeat(first|refine qk ?_ _|refine qv ?_|refine qj ?_ _));refine blk_put (cs:=#[.int .i64 0,.int .i64 0,.int .i64 0,.string (⟨#[]⟩ : ByteArray),.string (⟨#[]⟩ : ByteArray),.slice none 0 0,.slice none 0 0]) ?_ 0 _ rfl;(with_reducible repeat(first|refine qk ?_ _|refine qv ?_|refine qj ?_ _));exact BK103.out) hb);replace HB:=U.mk (qx (by repeat(first|(with_reducible first|exact HB.out|apply L|apply O|apply J|refine qz ?_ GE101.out|refine qz ?_ GE102.out|refine qz ?_ GE103.out)|exact HB.out)) hb);(try clear hb);obtain⟨y14_0,y14_1,y14_2,y14_3,y14_4,y14_5,y14_6,z14_0,z14_1,z14_2,z14_3,z14_4,z14_5,z14_6⟩:=bx7f BK103.out;obtain⟨y15_0,y15_1,y15_2,y15_3,y15_4,y15_5,y15_6,z15_0,z15_1,z15_2,z15_3,z15_4,z15_5,z15_6⟩:=bx7f BK101.out)|((with_reducible refine zx (f:=20) rfl ?_);refine goesL_ (some 13) rfl rfl Tryz.func20 (by kernel_rfl) rfl #[.slice A0_5 l0_5.length c0_5] rfl (by(try simp only[jq0,jq1,jq2]);first|done|rfl|(simp only[jq3,jq4];rfl)) ?_;(with_reducible refine(qjv.calls k _ _ l0_5 t108 _ ?side1 ?side2 A3.out).mono ?_);(case side1=>exact Kd.C_below HR0_5.out (by repeat(first|(with_reducible first|exact HB.out|apply L|apply O|apply J|refine qz ?_ GE101.out|refine qz ?_ GE102.out|refine qz ?_ GE103.out)|exact HB.out)));(case side2=>exact HC0_5.out);rintro e w16 ⟨v109,rfl,ho0,hb⟩;refine⟨_,rfl,?_⟩;have HO110:=U.mk (Kd.R_lower ho0 (zq (by repeat(first|(with_reducible first|exact HB.out|apply L|apply O|apply J|refine qz ?_ GE101.out|refine qz ?_ GE102.out|refine qz ?_ GE103.out)|exact HB.out))));replace BK101:=U.mk (jx (g:=gb101) (o:=.cells #[.int .i64 a0_0,.int .i64 a0_1,.int .i64 a0_2,.string a0_3,.string a0_4,.slice A0_5 l0_5.length c0_5,.slice A0_6 l0_6.length c0_6] 27 (0,0)) (by(with_reducible repeat(first|refine qk ?_ _|refine qv ?_|refine qj ?_ _));refine blk_far ?_ NB101_103.out _;(with_reducible repeat(first|refine qk ?_ _|refine qv ?_|refine qj ?_ _));refine blk_far ?_ NB101_103.out _;(with_reducible repeat(first|refine qk ?_ _|refine qv ?_|refine qj ?_ _));refine blk_far ?_ NB101_103.out _;(with_reducible repeat(first|refine qk ?_ _|refine qv ?_|refine qj ?_ _));refine blk_far ?_ NB101_103.out _;(with_reducible repeat(first|refine qk ?_ _|refine qv ?_|refine qj ?_ _));exact BK101.out) hb);replace BK102:=U.mk (jx (g:=gb102) (o:=.cells #[.int .i64 0,.int .i64 0,.int .i64 0,.string (⟨#[]⟩ : ByteArray),.string (⟨#[]⟩ : ByteArray),.slice none 0 0,.slice none 0 0] 33 (0,0)) (by(with_reducible repeat(first|refine qk ?_ _|refine qv ?_|refine qj ?_ _));refine blk_far ?_ NB102_103.out _;(with_reducible repeat(first|refine qk ?_ _|refine qv ?_|refine qj ?_ _));refine blk_far ?_ NB102_103.out _;(with_reducible repeat(first|refine qk ?_ _|refine qv ?_|refine qj ?_ _));refine blk_far ?_ NB102_103.out _;(with_reducible repeat(first|refine qk ?_ _|refine qv ?_|refine qj ?_ _));refine blk_far ?_ NB102_103.out _;(with_reducible repeat(first|refine qk ?_ _|refine qv ?_|refine qj ?_ _));exact BK102.out) hb);replace BK103:=U.mk (jx (g:=gb103) (o:=.cells #[.int .i64 a0_0,.int .i64 t104,.int .i64 t105,.string t106,.string t107,.slice none 0 0,.slice none 0 0] 33 (0,0)) (by(with_reducible repeat(first|refine qk ?_ _|refine qv ?_|refine qj ?_ _));refine blk_put (cs:=#[.int .i64 a0_0,.int .i64 t104,.int .i64 t105,.string t106,.string (⟨#[]⟩ : ByteArray),.slice none 0 0,.slice none 0 0]) ?_ 4 _ rfl;(with_reducible repeat(first|refine qk ?_ _|refine qv ?_|refine qj ?_ _));refine blk_put (cs:=#[.int .i64 a0_0,.int .i64 t104,.int .i64 t105,.string (⟨#[]⟩ : ByteArray),.string (⟨#[]⟩ : ByteArray),.slice none 0 0,.slice none 0 0]) ?_ 3 _ rfl;(with_reducible repeat(first|refine qk ?_ _|refine qv ?_|refine qj ?_ _));refine blk_put (cs:=#[.int .i64 a0_0,.int .i64 t104,.int .i64 0,.string (⟨#[]⟩ : ByteArray),.string (⟨#[]⟩ : ByteArray),.slice none 0 0,.slice none 0 0]) ?_ 2 _ rfl;(with_reducible repeat(first|refine qk ?_ _|refine qv ?_|refine qj ?_ _));refine blk_put (cs:=#[.int .i64 a0_0,.int .i64 0,.int .i64 0,.string (⟨#[]⟩ : ByteArray),.string (⟨#[]⟩ : ByteArray),.slice none 0 0,.slice none 0 0]) ?_ 1 _ rfl;(with_reducible repeat(first|refine qk ?_ _|refine qv ?_|refine qj ?_ _));exact BK103.out) hb);replace HB:=U.mk (qx (by repeat(first|(with_reducible first|exact HB.out|apply L|apply O|apply J|refine qz ?_ GE101.out|refine qz ?_ GE102.out|refine qz ?_ GE103.out)|exact HB.out)) hb);(try clear hb ho0);obtain⟨Ao17,co17,eo17⟩:=Kd.R_slice HO110.out;subst eo17;obtain⟨y18_0,y18_1,y18_2,y18_3,y18_4,y18_5,y18_6,z18_0,z18_1,z18_2,z18_3,z18_4,z18_5,z18_6⟩:=bx7f BK103.out;obtain⟨y19_0,y19_1,y19_2,y19_3,y19_4,y19_5,y19_6,z19_0,z19_1,z19_2,z19_3,z19_4,z19_5,z19_6⟩:=bx7f BK101.out)|((with_reducible refine zx (f:=21) rfl ?_);refine goesL_ (some 17) rfl rfl Tryz.func21 (by kernel_rfl) rfl #[.slice A0_6 l0_6.length c0_6] rfl (by(try simp only[jq0,jq1,jq2]);first|done|rfl|(simp only[jq3,jq4];rfl)) ?_;(with_reducible refine(qjw.calls k _ _ l0_6 t111 _ ?side1 ?side2 A4.out).mono ?_);(case side1=>exact Kd.C_below HR0_6.out (by repeat(first|(with_reducible first|exact HB.out|apply L|apply O|apply J|refine qz ?_ GE101.out|refine qz ?_ GE102.out|refine qz ?_ GE103.out)|exact HB.out)));(case side2=>exact HC0_6.out);rintro e w20 ⟨v112,rfl,ho0,hb⟩;refine⟨_,rfl,?_⟩;replace HO110:=U.mk (Kd.R_below (by(with_reducible repeat(first|apply Kd.zj|apply Kd.zz|apply Kd.zk));exact(Kd.R_mono (Kd.R_far (p:=⟨gb103,5,none⟩) (Kd.R_types HO110.out BK103.out (by decide)) (fun _ hk=>hk.2) (.slice Ao17 t108.length co17)) (fun _ h_=>h_.1))) hb);have HO113:=U.mk (Kd.R_lower ho0 (zq (by repeat(first|(with_reducible first|exact HB.out|apply L|apply O|apply J|refine qz ?_ GE101.out|refine qz ?_ GE102.out|refine qz ?_ GE103.out)|exact HB.out))));replace BK101:=U.mk (jx (g:=gb101) (o:=.cells #[.int .i64 a0_0,.int .i64 a0_1,.int .i64 a0_2,.string a0_3,.string a0_4,.slice A0_5 l0_5.length c0_5,.slice A0_6 l0_6.length c0_6] 27 (0,0)) (by(with_reducible repeat(first|refine qk ?_ _|refine qv ?_|refine qj ?_ _));refine blk_far ?_ NB101_103.out _;(with_reducible repeat(first|refine qk ?_ _|refine qv ?_|refine qj ?_ _));exact BK101.out) hb);replace BK102:=U.mk (jx (g:=gb102) (o:=.cells #[.int .i64 0,.int .i64 0,.int .i64 0,.string (⟨#[]⟩ : ByteArray),.string (⟨#[]⟩ : ByteArray),.slice none 0 0,.slice none 0 0] 33 (0,0)) (by(with_reducible repeat(first|refine qk ?_ _|refine qv ?_|refine qj ?_ _));refine blk_far ?_ NB102_103.out _;(with_reducible repeat(first|refine qk ?_ _|refine qv ?_|refine qj ?_ _));exact BK102.out) hb);replace BK103:=U.mk (jx (g:=gb103) (o:=.cells #[.int .i64 a0_0,.int .i64 t104,.int .i64 t105,.string t106,.string t107,.slice Ao17 t108.length co17,.slice none 0 0] 33 (0,0)) (by(with_reducible repeat(first|refine qk ?_ _|refine qv ?_|refine qj ?_ _));refine blk_put (cs:=#[.int .i64 a0_0,.int .i64 t104,.int .i64 t105,.string t106,.string t107,.slice none 0 0,.slice none 0 0]) ?_ 5 _ rfl;(with_reducible repeat(first|refine qk ?_ _|refine qv ?_|refine qj ?_ _));exact BK103.out) hb);replace HB:=U.mk (qx (by repeat(first|(with_reducible first|exact HB.out|apply L|apply O|apply J|refine qz ?_ GE101.out|refine qz ?_ GE102.out|refine qz ?_ GE103.out)|exact HB.out)) hb);(try clear hb ho0);obtain⟨Ao21,co21,eo21⟩:=Kd.R_slice HO113.out;subst eo21;obtain⟨y22_0,y22_1,y22_2,y22_3,y22_4,y22_5,y22_6,z22_0,z22_1,z22_2,z22_3,z22_4,z22_5,z22_6⟩:=bx7f BK103.out;obtain⟨y23_0,y23_1,y23_2,y23_3,y23_4,y23_5,y23_6,z23_0,z23_1,z23_2,z23_3,z23_4,z23_5,z23_6⟩:=bx7f BK102.out))
 refine bodyPost_ret (results_cell_row rfl _ _ gb102 33 #[.int .i64 a0_0,.int .i64 t104,.int .i64 t105,.string t106,.string t107,.slice Ao17 t108.length co17,.slice Ao21 t111.length co21] (0,0) _ rfl (by(with_reducible repeat(first|refine qk ?_ _|refine qv ?_|refine qj ?_ _));refine blk_put (cs:=#[.int .i64 a0_0,.int .i64 t104,.int .i64 t105,.string t106,.string t107,.slice Ao17 t108.length co17,.slice none 0 0]) ?_ 6 _ rfl;(with_reducible repeat(first|refine qk ?_ _|refine qv ?_|refine qj ?_ _));refine blk_put (cs:=#[.int .i64 a0_0,.int .i64 t104,.int .i64 t105,.string t106,.string t107,.slice none 0 0,.slice none 0 0]) ?_ 5 _ rfl;(with_reducible repeat(first|refine qk ?_ _|refine qv ?_|refine qj ?_ _));refine blk_put (cs:=#[.int .i64 a0_0,.int .i64 t104,.int .i64 t105,.string t106,.string (⟨#[]⟩ : ByteArray),.slice none 0 0,.slice none 0 0]) ?_ 4 _ rfl;(with_reducible repeat(first|refine qk ?_ _|refine qv ?_|refine qj ?_ _));refine blk_put (cs:=#[.int .i64 a0_0,.int .i64 t104,.int .i64 t105,.string (⟨#[]⟩ : ByteArray),.string (⟨#[]⟩ : ByteArray),.slice none 0 0,.slice none 0 0]) ?_ 3 _ rfl;(with_reducible repeat(first|refine qk ?_ _|refine qv ?_|refine qj ?_ _));refine blk_put (cs:=#[.int .i64 a0_0,.int .i64 t104,.int .i64 0,.string (⟨#[]⟩ : ByteArray),.string (⟨#[]⟩ : ByteArray),.slice none 0 0,.slice none 0 0]) ?_ 2 _ rfl;(with_reducible repeat(first|refine qk ?_ _|refine qv ?_|refine qj ?_ _));refine blk_put (cs:=#[.int .i64 a0_0,.int .i64 0,.int .i64 0,.string (⟨#[]⟩ : ByteArray),.string (⟨#[]⟩ : ByteArray),.slice none 0 0,.slice none 0 0]) ?_ 1 _ rfl;(with_reducible repeat(first|refine qk ?_ _|refine qv ?_|refine qj ?_ _));refine blk_put (cs:=#[.int .i64 0,.int .i64 0,.int .i64 0,.string (⟨#[]⟩ : ByteArray),.string (⟨#[]⟩ : ByteArray),.slice none 0 0,.slice none 0 0]) ?_ 0 _ rfl;(with_reducible repeat(first|refine qk ?_ _|refine qv ?_|refine qj ?_ _));refine blk_far ?_ NB102_103.out _;(with_reducible repeat(first|refine qk ?_ _|refine qv ?_|refine qj ?_ _));exact BK102.out) Tryz.underlying33 rfl (by kernel_rfl)) rfl ?_;exact⟨_,_,by first|rfl|(simp[*,zw,zv] <;> rfl),by(with_reducible repeat(first|apply Kd.zj|apply Kd.zz|apply Kd.zk));exact Kd.R_mono (Kd.R_far (p:=⟨gb102,6,none⟩) (Kd.R_far (p:=⟨gb102,5,none⟩) (Kd.R_far (p:=⟨gb102,4,none⟩) (Kd.R_far (p:=⟨gb102,3,none⟩) (Kd.R_far (p:=⟨gb102,2,none⟩) (Kd.R_far (p:=⟨gb102,1,none⟩) (Kd.R_far (p:=⟨gb102,0,none⟩) (Kd.R_far (p:=⟨gb103,6,none⟩) (Kd.R_types (Kd.R_types HO110.out BK103.out (by decide)) BK102.out (by decide)) (fun _ hk=>hk.1.2) (.slice Ao21 t111.length co21)) (fun _ hk=>hk.2) (.int .i64 a0_0)) (fun _ hk=>hk.2) (.int .i64 t104)) (fun _ hk=>hk.2) (.int .i64 t105)) (fun _ hk=>hk.2) (.string t106)) (fun _ hk=>hk.2) (.string t107)) (fun _ hk=>hk.2) (.slice Ao17 t108.length co17)) (fun _ hk=>hk.2) (.slice Ao21 t111.length co21)) (fun _ hk=>trivial),by(with_reducible repeat(first|apply Kd.zj|apply Kd.zz|apply Kd.zk));exact Kd.R_mono (Kd.R_far (p:=⟨gb102,6,none⟩) (Kd.R_far (p:=⟨gb102,5,none⟩) (Kd.R_far (p:=⟨gb102,4,none⟩) (Kd.R_far (p:=⟨gb102,3,none⟩) (Kd.R_far (p:=⟨gb102,2,none⟩) (Kd.R_far (p:=⟨gb102,1,none⟩) (Kd.R_far (p:=⟨gb102,0,none⟩) (Kd.R_far (p:=⟨gb103,6,none⟩) (Kd.R_types (Kd.R_types HO113.out BK103.out (by decide)) BK102.out (by decide)) (fun _ hk=>hk.1.2) (.slice Ao21 t111.length co21)) (fun _ hk=>hk.2) (.int .i64 a0_0)) (fun _ hk=>hk.2) (.int .i64 t104)) (fun _ hk=>hk.2) (.int .i64 t105)) (fun _ hk=>hk.2) (.string t106)) (fun _ hk=>hk.2) (.string t107)) (fun _ hk=>hk.2) (.slice Ao17 t108.length co17)) (fun _ hk=>hk.2) (.slice Ao21 t111.length co21)) (fun _ hk=>trivial),by repeat(first|(with_reducible first|exact HB.out|apply L|apply O|apply J|refine qz ?_ GE101.out|refine qz ?_ GE102.out|refine qz ?_ GE103.out)|exact HB.out)⟩
def qzw.f (k:Nat) (a0_0:Int) (a0_1:Int) (a0_2:Int) (a0_3:ByteArray) (a0_4:ByteArray) (l0_5:List (S30)) (l0_6:List ByteArray) (a1_0:Int) (a1_1:Int) (a1_2:Int) (a1_3:ByteArray) (a1_4:ByteArray) (l1_5:List (S30)) (l1_6:List ByteArray):Option (Bool):=if a0_0=a1_0 then((qzj.f a0_1 a0_2 a0_3 a0_4 a1_1 a1_2 a1_3 a1_4).bind fun t103=>(if t103=true then((qzk.f k l0_5 l1_5).bind fun t104=>(if t104=true then((qzv.f k l0_6 l1_6).bind fun t105=>(if t105=true then(some true) else(some false))) else(some false))) else(some false))) else(some false)
theorem qzw.calls (k:Nat) (a0_0:Int) (a0_1:Int) (a0_2:Int) (a0_3:ByteArray) (a0_4:ByteArray) (A0_5:Option Addr) (c0_5:Nat) (l0_5:List (S30)) (A0_6:Option Addr) (c0_6:Nat) (l0_6:List ByteArray) (a1_0:Int) (a1_1:Int) (a1_2:Int) (a1_3:ByteArray) (a1_4:ByteArray) (A1_5:Option Addr) (c1_5:Nat) (l1_5:List (S30)) (A1_6:Option Addr) (c1_6:Nat) (l1_6:List ByteArray) (r:Bool) (w:World) (hr0_5:Kd.C k30 w A0_5 l0_5.length l0_5) (hc0_5:l0_5.length≤c0_5) (hr0_6:Kd.C Kd.string w A0_6 l0_6.length l0_6) (hc0_6:l0_6.length≤c0_6) (hr1_5:Kd.C k30 w A1_5 l1_5.length l1_5) (hc1_5:l1_5.length≤c1_5) (hr1_6:Kd.C Kd.string w A1_6 l1_6.length l1_6) (hc1_6:l1_6.length≤c1_6) (h:qzw.f k a0_0 a0_1 a0_2 a0_3 a0_4 l0_5 l0_6 a1_0 a1_1 a1_2 a1_3 a1_4 l1_5 l1_6=some r) :
  Calls Tryz.prog 8 #[.agg #[.int .i64 a0_0,.int .i64 a0_1,.int .i64 a0_2,.string a0_3,.string a0_4,.slice A0_5 l0_5.length c0_5,.slice A0_6 l0_6.length c0_6],.agg #[.int .i64 a1_0,.int .i64 a1_1,.int .i64 a1_2,.string a1_3,.string a1_4,.slice A1_5 l1_5.length c1_5,.slice A1_6 l1_6.length c1_6]] w fun e w'=>e=.returned (.bool r)∧Below w.heap.size w w':=by
 have hu33:=Tryz.underlying33;have hu30:=Tryz.underlying30;have HR0_5:=U.mk hr0_5;have HC0_5:=U.mk hc0_5;clear hr0_5 hc0_5;have HR0_6:=U.mk hr0_6;have HC0_6:=U.mk hc0_6;clear hr0_6 hc0_6;have HR1_5:=U.mk hr1_5;have HC1_5:=U.mk hc1_5;clear hr1_5 hc1_5;have HR1_6:=U.mk hr1_6;have HC1_6:=U.mk hc1_6;clear hr1_6 hc1_6;have HB:=U.mk (Below.refl w.heap.size w);unfold qzw.f at h;have H:=h;clear h
 by_cases c3:a0_0=a1_0
 ·rw[if_pos c3] at H;have c3b0:(a0_0 == a1_0)=true:=beq_iff_eq.mpr c3;have c3b1:(a0_0 != a1_0)=false:=bne_eq_false_iff_eq.mpr c3;clear c3;replace H:=jq8.mp H;obtain⟨t103,A40,H⟩:=H;try dsimp only at H
  have A4:=U.mk A40;clear A40
  by_cases c5:t103=true
  ·subst c5;have H1:((qzk.f k l0_5 l1_5).bind fun t104=>(if t104=true then((qzv.f k l0_6 l1_6).bind fun t105=>(if t105=true then(some true) else(some false))) else(some false)))=some r:=by rw[if_pos rfl] at H;exact H
   clear H;have H:=H1;clear H1;replace H:=jq8.mp H;obtain⟨t104,A60,H⟩:=H;try dsimp only at H
   have A6:=U.mk A60;clear A60
   by_cases c7:t104=true
   ·subst c7;have H1:((qzv.f k l0_6 l1_6).bind fun t105=>(if t105=true then(some true) else(some false)))=some r:=by rw[if_pos rfl] at H;exact H
    clear H;have H:=H1;clear H1;replace H:=jq8.mp H;obtain⟨t105,A80,H⟩:=H;try dsimp only at H
    have A8:=U.mk A80;clear A80
    by_cases c9:t105=true
    ·subst c9;have H1:(some true)=some r:=by rw[if_pos rfl] at H;exact H
     clear H;have H:=H1;clear H1;obtain rfl:=Option.some.inj H;go_enter Tryz.func8,Tryz.ntmps8;go_wp2_with (first|((with_reducible refine gate_dst (N:=2) rfl ?_);refine box_event ?hg (N:=2) ?hd (cs:=#[.int .i64 a0_0,.int .i64 a0_1,.int .i64 a0_2,.string a0_3,.string a0_4,.slice A0_5 l0_5.length c0_5,.slice A0_6 l0_6.length c0_6]) (t:=33) ?hr ?_;(case hd=>rfl);(case hg=>rfl);(case hr=>first|(go_simp;done)|(go_simp;rfl));intro gb101 hg w10 hbox hb;have BK101:=U.mk (hbox);have GW101:=U.mk ((by rw[hg];exact(zq (by solve_by_elim only[HB.out,L,O,J])):w.heap.size≤gb101));have GE101:=GW101;replace HB:=U.mk (qx (by solve_by_elim only[HB.out,L,O,J]) hb);clear hb hbox hg)|((with_reducible refine gate_dst (N:=3) rfl ?_);refine box_event ?hg (N:=3) ?hd (cs:=#[.int .i64 a1_0,.int .i64 a1_1,.int .i64 a1_2,.string a1_3,.string a1_4,.slice A1_5 l1_5.length c1_5,.slice A1_6 l1_6.length c1_6]) (t:=33) ?hr ?_;(case hd=>rfl);(case hg=>rfl);(case hr=>first|(go_simp;done)|(go_simp;rfl));intro gb102 hg w11 hbox hb;have BK102:=U.mk (hbox);have GW102:=U.mk ((by rw[hg];exact(zq (by solve_by_elim (maxDepth:=20) only[HB.out,L,O,J,qz,GE101.out])):w.heap.size≤gb102));have GE102:=GW102;replace HB:=U.mk (qx (by solve_by_elim (maxDepth:=20) only[HB.out,L,O,J,qz,GE101.out]) hb);have NB101_102:=U.mk ((by rw[hg];exact Nat.ne_of_lt (blk_lt (by solve_by_elim only[BK101.out,qk,qv,qj])):gb101≠gb102));have NB102_101:=U.mk ((by rw[hg];exact Nat.ne_of_gt (blk_lt (by solve_by_elim only[BK101.out,qk,qv,qj])):gb102≠gb101));replace BK101:=U.mk (jx (by solve_by_elim only[BK101.out,qk,qv,qj]) hb);clear hb hbox hg;have hnb12:=NB101_102.out;have hnc12:=NB102_101.out;obtain⟨y13_0,y13_1,y13_2,y13_3,y13_4,y13_5,y13_6,z13_0,z13_1,z13_2,z13_3,z13_4,z13_5,z13_6⟩:=bx7f BK101.out;obtain⟨y14_0,y14_1,y14_2,y14_3,y14_4,y14_5,y14_6,z14_0,z14_1,z14_2,z14_3,z14_4,z14_5,z14_6⟩:=bx7f BK102.out)|((with_reducible refine zx (f:=29) rfl ?_);refine goesL_ (some 14) rfl rfl Tryz.func29 (by kernel_rfl) rfl #[.agg #[.int .i64 a0_1,.int .i64 a0_2,.string a0_3,.string a0_4],.agg #[.int .i64 a1_1,.int .i64 a1_2,.string a1_3,.string a1_4]] rfl (by(try simp only[jq0,jq1,jq2]);first|done|rfl|(simp only[jq3,jq4];rfl)) ?_;(with_reducible refine(qzj.calls a0_1 a0_2 a0_3 a0_4 a1_1 a1_2 a1_3 a1_4 true _ A4.out).mono ?_);rintro e w15 ⟨rfl,hb⟩;refine⟨_,rfl,?_⟩;replace BK101:=U.mk (jx (by solve_by_elim only[BK101.out,qk,qv,qj]) hb);replace BK102:=U.mk (jx (by solve_by_elim only[BK102.out,qk,qv,qj]) hb);replace HB:=U.mk (qx (by repeat(first|(with_reducible first|exact HB.out|apply L|apply O|apply J|refine qz ?_ GE101.out|refine qz ?_ GE102.out)|exact HB.out)) hb);(try clear hb);obtain⟨y16_0,y16_1,y16_2,y16_3,y16_4,y16_5,y16_6,z16_0,z16_1,z16_2,z16_3,z16_4,z16_5,z16_6⟩:=bx7f BK101.out;obtain⟨y17_0,y17_1,y17_2,y17_3,y17_4,y17_5,y17_6,z17_0,z17_1,z17_2,z17_3,z17_4,z17_5,z17_6⟩:=bx7f BK102.out)|((with_reducible refine zx (f:=30) rfl ?_);refine goesL_ (some 20) rfl rfl Tryz.func30 (by kernel_rfl) rfl #[.slice A0_5 l0_5.length c0_5,.slice A1_5 l1_5.length c1_5] rfl (by(try simp only[jq0,jq1,jq2]);first|done|rfl|(simp only[jq3,jq4];rfl)) ?_;(with_reducible refine(qzk.calls k _ _ l0_5 _ _ l1_5 true _ ?side1 ?side2 ?side3 ?side4 A6.out).mono ?_);(case side1=>solve_by_elim only[(Kd.C_below HR0_5.out HB.out),Kd.C_alloc,Kd.C_drewN,Kd.C_drew]);(case side2=>exact HC0_5.out);(case side3=>solve_by_elim only[(Kd.C_below HR1_5.out HB.out),Kd.C_alloc,Kd.C_drewN,Kd.C_drew]);(case side4=>exact HC1_5.out);rintro e w18 ⟨rfl,hb⟩;refine⟨_,rfl,?_⟩;replace BK101:=U.mk (jx (by solve_by_elim only[BK101.out,qk,qv,qj]) hb);replace BK102:=U.mk (jx (by solve_by_elim only[BK102.out,qk,qv,qj]) hb);replace HB:=U.mk (qx (by repeat(first|(with_reducible first|exact HB.out|apply L|apply O|apply J|refine qz ?_ GE101.out|refine qz ?_ GE102.out)|exact HB.out)) hb);(try clear hb);obtain⟨y19_0,y19_1,y19_2,y19_3,y19_4,y19_5,y19_6,z19_0,z19_1,z19_2,z19_3,z19_4,z19_5,z19_6⟩:=bx7f BK101.out;obtain⟨y20_0,y20_1,y20_2,y20_3,y20_4,y20_5,y20_6,z20_0,z20_1,z20_2,z20_3,z20_4,z20_5,z20_6⟩:=bx7f BK102.out)|((with_reducible refine zx (f:=31) rfl ?_);refine goesL_ (some 26) rfl rfl Tryz.func31 (by kernel_rfl) rfl #[.slice A0_6 l0_6.length c0_6,.slice A1_6 l1_6.length c1_6] rfl (by(try simp only[jq0,jq1,jq2]);first|done|rfl|(simp only[jq3,jq4];rfl)) ?_;(with_reducible refine(qzv.calls k _ _ l0_6 _ _ l1_6 true _ ?side1 ?side2 ?side3 ?side4 A8.out).mono ?_);(case side1=>solve_by_elim only[(Kd.C_below HR0_6.out HB.out),Kd.C_alloc,Kd.C_drewN,Kd.C_drew]);(case side2=>exact HC0_6.out);(case side3=>solve_by_elim only[(Kd.C_below HR1_6.out HB.out),Kd.C_alloc,Kd.C_drewN,Kd.C_drew]);(case side4=>exact HC1_6.out);rintro e w' ⟨rfl,⟨nd,rfl⟩⟩;refine⟨_,rfl,?_⟩))
     go_ret
     exact⟨by first|rfl|(simp[*,zw,zv] <;> rfl),by repeat(first|(with_reducible first|exact HB.out|apply L|apply O|apply J|refine qz ?_ GE101.out|refine qz ?_ GE102.out)|exact HB.out)⟩
    ·replace c9:=jq9.mpr c9;subst c9;have H1:(some false)=some r:=by rw[if_neg (show ¬ (false=true) by decide)] at H;exact H
     clear H;have H:=H1;clear H1;obtain rfl:=Option.some.inj H;go_enter Tryz.func8,Tryz.ntmps8;go_wp2_with (first|((with_reducible refine gate_dst (N:=2) rfl ?_);refine box_event ?hg (N:=2) ?hd (cs:=#[.int .i64 a0_0,.int .i64 a0_1,.int .i64 a0_2,.string a0_3,.string a0_4,.slice A0_5 l0_5.length c0_5,.slice A0_6 l0_6.length c0_6]) (t:=33) ?hr ?_;(case hd=>rfl);(case hg=>rfl);(case hr=>first|(go_simp;done)|(go_simp;rfl));intro gb101 hg w21 hbox hb;have BK101:=U.mk (hbox);have GW101:=U.mk ((by rw[hg];exact(zq (by solve_by_elim only[HB.out,L,O,J])):w.heap.size≤gb101));have GE101:=GW101;replace HB:=U.mk (qx (by solve_by_elim only[HB.out,L,O,J]) hb);clear hb hbox hg)|((with_reducible refine gate_dst (N:=3) rfl ?_);refine box_event ?hg (N:=3) ?hd (cs:=#[.int .i64 a1_0,.int .i64 a1_1,.int .i64 a1_2,.string a1_3,.string a1_4,.slice A1_5 l1_5.length c1_5,.slice A1_6 l1_6.length c1_6]) (t:=33) ?hr ?_;(case hd=>rfl);(case hg=>rfl);(case hr=>first|(go_simp;done)|(go_simp;rfl));intro gb102 hg w22 hbox hb;have BK102:=U.mk (hbox);have GW102:=U.mk ((by rw[hg];exact(zq (by solve_by_elim (maxDepth:=20) only[HB.out,L,O,J,qz,GE101.out])):w.heap.size≤gb102));have GE102:=GW102;replace HB:=U.mk (qx (by solve_by_elim (maxDepth:=20) only[HB.out,L,O,J,qz,GE101.out]) hb);have NB101_102:=U.mk ((by rw[hg];exact Nat.ne_of_lt (blk_lt (by solve_by_elim only[BK101.out,qk,qv,qj])):gb101≠gb102));have NB102_101:=U.mk ((by rw[hg];exact Nat.ne_of_gt (blk_lt (by solve_by_elim only[BK101.out,qk,qv,qj])):gb102≠gb101));replace BK101:=U.mk (jx (by solve_by_elim only[BK101.out,qk,qv,qj]) hb);clear hb hbox hg;have hnb23:=NB101_102.out;have hnc23:=NB102_101.out;obtain⟨y24_0,y24_1,y24_2,y24_3,y24_4,y24_5,y24_6,z24_0,z24_1,z24_2,z24_3,z24_4,z24_5,z24_6⟩:=bx7f BK101.out;obtain⟨y25_0,y25_1,y25_2,y25_3,y25_4,y25_5,y25_6,z25_0,z25_1,z25_2,z25_3,z25_4,z25_5,z25_6⟩:=bx7f BK102.out)|((with_reducible refine zx (f:=29) rfl ?_);refine goesL_ (some 14) rfl rfl Tryz.func29 (by kernel_rfl) rfl #[.agg #[.int .i64 a0_1,.int .i64 a0_2,.string a0_3,.string a0_4],.agg #[.int .i64 a1_1,.int .i64 a1_2,.string a1_3,.string a1_4]] rfl (by(try simp only[jq0,jq1,jq2]);first|done|rfl|(simp only[jq3,jq4];rfl)) ?_;(with_reducible refine(qzj.calls a0_1 a0_2 a0_3 a0_4 a1_1 a1_2 a1_3 a1_4 true _ A4.out).mono ?_);rintro e w26 ⟨rfl,hb⟩;refine⟨_,rfl,?_⟩;replace BK101:=U.mk (jx (by solve_by_elim only[BK101.out,qk,qv,qj]) hb);replace BK102:=U.mk (jx (by solve_by_elim only[BK102.out,qk,qv,qj]) hb);replace HB:=U.mk (qx (by repeat(first|(with_reducible first|exact HB.out|apply L|apply O|apply J|refine qz ?_ GE101.out|refine qz ?_ GE102.out)|exact HB.out)) hb);(try clear hb);obtain⟨y27_0,y27_1,y27_2,y27_3,y27_4,y27_5,y27_6,z27_0,z27_1,z27_2,z27_3,z27_4,z27_5,z27_6⟩:=bx7f BK101.out;obtain⟨y28_0,y28_1,y28_2,y28_3,y28_4,y28_5,y28_6,z28_0,z28_1,z28_2,z28_3,z28_4,z28_5,z28_6⟩:=bx7f BK102.out)|((with_reducible refine zx (f:=30) rfl ?_);refine goesL_ (some 20) rfl rfl Tryz.func30 (by kernel_rfl) rfl #[.slice A0_5 l0_5.length c0_5,.slice A1_5 l1_5.length c1_5] rfl (by(try simp only[jq0,jq1,jq2]);first|done|rfl|(simp only[jq3,jq4];rfl)) ?_;(with_reducible refine(qzk.calls k _ _ l0_5 _ _ l1_5 true _ ?side1 ?side2 ?side3 ?side4 A6.out).mono ?_);(case side1=>solve_by_elim only[(Kd.C_below HR0_5.out HB.out),Kd.C_alloc,Kd.C_drewN,Kd.C_drew]);(case side2=>exact HC0_5.out);(case side3=>solve_by_elim only[(Kd.C_below HR1_5.out HB.out),Kd.C_alloc,Kd.C_drewN,Kd.C_drew]);(case side4=>exact HC1_5.out);rintro e w29 ⟨rfl,hb⟩;refine⟨_,rfl,?_⟩;replace BK101:=U.mk (jx (by solve_by_elim only[BK101.out,qk,qv,qj]) hb);replace BK102:=U.mk (jx (by solve_by_elim only[BK102.out,qk,qv,qj]) hb);replace HB:=U.mk (qx (by repeat(first|(with_reducible first|exact HB.out|apply L|apply O|apply J|refine qz ?_ GE101.out|refine qz ?_ GE102.out)|exact HB.out)) hb);(try clear hb);obtain⟨y30_0,y30_1,y30_2,y30_3,y30_4,y30_5,y30_6,z30_0,z30_1,z30_2,z30_3,z30_4,z30_5,z30_6⟩:=bx7f BK101.out;obtain⟨y31_0,y31_1,y31_2,y31_3,y31_4,y31_5,y31_6,z31_0,z31_1,z31_2,z31_3,z31_4,z31_5,z31_6⟩:=bx7f BK102.out)|((with_reducible refine zx (f:=31) rfl ?_);refine goesL_ (some 26) rfl rfl Tryz.func31 (by kernel_rfl) rfl #[.slice A0_6 l0_6.length c0_6,.slice A1_6 l1_6.length c1_6] rfl (by(try simp only[jq0,jq1,jq2]);first|done|rfl|(simp only[jq3,jq4];rfl)) ?_;(with_reducible refine(qzv.calls k _ _ l0_6 _ _ l1_6 false _ ?side1 ?side2 ?side3 ?side4 A8.out).mono ?_);(case side1=>solve_by_elim only[(Kd.C_below HR0_6.out HB.out),Kd.C_alloc,Kd.C_drewN,Kd.C_drew]);(case side2=>exact HC0_6.out);(case side3=>solve_by_elim only[(Kd.C_below HR1_6.out HB.out),Kd.C_alloc,Kd.C_drewN,Kd.C_drew]);(case side4=>exact HC1_6.out);rintro e w' ⟨rfl,⟨nd,rfl⟩⟩;refine⟨_,rfl,?_⟩))
     go_ret
     exact⟨by first|rfl|(simp[*,zw,zv] <;> rfl),by repeat(first|(with_reducible first|exact HB.out|apply L|apply O|apply J|refine qz ?_ GE101.out|refine qz ?_ GE102.out)|exact HB.out)⟩
   ·replace c7:=jq9.mpr c7;subst c7;have H1:(some false)=some r:=by rw[if_neg (show ¬ (false=true) by decide)] at H;exact H
    clear H;have H:=H1;clear H1;obtain rfl:=Option.some.inj H;go_enter Tryz.func8,Tryz.ntmps8;go_wp2_with (first|((with_reducible refine gate_dst (N:=2) rfl ?_);refine box_event ?hg (N:=2) ?hd (cs:=#[.int .i64 a0_0,.int .i64 a0_1,.int .i64 a0_2,.string a0_3,.string a0_4,.slice A0_5 l0_5.length c0_5,.slice A0_6 l0_6.length c0_6]) (t:=33) ?hr ?_;(case hd=>rfl);(case hg=>rfl);(case hr=>first|(go_simp;done)|(go_simp;rfl));intro gb101 hg w32 hbox hb;have BK101:=U.mk (hbox);have GW101:=U.mk ((by rw[hg];exact(zq (by solve_by_elim only[HB.out,L,O,J])):w.heap.size≤gb101));have GE101:=GW101;replace HB:=U.mk (qx (by solve_by_elim only[HB.out,L,O,J]) hb);clear hb hbox hg)|((with_reducible refine gate_dst (N:=3) rfl ?_);refine box_event ?hg (N:=3) ?hd (cs:=#[.int .i64 a1_0,.int .i64 a1_1,.int .i64 a1_2,.string a1_3,.string a1_4,.slice A1_5 l1_5.length c1_5,.slice A1_6 l1_6.length c1_6]) (t:=33) ?hr ?_;(case hd=>rfl);(case hg=>rfl);(case hr=>first|(go_simp;done)|(go_simp;rfl));intro gb102 hg w33 hbox hb;have BK102:=U.mk (hbox);have GW102:=U.mk ((by rw[hg];exact(zq (by solve_by_elim (maxDepth:=20) only[HB.out,L,O,J,qz,GE101.out])):w.heap.size≤gb102));have GE102:=GW102;replace HB:=U.mk (qx (by solve_by_elim (maxDepth:=20) only[HB.out,L,O,J,qz,GE101.out]) hb);have NB101_102:=U.mk ((by rw[hg];exact Nat.ne_of_lt (blk_lt (by solve_by_elim only[BK101.out,qk,qv,qj])):gb101≠gb102));have NB102_101:=U.mk ((by rw[hg];exact Nat.ne_of_gt (blk_lt (by solve_by_elim only[BK101.out,qk,qv,qj])):gb102≠gb101));replace BK101:=U.mk (jx (by solve_by_elim only[BK101.out,qk,qv,qj]) hb);clear hb hbox hg;have hnb34:=NB101_102.out;have hnc34:=NB102_101.out;obtain⟨y35_0,y35_1,y35_2,y35_3,y35_4,y35_5,y35_6,z35_0,z35_1,z35_2,z35_3,z35_4,z35_5,z35_6⟩:=bx7f BK101.out;obtain⟨y36_0,y36_1,y36_2,y36_3,y36_4,y36_5,y36_6,z36_0,z36_1,z36_2,z36_3,z36_4,z36_5,z36_6⟩:=bx7f BK102.out)|((with_reducible refine zx (f:=29) rfl ?_);refine goesL_ (some 14) rfl rfl Tryz.func29 (by kernel_rfl) rfl #[.agg #[.int .i64 a0_1,.int .i64 a0_2,.string a0_3,.string a0_4],.agg #[.int .i64 a1_1,.int .i64 a1_2,.string a1_3,.string a1_4]] rfl (by(try simp only[jq0,jq1,jq2]);first|done|rfl|(simp only[jq3,jq4];rfl)) ?_;(with_reducible refine(qzj.calls a0_1 a0_2 a0_3 a0_4 a1_1 a1_2 a1_3 a1_4 true _ A4.out).mono ?_);rintro e w37 ⟨rfl,hb⟩;refine⟨_,rfl,?_⟩;replace BK101:=U.mk (jx (by solve_by_elim only[BK101.out,qk,qv,qj]) hb);replace BK102:=U.mk (jx (by solve_by_elim only[BK102.out,qk,qv,qj]) hb);replace HB:=U.mk (qx (by repeat(first|(with_reducible first|exact HB.out|apply L|apply O|apply J|refine qz ?_ GE101.out|refine qz ?_ GE102.out)|exact HB.out)) hb);(try clear hb);obtain⟨y38_0,y38_1,y38_2,y38_3,y38_4,y38_5,y38_6,z38_0,z38_1,z38_2,z38_3,z38_4,z38_5,z38_6⟩:=bx7f BK101.out;obtain⟨y39_0,y39_1,y39_2,y39_3,y39_4,y39_5,y39_6,z39_0,z39_1,z39_2,z39_3,z39_4,z39_5,z39_6⟩:=bx7f BK102.out)|((with_reducible refine zx (f:=30) rfl ?_);refine goesL_ (some 20) rfl rfl Tryz.func30 (by kernel_rfl) rfl #[.slice A0_5 l0_5.length c0_5,.slice A1_5 l1_5.length c1_5] rfl (by(try simp only[jq0,jq1,jq2]);first|done|rfl|(simp only[jq3,jq4];rfl)) ?_;(with_reducible refine(qzk.calls k _ _ l0_5 _ _ l1_5 false _ ?side1 ?side2 ?side3 ?side4 A6.out).mono ?_);(case side1=>solve_by_elim only[(Kd.C_below HR0_5.out HB.out),Kd.C_alloc,Kd.C_drewN,Kd.C_drew]);(case side2=>exact HC0_5.out);(case side3=>solve_by_elim only[(Kd.C_below HR1_5.out HB.out),Kd.C_alloc,Kd.C_drewN,Kd.C_drew]);(case side4=>exact HC1_5.out);rintro e w40 ⟨rfl,hb⟩;refine⟨_,rfl,?_⟩;replace BK101:=U.mk (jx (by solve_by_elim only[BK101.out,qk,qv,qj]) hb);replace BK102:=U.mk (jx (by solve_by_elim only[BK102.out,qk,qv,qj]) hb);replace HB:=U.mk (qx (by repeat(first|(with_reducible first|exact HB.out|apply L|apply O|apply J|refine qz ?_ GE101.out|refine qz ?_ GE102.out)|exact HB.out)) hb);(try clear hb)))
    go_ret
    exact⟨by first|rfl|(simp[*,zw,zv] <;> rfl),by repeat(first|(with_reducible first|exact HB.out|apply L|apply O|apply J|refine qz ?_ GE101.out|refine qz ?_ GE102.out)|exact HB.out)⟩
  ·replace c5:=jq9.mpr c5;subst c5;have H1:(some false)=some r:=by rw[if_neg (show ¬ (false=true) by decide)] at H;exact H
   clear H;have H:=H1;clear H1;obtain rfl:=Option.some.inj H;go_enter Tryz.func8,Tryz.ntmps8;go_wp2_with (first|((with_reducible refine gate_dst (N:=2) rfl ?_);refine box_event ?hg (N:=2) ?hd (cs:=#[.int .i64 a0_0,.int .i64 a0_1,.int .i64 a0_2,.string a0_3,.string a0_4,.slice A0_5 l0_5.length c0_5,.slice A0_6 l0_6.length c0_6]) (t:=33) ?hr ?_;(case hd=>rfl);(case hg=>rfl);(case hr=>first|(go_simp;done)|(go_simp;rfl));intro gb101 hg w41 hbox hb;have BK101:=U.mk (hbox);have GW101:=U.mk ((by rw[hg];exact(zq (by solve_by_elim only[HB.out,L,O,J])):w.heap.size≤gb101));have GE101:=GW101;replace HB:=U.mk (qx (by solve_by_elim only[HB.out,L,O,J]) hb);clear hb hbox hg)|((with_reducible refine gate_dst (N:=3) rfl ?_);refine box_event ?hg (N:=3) ?hd (cs:=#[.int .i64 a1_0,.int .i64 a1_1,.int .i64 a1_2,.string a1_3,.string a1_4,.slice A1_5 l1_5.length c1_5,.slice A1_6 l1_6.length c1_6]) (t:=33) ?hr ?_;(case hd=>rfl);(case hg=>rfl);(case hr=>first|(go_simp;done)|(go_simp;rfl));intro gb102 hg w42 hbox hb;have BK102:=U.mk (hbox);have GW102:=U.mk ((by rw[hg];exact(zq (by solve_by_elim (maxDepth:=20) only[HB.out,L,O,J,qz,GE101.out])):w.heap.size≤gb102));have GE102:=GW102;replace HB:=U.mk (qx (by solve_by_elim (maxDepth:=20) only[HB.out,L,O,J,qz,GE101.out]) hb);have NB101_102:=U.mk ((by rw[hg];exact Nat.ne_of_lt (blk_lt (by solve_by_elim only[BK101.out,qk,qv,qj])):gb101≠gb102));have NB102_101:=U.mk ((by rw[hg];exact Nat.ne_of_gt (blk_lt (by solve_by_elim only[BK101.out,qk,qv,qj])):gb102≠gb101));replace BK101:=U.mk (jx (by solve_by_elim only[BK101.out,qk,qv,qj]) hb);clear hb hbox hg;have hnb43:=NB101_102.out;have hnc43:=NB102_101.out;obtain⟨y44_0,y44_1,y44_2,y44_3,y44_4,y44_5,y44_6,z44_0,z44_1,z44_2,z44_3,z44_4,z44_5,z44_6⟩:=bx7f BK101.out;obtain⟨y45_0,y45_1,y45_2,y45_3,y45_4,y45_5,y45_6,z45_0,z45_1,z45_2,z45_3,z45_4,z45_5,z45_6⟩:=bx7f BK102.out)|((with_reducible refine zx (f:=29) rfl ?_);refine goesL_ (some 14) rfl rfl Tryz.func29 (by kernel_rfl) rfl #[.agg #[.int .i64 a0_1,.int .i64 a0_2,.string a0_3,.string a0_4],.agg #[.int .i64 a1_1,.int .i64 a1_2,.string a1_3,.string a1_4]] rfl (by(try simp only[jq0,jq1,jq2]);first|done|rfl|(simp only[jq3,jq4];rfl)) ?_;(with_reducible refine(qzj.calls a0_1 a0_2 a0_3 a0_4 a1_1 a1_2 a1_3 a1_4 false _ A4.out).mono ?_);rintro e w46 ⟨rfl,hb⟩;refine⟨_,rfl,?_⟩;replace BK101:=U.mk (jx (by solve_by_elim only[BK101.out,qk,qv,qj]) hb);replace BK102:=U.mk (jx (by solve_by_elim only[BK102.out,qk,qv,qj]) hb);replace HB:=U.mk (qx (by repeat(first|(with_reducible first|exact HB.out|apply L|apply O|apply J|refine qz ?_ GE101.out|refine qz ?_ GE102.out)|exact HB.out)) hb);(try clear hb)))
   go_ret
   exact⟨by first|rfl|(simp[*,zw,zv] <;> rfl),by repeat(first|(with_reducible first|exact HB.out|apply L|apply O|apply J|refine qz ?_ GE101.out|refine qz ?_ GE102.out)|exact HB.out)⟩
 ·rw[if_neg c3] at H;have c3b0:(a0_0 == a1_0)=false:=beq_eq_false_iff_ne.mpr c3;have c3b1:(a0_0 != a1_0)=true:=bne_iff_ne.mpr c3;obtain rfl:=Option.some.inj H;go_enter Tryz.func8,Tryz.ntmps8;go_wp2_with (first|((with_reducible refine gate_dst (N:=2) rfl ?_);refine box_event ?hg (N:=2) ?hd (cs:=#[.int .i64 a0_0,.int .i64 a0_1,.int .i64 a0_2,.string a0_3,.string a0_4,.slice A0_5 l0_5.length c0_5,.slice A0_6 l0_6.length c0_6]) (t:=33) ?hr ?_;(case hd=>rfl);(case hg=>rfl);(case hr=>first|(go_simp;done)|(go_simp;rfl));intro gb101 hg w47 hbox hb;have BK101:=U.mk (hbox);have GW101:=U.mk ((by rw[hg];exact(zq (by solve_by_elim only[HB.out,L,O,J])):w.heap.size≤gb101));have GE101:=GW101;replace HB:=U.mk (qx (by solve_by_elim only[HB.out,L,O,J]) hb);clear hb hbox hg)|((with_reducible refine gate_dst (N:=3) rfl ?_);refine box_event ?hg (N:=3) ?hd (cs:=#[.int .i64 a1_0,.int .i64 a1_1,.int .i64 a1_2,.string a1_3,.string a1_4,.slice A1_5 l1_5.length c1_5,.slice A1_6 l1_6.length c1_6]) (t:=33) ?hr ?_;(case hd=>rfl);(case hg=>rfl);(case hr=>first|(go_simp;done)|(go_simp;rfl));intro gb102 hg w48 hbox hb;have BK102:=U.mk (hbox);have GW102:=U.mk ((by rw[hg];exact(zq (by solve_by_elim (maxDepth:=20) only[HB.out,L,O,J,qz,GE101.out])):w.heap.size≤gb102));have GE102:=GW102;replace HB:=U.mk (qx (by solve_by_elim (maxDepth:=20) only[HB.out,L,O,J,qz,GE101.out]) hb);have NB101_102:=U.mk ((by rw[hg];exact Nat.ne_of_lt (blk_lt (by solve_by_elim only[BK101.out,qk,qv,qj])):gb101≠gb102));have NB102_101:=U.mk ((by rw[hg];exact Nat.ne_of_gt (blk_lt (by solve_by_elim only[BK101.out,qk,qv,qj])):gb102≠gb101));replace BK101:=U.mk (jx (by solve_by_elim only[BK101.out,qk,qv,qj]) hb);clear hb hbox hg;have hnb49:=NB101_102.out;have hnc49:=NB102_101.out;obtain⟨y50_0,y50_1,y50_2,y50_3,y50_4,y50_5,y50_6,z50_0,z50_1,z50_2,z50_3,z50_4,z50_5,z50_6⟩:=bx7f BK101.out;obtain⟨y51_0,y51_1,y51_2,y51_3,y51_4,y51_5,y51_6,z51_0,z51_1,z51_2,z51_3,z51_4,z51_5,z51_6⟩:=bx7f BK102.out))
  go_ret
  exact⟨by first|rfl|(simp[*,zw,zv] <;> rfl),by repeat(first|(with_reducible first|exact HB.out|apply L|apply O|apply J|refine qz ?_ GE101.out|refine qz ?_ GE102.out)|exact HB.out)⟩
def qzz.f (k:Nat) (a0:Int) (a1:ByteArray) (a2_0:Int) (a2_1:Int) (a2_2:Int) (a2_3:ByteArray) (a2_4:ByteArray) (l2_5:List (S23)) (l2_6:List ByteArray):Option (Bool):=if (a1.size:Int) > 1048576 then(some true) else((qjj.f k a2_0 a2_1 a2_2 a2_3 a2_4 l2_5 l2_6 1048576).bind fun t102=>(if t102 < 0 then(some true) else((qjx.f k a2_0 a2_1 a2_2 a2_3 a2_4 l2_5 l2_6).bind fun bt103=>((qkk.f k a0 a1 bt103.1 bt103.2.1 bt103.2.2.1 bt103.2.2.2.1 bt103.2.2.2.2.1 bt103.2.2.2.2.2.1 bt103.2.2.2.2.2.2).bind fun t114=>((qjx.f k a2_0 a2_1 a2_2 a2_3 a2_4 l2_5 l2_6).bind fun bt115=>((wv.f k a0 a1 bt115.1 bt115.2.1 bt115.2.2.1 bt115.2.2.2.1 bt115.2.2.2.2.1 bt115.2.2.2.2.2.1 bt115.2.2.2.2.2.2).bind fun t127=>(if t127.toList=t114.toList then((qjx.f k a2_0 a2_1 a2_2 a2_3 a2_4 l2_5 l2_6).bind fun bt128=>((qzw.f k bt115.1 bt115.2.1 bt115.2.2.1 bt115.2.2.2.1 bt115.2.2.2.2.1 bt115.2.2.2.2.2.1 bt115.2.2.2.2.2.2 bt128.1 bt128.2.1 bt128.2.2.1 bt128.2.2.2.1 bt128.2.2.2.2.1 bt128.2.2.2.2.2.1 bt128.2.2.2.2.2.2).bind fun t139=>(if t139=true then(some true) else(none)))) else(none))))))))
theorem qzz.calls (k:Nat) (a0:Int) (a1:ByteArray) (a2_0:Int) (a2_1:Int) (a2_2:Int) (a2_3:ByteArray) (a2_4:ByteArray) (A2_5:Option Addr) (c2_5:Nat) (l2_5:List (S23)) (A2_6:Option Addr) (c2_6:Nat) (l2_6:List ByteArray) (r:Bool) (w:World) (htab:TabW w) (hr2_5:Kd.C k23 w A2_5 l2_5.length l2_5) (hc2_5:l2_5.length≤c2_5) (hr2_6:Kd.C Kd.string w A2_6 l2_6.length l2_6) (hc2_6:l2_6.length≤c2_6) (h:qzz.f k a0 a1 a2_0 a2_1 a2_2 a2_3 a2_4 l2_5 l2_6=some r) :
  Calls Tryz.prog 3 #[.int .i64 a0,.string a1,.agg #[.int .i64 a2_0,.int .i64 a2_1,.int .i64 a2_2,.string a2_3,.string a2_4,.slice A2_5 l2_5.length c2_5,.slice A2_6 l2_6.length c2_6]] w fun e w'=>e=.returned (.bool r)∧Below w.heap.size w w':=by
 have HTAB:=U.mk htab;clear htab;have hu27:=Tryz.underlying27;have hu33:=Tryz.underlying33;have HR2_5:=U.mk hr2_5;have HC2_5:=U.mk hc2_5;clear hr2_5 hc2_5;have HR2_6:=U.mk hr2_6;have HC2_6:=U.mk hc2_6;clear hr2_6 hc2_6;have HB:=U.mk (Below.refl w.heap.size w);unfold qzz.f at h;have H:=h;clear h
 by_cases c4:(a1.size:Int) > 1048576
 ·rw[if_pos c4] at H;have c4b0:decide (1048576 < (a1.size:Int))=true:=decide_eq_true c4;have c4b1:decide (1048576 < a1.size)=true:=decide_eq_true (by omega);clear c4;obtain rfl:=Option.some.inj H;go_enter Tryz.func3,Tryz.ntmps3;go_wp2_with (first|((with_reducible refine gate_dst (N:=5) rfl ?_);refine box_event ?hg (N:=5) ?hd (cs:=#[.int .i64 a2_0,.int .i64 a2_1,.int .i64 a2_2,.string a2_3,.string a2_4,.slice A2_5 l2_5.length c2_5,.slice A2_6 l2_6.length c2_6]) (t:=27) ?hr ?_;(case hd=>rfl);(case hg=>rfl);(case hr=>first|(go_simp;done)|(go_simp;rfl));intro gb101 hg w5 hbox hb;have BK101:=U.mk (hbox);have GW101:=U.mk ((by rw[hg];exact(zq (by solve_by_elim only[HB.out,L,O,J])):w.heap.size≤gb101));have GE101:=GW101;replace HB:=U.mk (qx (by solve_by_elim only[HB.out,L,O,J]) hb);clear hb hbox hg))
  go_ret
  exact⟨by first|rfl|(simp[*,zw,zv] <;> rfl),by solve_by_elim (maxDepth:=20) only[HB.out,L,O,J,qz,GE101.out]⟩
 ·rw[if_neg c4] at H;have c4b0:decide (1048576 < (a1.size:Int))=false:=decide_eq_false c4;have c4b1:decide (1048576 < a1.size)=false:=decide_eq_false (by omega);clear c4;replace H:=jq8.mp H;obtain⟨t102,A60,H⟩:=H;try dsimp only at H
  have A6:=U.mk A60;clear A60
  by_cases c7:t102 < 0
  ·rw[if_pos c7] at H;have c7b0:decide (t102 < 0)=true:=decide_eq_true c7;clear c7;obtain rfl:=Option.some.inj H;go_enter Tryz.func3,Tryz.ntmps3;go_wp2_with (first|((with_reducible refine gate_dst (N:=5) rfl ?_);refine box_event ?hg (N:=5) ?hd (cs:=#[.int .i64 a2_0,.int .i64 a2_1,.int .i64 a2_2,.string a2_3,.string a2_4,.slice A2_5 l2_5.length c2_5,.slice A2_6 l2_6.length c2_6]) (t:=27) ?hr ?_;(case hd=>rfl);(case hg=>rfl);(case hr=>first|(go_simp;done)|(go_simp;rfl));intro gb101 hg w8 hbox hb;have BK101:=U.mk (hbox);have GW101:=U.mk ((by rw[hg];exact(zq (by solve_by_elim only[HB.out,L,O,J])):w.heap.size≤gb101));have GE101:=GW101;replace HB:=U.mk (qx (by solve_by_elim only[HB.out,L,O,J]) hb);clear hb hbox hg;obtain⟨y9_0,y9_1,y9_2,y9_3,y9_4,y9_5,y9_6,z9_0,z9_1,z9_2,z9_3,z9_4,z9_5,z9_6⟩:=bx7f BK101.out)|((with_reducible refine zx (f:=4) rfl ?_);refine goesL_ (some 16) rfl rfl Tryz.func4 (by kernel_rfl) rfl #[.agg #[.int .i64 a2_0,.int .i64 a2_1,.int .i64 a2_2,.string a2_3,.string a2_4,.slice A2_5 l2_5.length c2_5,.slice A2_6 l2_6.length c2_6],.int .i64 1048576] rfl (by(try simp only[jq0,jq1,jq2]);first|done|rfl|(simp only[jq3,jq4];rfl)) ?_;(with_reducible refine(qjj.calls k a2_0 a2_1 a2_2 a2_3 a2_4 _ _ l2_5 _ _ l2_6 1048576 t102 _ ?side1 ?side2 ?side3 ?side4 A6.out).mono ?_);(case side1=>solve_by_elim only[(Kd.C_below HR2_5.out HB.out),Kd.C_alloc,Kd.C_drewN,Kd.C_drew]);(case side2=>exact HC2_5.out);(case side3=>solve_by_elim only[(Kd.C_below HR2_6.out HB.out),Kd.C_alloc,Kd.C_drewN,Kd.C_drew]);(case side4=>exact HC2_6.out);rintro e w10 ⟨rfl,hb⟩;refine⟨_,rfl,?_⟩;replace BK101:=U.mk (jx (by solve_by_elim only[BK101.out,qk,qv,qj]) hb);replace HB:=U.mk (qx (by solve_by_elim (maxDepth:=20) only[HB.out,L,O,J,qz,GE101.out]) hb);(try clear hb)))
   go_ret
   exact⟨by first|rfl|(simp[*,zw,zv] <;> rfl),by solve_by_elim (maxDepth:=20) only[HB.out,L,O,J,qz,GE101.out]⟩
  ·rw[if_neg c7] at H;have c7b0:decide (t102 < 0)=false:=decide_eq_false c7;clear c7;replace H:=jq8.mp H;obtain⟨⟨t103,t104,t105,t106,t107,t108,t111⟩,A110,H⟩:=H;try dsimp only at H
   have A11:=U.mk A110;clear A110;replace H:=jq8.mp H;obtain⟨t114,A120,H⟩:=H;try dsimp only at H
   have A12:=U.mk A120;clear A120;replace H:=jq8.mp H;obtain⟨⟨t115,t116,t117,t118,t119,t120,t123⟩,A130,H⟩:=H;try dsimp only at H
   have A13:=U.mk A130;clear A130;replace H:=jq8.mp H;obtain⟨t127,A140,H⟩:=H;try dsimp only at H
   have A14:=U.mk A140;clear A140
   by_cases c15:t127.toList=t114.toList
   ·rw[if_pos c15] at H;have c15b0:(t127.toList == t114.toList)=true:=beq_iff_eq.mpr c15;have c15b1:(t127.toList != t114.toList)=false:=bne_eq_false_iff_eq.mpr c15;clear c15;replace H:=jq8.mp H;obtain⟨⟨t128,t129,t130,t131,t132,t133,t136⟩,A160,H⟩:=H;try dsimp only at H
    have A16:=U.mk A160;clear A160;replace H:=jq8.mp H;obtain⟨t139,A170,H⟩:=H;try dsimp only at H
    have A17:=U.mk A170;clear A170
    by_cases c18:t139=true
    ·subst c18;have H1:(some true)=some r:=by rw[if_pos rfl] at H;exact H
     clear H;have H:=H1;clear H1;obtain rfl:=Option.some.inj H;go_enter Tryz.func3,Tryz.ntmps3;try go_wp2_with (first|((with_reducible refine gate_dst (N:=5) rfl ?_);refine box_event ?hg (N:=5) ?hd (cs:=#[.int .i64 a2_0,.int .i64 a2_1,.int .i64 a2_2,.string a2_3,.string a2_4,.slice A2_5 l2_5.length c2_5,.slice A2_6 l2_6.length c2_6]) (t:=27) ?hr ?_;(case hd=>rfl);(case hg=>rfl);(case hr=>first|(go_simp;done)|(go_simp;rfl));intro gb101 hg w19 hbox hb;have BK101:=U.mk (hbox);have GW101:=U.mk ((by rw[hg];exact(zq (by solve_by_elim only[HB.out,L,O,J])):w.heap.size≤gb101));have GE101:=GW101;replace HB:=U.mk (qx (by solve_by_elim only[HB.out,L,O,J]) hb);clear hb hbox hg;obtain⟨y20_0,y20_1,y20_2,y20_3,y20_4,y20_5,y20_6,z20_0,z20_1,z20_2,z20_3,z20_4,z20_5,z20_6⟩:=bx7f BK101.out)|((with_reducible refine zx (f:=4) rfl ?_);refine goesL_ (some 16) rfl rfl Tryz.func4 (by kernel_rfl) rfl #[.agg #[.int .i64 a2_0,.int .i64 a2_1,.int .i64 a2_2,.string a2_3,.string a2_4,.slice A2_5 l2_5.length c2_5,.slice A2_6 l2_6.length c2_6],.int .i64 1048576] rfl (by(try simp only[jq0,jq1,jq2]);first|done|rfl|(simp only[jq3,jq4];rfl)) ?_;(with_reducible refine(qjj.calls k a2_0 a2_1 a2_2 a2_3 a2_4 _ _ l2_5 _ _ l2_6 1048576 t102 _ ?side1 ?side2 ?side3 ?side4 A6.out).mono ?_);(case side1=>solve_by_elim only[(Kd.C_below HR2_5.out HB.out),Kd.C_alloc,Kd.C_drewN,Kd.C_drew]);(case side2=>exact HC2_5.out);(case side3=>solve_by_elim only[(Kd.C_below HR2_6.out HB.out),Kd.C_alloc,Kd.C_drewN,Kd.C_drew]);(case side4=>exact HC2_6.out);rintro e w21 ⟨rfl,hb⟩;refine⟨_,rfl,?_⟩;replace BK101:=U.mk (jx (by solve_by_elim only[BK101.out,qk,qv,qj]) hb);replace HB:=U.mk (qx (by solve_by_elim (maxDepth:=20) only[HB.out,L,O,J,qz,GE101.out]) hb);(try clear hb);obtain⟨y22_0,y22_1,y22_2,y22_3,y22_4,y22_5,y22_6,z22_0,z22_1,z22_2,z22_3,z22_4,z22_5,z22_6⟩:=bx7f BK101.out)|((with_reducible refine zx (f:=6) rfl ?_);refine goesL_ (some 22) rfl rfl Tryz.func6 (by kernel_rfl) rfl #[.agg #[.int .i64 a2_0,.int .i64 a2_1,.int .i64 a2_2,.string a2_3,.string a2_4,.slice A2_5 l2_5.length c2_5,.slice A2_6 l2_6.length c2_6]] rfl (by(try simp only[jq0,jq1,jq2]);first|done|rfl|(simp only[jq3,jq4];rfl)) ?_;(with_reducible refine(qjx.calls k a2_0 a2_1 a2_2 a2_3 a2_4 _ _ l2_5 _ _ l2_6 t103 t104 t105 t106 t107 t108 t111 _ ?side1 ?side2 ?side3 ?side4 A11.out).mono ?_);(case side1=>solve_by_elim only[(Kd.C_below HR2_5.out HB.out),Kd.C_alloc,Kd.C_drewN,Kd.C_drew]);(case side2=>exact HC2_5.out);(case side3=>solve_by_elim only[(Kd.C_below HR2_6.out HB.out),Kd.C_alloc,Kd.C_drewN,Kd.C_drew]);(case side4=>exact HC2_6.out);rintro e w23 ⟨v109,v112,rfl,ho0,ho1,hb⟩;refine⟨_,rfl,?_⟩;have HO110:=U.mk (Kd.R_lower ho0 (zq (by solve_by_elim (maxDepth:=20) only[HB.out,L,O,J,qz,GE101.out])));have HO113:=U.mk (Kd.R_lower ho1 (zq (by solve_by_elim (maxDepth:=20) only[HB.out,L,O,J,qz,GE101.out])));replace BK101:=U.mk (jx (by solve_by_elim only[BK101.out,qk,qv,qj]) hb);replace HB:=U.mk (qx (by solve_by_elim (maxDepth:=20) only[HB.out,L,O,J,qz,GE101.out]) hb);(try clear hb ho0 ho1);obtain⟨Ao24,co24,eo24⟩:=Kd.R_slice HO110.out;subst eo24;obtain⟨Ao25,co25,eo25⟩:=Kd.R_slice HO113.out;subst eo25)|((with_reducible refine zx (f:=5) rfl ?_);refine goesL_ (some 23) rfl rfl Tryz.func5 (by kernel_rfl) rfl #[.int .i64 a0,.string a1,.agg #[.int .i64 t103,.int .i64 t104,.int .i64 t105,.string t106,.string t107,.slice Ao24 t108.length co24,.slice Ao25 t111.length co25]] rfl (by(try simp only[jq0,jq1,jq2]);first|done|rfl|(simp only[jq3,jq4];rfl)) ?_;(with_reducible refine(qkk.calls k a0 a1 t103 t104 t105 t106 t107 _ _ t108 _ _ t111 t114 _ ?side1 ?side2 ?side3 ?side4 A12.out).mono ?_);(case side1=>solve_by_elim only[(Kd.R_reads' HO110.out).2.2,Kd.C_alloc,Kd.C_drewN,Kd.C_drew]);(case side2=>exact(Kd.R_reads' HO110.out).2.1);(case side3=>solve_by_elim only[(Kd.R_reads' HO113.out).2.2,Kd.C_alloc,Kd.C_drewN,Kd.C_drew]);(case side4=>exact(Kd.R_reads' HO113.out).2.1);rintro e w26 ⟨rfl,hb⟩;refine⟨_,rfl,?_⟩;replace HO110:=U.mk (Kd.R_below (by solve_by_elim only[HO110.out,Kd.zj,Kd.zz,Kd.zk]) hb);replace HO113:=U.mk (Kd.R_below (by solve_by_elim only[HO113.out,Kd.zj,Kd.zz,Kd.zk]) hb);replace BK101:=U.mk (jx (by solve_by_elim only[BK101.out,qk,qv,qj]) hb);replace HB:=U.mk (qx (by solve_by_elim (maxDepth:=20) only[HB.out,L,O,J,qz,GE101.out]) hb);(try clear hb);obtain⟨y27_0,y27_1,y27_2,y27_3,y27_4,y27_5,y27_6,z27_0,z27_1,z27_2,z27_3,z27_4,z27_5,z27_6⟩:=bx7f BK101.out)|((with_reducible refine zx (f:=6) rfl ?_);refine goesL_ (some 25) rfl rfl Tryz.func6 (by kernel_rfl) rfl #[.agg #[.int .i64 a2_0,.int .i64 a2_1,.int .i64 a2_2,.string a2_3,.string a2_4,.slice A2_5 l2_5.length c2_5,.slice A2_6 l2_6.length c2_6]] rfl (by(try simp only[jq0,jq1,jq2]);first|done|rfl|(simp only[jq3,jq4];rfl)) ?_;(with_reducible refine(qjx.calls k a2_0 a2_1 a2_2 a2_3 a2_4 _ _ l2_5 _ _ l2_6 t115 t116 t117 t118 t119 t120 t123 _ ?side1 ?side2 ?side3 ?side4 A13.out).mono ?_);(case side1=>solve_by_elim only[(Kd.C_below HR2_5.out HB.out),Kd.C_alloc,Kd.C_drewN,Kd.C_drew]);(case side2=>exact HC2_5.out);(case side3=>solve_by_elim only[(Kd.C_below HR2_6.out HB.out),Kd.C_alloc,Kd.C_drewN,Kd.C_drew]);(case side4=>exact HC2_6.out);rintro e w28 ⟨v121,v124,rfl,ho0,ho1,hb⟩;refine⟨_,rfl,?_⟩;have HO122:=U.mk (Kd.R_lower (Kd.R_new' ho0 (Kd.R_lt (by solve_by_elim only[HO110.out,Kd.zj,Kd.zz,Kd.zk]))) (zq (by solve_by_elim (maxDepth:=20) only[HB.out,L,O,J,qz,GE101.out])));replace HO110:=U.mk (Kd.R_elder' (by solve_by_elim only[HO110.out,Kd.zj,Kd.zz,Kd.zk]) (Kd.R_base ho0) hb);have HO125:=U.mk (Kd.R_lower (Kd.R_new' ho1 (Kd.R_lt (by solve_by_elim only[HO113.out,Kd.zj,Kd.zz,Kd.zk]))) (zq (by solve_by_elim (maxDepth:=20) only[HB.out,L,O,J,qz,GE101.out])));replace HO113:=U.mk (Kd.R_elder' (by solve_by_elim only[HO113.out,Kd.zj,Kd.zz,Kd.zk]) (Kd.R_base ho1) hb);replace BK101:=U.mk (jx (by solve_by_elim only[BK101.out,qk,qv,qj]) hb);replace HB:=U.mk (qx (by solve_by_elim (maxDepth:=20) only[HB.out,L,O,J,qz,GE101.out]) hb);(try clear hb ho0 ho1))|((with_reducible refine gate_dst (N:=9) rfl ?_);refine box_event ?hg (N:=9) ?hd (cs:=#[.int .i64 0,.int .i64 0,.int .i64 0,.string (⟨#[]⟩ : ByteArray),.string (⟨#[]⟩ : ByteArray),.slice none 0 0,.slice none 0 0]) (t:=33) ?hr ?_;(case hd=>rfl);(case hg=>rfl);(case hr=>first|(go_simp;done)|(go_simp;rfl));intro gb126 hg w29 hbox hb;replace HO110:=U.mk (Kd.R_below (by solve_by_elim only[HO110.out,Kd.zj,Kd.zz,Kd.zk]) hb);replace HO113:=U.mk (Kd.R_below (by solve_by_elim only[HO113.out,Kd.zj,Kd.zz,Kd.zk]) hb);replace HO122:=U.mk (Kd.R_below (by solve_by_elim only[HO122.out,Kd.zj,Kd.zz,Kd.zk]) hb);replace HO125:=U.mk (Kd.R_below (by solve_by_elim only[HO125.out,Kd.zj,Kd.zz,Kd.zk]) hb);have BK126:=U.mk (hbox);have GW126:=U.mk ((by rw[hg];exact(zq (by solve_by_elim (maxDepth:=20) only[HB.out,L,O,J,qz,GE101.out])):w.heap.size≤gb126));have GE126:=GW126;replace HB:=U.mk (qx (by solve_by_elim (maxDepth:=20) only[HB.out,L,O,J,qz,GE101.out]) hb);have NB101_126:=U.mk ((by rw[hg];exact Nat.ne_of_lt (blk_lt (by solve_by_elim only[BK101.out,qk,qv,qj])):gb101≠gb126));have NB126_101:=U.mk ((by rw[hg];exact Nat.ne_of_gt (blk_lt (by solve_by_elim only[BK101.out,qk,qv,qj])):gb126≠gb101));replace BK101:=U.mk (jx (by solve_by_elim only[BK101.out,qk,qv,qj]) hb);clear hb hbox hg;have hnb30:=NB126_101.out;have hnc30:=NB101_126.out;obtain⟨y31_0,y31_1,y31_2,y31_3,y31_4,y31_5,y31_6,z31_0,z31_1,z31_2,z31_3,z31_4,z31_5,z31_6⟩:=bx7f BK126.out;obtain⟨Ao32,co32,eo32⟩:=Kd.R_slice HO122.out;subst eo32;obtain⟨Ao33,co33,eo33⟩:=Kd.R_slice HO125.out;subst eo33)|((with_reducible refine zx (f:=7) rfl ?_);refine goesL_ (some 29) rfl rfl Tryz.func7 (by kernel_rfl) rfl #[.int .i64 a0,.string a1,.agg #[.int .i64 t115,.int .i64 t116,.int .i64 t117,.string t118,.string t119,.slice Ao32 t120.length co32,.slice Ao33 t123.length co33]] rfl (by(try simp only[jq0,jq1,jq2]);first|done|rfl|(simp only[jq3,jq4];rfl)) ?_;(with_reducible refine(wv.calls k a0 a1 t115 t116 t117 t118 t119 _ _ t120 _ _ t123 t127 _ ?tabw ?side1 ?side2 ?side3 ?side4 A14.out).mono ?_);(case tabw=>first|(with_reducible first|exact HTAB.out|exact TabW_below HTAB.out HB.out)|exact TabW_below HTAB.out (by with_reducible repeat(first|exact HB.out|apply L|apply O|apply J|refine qz ?_ GE101.out|refine qz ?_ GE126.out))|(repeat(first|exact HTAB.out|exact TabW_below HTAB.out HB.out|(with_reducible refine TabW_drewN ?_ _)|(with_reducible refine TabW_drew ?_)|(with_reducible refine TabW_alloc ?_ _))));(case side1=>refine(Kd.R_reads' (e:=30) (base:=w.heap.size) (ok:=fun k_=>(True∧some k_≠(.slice Ao24 t108.length co24:Value).ownBlock)) (n:=t120.length) (c:=co32) ?_).2.2;exact(by(with_reducible repeat(first|apply Kd.zj|apply Kd.zz|apply Kd.zk));exact(Kd.R_mono (Kd.R_far (p:=⟨gb126,6,none⟩) (Kd.R_far (p:=⟨gb126,5,none⟩) (Kd.R_far (p:=⟨gb126,4,none⟩) (Kd.R_far (p:=⟨gb126,3,none⟩) (Kd.R_far (p:=⟨gb126,2,none⟩) (Kd.R_far (p:=⟨gb126,1,none⟩) (Kd.R_far (p:=⟨gb126,0,none⟩) (Kd.R_types HO122.out BK126.out (by decide)) (fun _ hk=>hk.2) (.int .i64 t115)) (fun _ hk=>hk.2) (.int .i64 t116)) (fun _ hk=>hk.2) (.int .i64 t117)) (fun _ hk=>hk.2) (.string t118)) (fun _ hk=>hk.2) (.string t119)) (fun _ hk=>hk.2) (.slice Ao32 t120.length co32)) (fun _ hk=>hk.2) (.slice Ao33 t123.length co33)) (fun _ h_=>h_.1))));(case side2=>exact(Kd.R_reads' HO122.out).2.1);(case side3=>refine(Kd.R_reads' (e:=9) (base:=w.heap.size) (ok:=fun k_=>(True∧some k_≠(.slice Ao25 t111.length co25:Value).ownBlock)) (n:=t123.length) (c:=co33) ?_).2.2;exact(by(with_reducible repeat(first|apply Kd.zj|apply Kd.zz|apply Kd.zk));exact(Kd.R_mono (Kd.R_far (p:=⟨gb126,6,none⟩) (Kd.R_far (p:=⟨gb126,5,none⟩) (Kd.R_far (p:=⟨gb126,4,none⟩) (Kd.R_far (p:=⟨gb126,3,none⟩) (Kd.R_far (p:=⟨gb126,2,none⟩) (Kd.R_far (p:=⟨gb126,1,none⟩) (Kd.R_far (p:=⟨gb126,0,none⟩) (Kd.R_types HO125.out BK126.out (by decide)) (fun _ hk=>hk.2) (.int .i64 t115)) (fun _ hk=>hk.2) (.int .i64 t116)) (fun _ hk=>hk.2) (.int .i64 t117)) (fun _ hk=>hk.2) (.string t118)) (fun _ hk=>hk.2) (.string t119)) (fun _ hk=>hk.2) (.slice Ao32 t120.length co32)) (fun _ hk=>hk.2) (.slice Ao33 t123.length co33)) (fun _ h_=>h_.1))));(case side4=>exact(Kd.R_reads' HO125.out).2.1);rintro e w34 ⟨rfl,hb⟩;refine⟨_,rfl,?_⟩;replace HO110:=U.mk (Kd.R_below (by(with_reducible repeat(first|apply Kd.zj|apply Kd.zz|apply Kd.zk));exact(Kd.R_mono (Kd.R_far (p:=⟨gb126,6,none⟩) (Kd.R_far (p:=⟨gb126,5,none⟩) (Kd.R_far (p:=⟨gb126,4,none⟩) (Kd.R_far (p:=⟨gb126,3,none⟩) (Kd.R_far (p:=⟨gb126,2,none⟩) (Kd.R_far (p:=⟨gb126,1,none⟩) (Kd.R_far (p:=⟨gb126,0,none⟩) (Kd.R_types HO110.out BK126.out (by decide)) (fun _ hk=>hk.2) (.int .i64 t115)) (fun _ hk=>hk.2) (.int .i64 t116)) (fun _ hk=>hk.2) (.int .i64 t117)) (fun _ hk=>hk.2) (.string t118)) (fun _ hk=>hk.2) (.string t119)) (fun _ hk=>hk.2) (.slice Ao32 t120.length co32)) (fun _ hk=>hk.2) (.slice Ao33 t123.length co33)) (fun _ h_=>h_.1))) hb);replace HO113:=U.mk (Kd.R_below (by(with_reducible repeat(first|apply Kd.zj|apply Kd.zz|apply Kd.zk));exact(Kd.R_mono (Kd.R_far (p:=⟨gb126,6,none⟩) (Kd.R_far (p:=⟨gb126,5,none⟩) (Kd.R_far (p:=⟨gb126,4,none⟩) (Kd.R_far (p:=⟨gb126,3,none⟩) (Kd.R_far (p:=⟨gb126,2,none⟩) (Kd.R_far (p:=⟨gb126,1,none⟩) (Kd.R_far (p:=⟨gb126,0,none⟩) (Kd.R_types HO113.out BK126.out (by decide)) (fun _ hk=>hk.2) (.int .i64 t115)) (fun _ hk=>hk.2) (.int .i64 t116)) (fun _ hk=>hk.2) (.int .i64 t117)) (fun _ hk=>hk.2) (.string t118)) (fun _ hk=>hk.2) (.string t119)) (fun _ hk=>hk.2) (.slice Ao32 t120.length co32)) (fun _ hk=>hk.2) (.slice Ao33 t123.length co33)) (fun _ h_=>h_.1))) hb);replace HO122:=U.mk (Kd.R_below (by(with_reducible repeat(first|apply Kd.zj|apply Kd.zz|apply Kd.zk));exact(Kd.R_mono (Kd.R_far (p:=⟨gb126,6,none⟩) (Kd.R_far (p:=⟨gb126,5,none⟩) (Kd.R_far (p:=⟨gb126,4,none⟩) (Kd.R_far (p:=⟨gb126,3,none⟩) (Kd.R_far (p:=⟨gb126,2,none⟩) (Kd.R_far (p:=⟨gb126,1,none⟩) (Kd.R_far (p:=⟨gb126,0,none⟩) (Kd.R_types HO122.out BK126.out (by decide)) (fun _ hk=>hk.2) (.int .i64 t115)) (fun _ hk=>hk.2) (.int .i64 t116)) (fun _ hk=>hk.2) (.int .i64 t117)) (fun _ hk=>hk.2) (.string t118)) (fun _ hk=>hk.2) (.string t119)) (fun _ hk=>hk.2) (.slice Ao32 t120.length co32)) (fun _ hk=>hk.2) (.slice Ao33 t123.length co33)) (fun _ h_=>h_.1))) hb);replace HO125:=U.mk (Kd.R_below (by(with_reducible repeat(first|apply Kd.zj|apply Kd.zz|apply Kd.zk));exact(Kd.R_mono (Kd.R_far (p:=⟨gb126,6,none⟩) (Kd.R_far (p:=⟨gb126,5,none⟩) (Kd.R_far (p:=⟨gb126,4,none⟩) (Kd.R_far (p:=⟨gb126,3,none⟩) (Kd.R_far (p:=⟨gb126,2,none⟩) (Kd.R_far (p:=⟨gb126,1,none⟩) (Kd.R_far (p:=⟨gb126,0,none⟩) (Kd.R_types HO125.out BK126.out (by decide)) (fun _ hk=>hk.2) (.int .i64 t115)) (fun _ hk=>hk.2) (.int .i64 t116)) (fun _ hk=>hk.2) (.int .i64 t117)) (fun _ hk=>hk.2) (.string t118)) (fun _ hk=>hk.2) (.string t119)) (fun _ hk=>hk.2) (.slice Ao32 t120.length co32)) (fun _ hk=>hk.2) (.slice Ao33 t123.length co33)) (fun _ h_=>h_.1))) hb);replace BK101:=U.mk (jx (g:=gb101) (o:=.cells #[.int .i64 a2_0,.int .i64 a2_1,.int .i64 a2_2,.string a2_3,.string a2_4,.slice A2_5 l2_5.length c2_5,.slice A2_6 l2_6.length c2_6] 27 (0,0)) (by(with_reducible repeat(first|refine qk ?_ _|refine qv ?_|refine qj ?_ _));refine blk_far ?_ NB101_126.out _;(with_reducible repeat(first|refine qk ?_ _|refine qv ?_|refine qj ?_ _));refine blk_far ?_ NB101_126.out _;(with_reducible repeat(first|refine qk ?_ _|refine qv ?_|refine qj ?_ _));refine blk_far ?_ NB101_126.out _;(with_reducible repeat(first|refine qk ?_ _|refine qv ?_|refine qj ?_ _));refine blk_far ?_ NB101_126.out _;(with_reducible repeat(first|refine qk ?_ _|refine qv ?_|refine qj ?_ _));refine blk_far ?_ NB101_126.out _;(with_reducible repeat(first|refine qk ?_ _|refine qv ?_|refine qj ?_ _));refine blk_far ?_ NB101_126.out _;(with_reducible repeat(first|refine qk ?_ _|refine qv ?_|refine qj ?_ _));refine blk_far ?_ NB101_126.out _;(with_reducible repeat(first|refine qk ?_ _|refine qv ?_|refine qj ?_ _));exact BK101.out) hb);replace BK126:=U.mk (jx (g:=gb126) (o:=.cells #[.int .i64 t115,.int .i64 t116,.int .i64 t117,.string t118,.string t119,.slice Ao32 t120.length co32,.slice Ao33 t123.length co33] 33 (0,0)) (by(with_reducible repeat(first|refine qk ?_ _|refine qv ?_|refine qj ?_ _));refine blk_put (cs:=#[.int .i64 t115,.int .i64 t116,.int .i64 t117,.string t118,.string t119,.slice Ao32 t120.length co32,.slice none 0 0]) ?_ 6 _ rfl;(with_reducible repeat(first|refine qk ?_ _|refine qv ?_|refine qj ?_ _));refine blk_put (cs:=#[.int .i64 t115,.int .i64 t116,.int .i64 t117,.string t118,.string t119,.slice none 0 0,.slice none 0 0]) ?_ 5 _ rfl;(with_reducible repeat(first|refine qk ?_ _|refine qv ?_|refine qj ?_ _));refine blk_put (cs:=#[.int .i64 t115,.int .i64 t116,.int .i64 t117,.string t118,.string (⟨#[]⟩ : ByteArray),.slice none 0 0,.slice none 0 0]) ?_ 4 _ rfl;(with_reducible repeat(first|refine qk ?_ _|refine qv ?_|refine qj ?_ _));refine blk_put (cs:=#[.int .i64 t115,.int .i64 t116,.int .i64 t117,.string (⟨#[]⟩ : ByteArray),.string (⟨#[]⟩ : ByteArray),.slice none 0 0,.slice none 0 0]) ?_ 3 _ rfl;(with_reducible repeat(first|refine qk ?_ _|refine qv ?_|refine qj ?_ _));refine blk_put (cs:=#[.int .i64 t115,.int .i64 t116,.int .i64 0,.string (⟨#[]⟩ : ByteArray),.string (⟨#[]⟩ : ByteArray),.slice none 0 0,.slice none 0 0]) ?_ 2 _ rfl;(with_reducible repeat(first|refine qk ?_ _|refine qv ?_|refine qj ?_ _));refine blk_put (cs:=#[.int .i64 t115,.int .i64 0,.int .i64 0,.string (⟨#[]⟩ : ByteArray),.string (⟨#[]⟩ : ByteArray),.slice none 0 0,.slice none 0 0]) ?_ 1 _ rfl;(with_reducible repeat(first|refine qk ?_ _|refine qv ?_|refine qj ?_ _));refine blk_put (cs:=#[.int .i64 0,.int .i64 0,.int .i64 0,.string (⟨#[]⟩ : ByteArray),.string (⟨#[]⟩ : ByteArray),.slice none 0 0,.slice none 0 0]) ?_ 0 _ rfl;(with_reducible repeat(first|refine qk ?_ _|refine qv ?_|refine qj ?_ _));exact BK126.out) hb);replace HB:=U.mk (qx (by repeat(first|(with_reducible first|exact HB.out|apply L|apply O|apply J|refine qz ?_ GE101.out|refine qz ?_ GE126.out)|exact HB.out)) hb);(try clear hb)))
     replace HO110:=U.mk (Kd.zk HO110.out);replace HO113:=U.mk (Kd.zk HO113.out);replace HO122:=U.mk (Kd.zk HO122.out);replace HO125:=U.mk (Kd.zk HO125.out);replace BK101:=U.mk (qv BK101.out);replace BK126:=U.mk (qv BK126.out);replace HB:=U.mk (J HB.out);refine start_ (n:=5) (S:=fun w'=>w'.cell? ⟨gb126,0,none⟩ = some (.int .i64 t115)∧w'.cell? ⟨gb126,1,none⟩ = some (.int .i64 t116)∧w'.cell? ⟨gb126,2,none⟩ = some (.int .i64 t117)∧w'.cell? ⟨gb126,3,none⟩ = some (.string t118)∧w'.cell? ⟨gb126,4,none⟩ = some (.string t119)∧w'.cell? ⟨gb126,5,none⟩ = some (.slice Ao32 t120.length co32)∧w'.cell? ⟨gb126,6,none⟩ = some (.slice Ao33 t123.length co33)∧w'.cell? ⟨gb101,0,none⟩ = some (.int .i64 a2_0)∧w'.cell? ⟨gb101,1,none⟩ = some (.int .i64 a2_1)∧w'.cell? ⟨gb101,2,none⟩ = some (.int .i64 a2_2)∧w'.cell? ⟨gb101,3,none⟩ = some (.string a2_3)∧w'.cell? ⟨gb101,4,none⟩ = some (.string a2_4)∧w'.cell? ⟨gb101,5,none⟩ = some (.slice A2_5 l2_5.length c2_5)∧w'.cell? ⟨gb101,6,none⟩ = some (.slice A2_6 l2_6.length c2_6)) (ds:=[]) #[Y,Y,Y,Y,Y] (by kernel_rfl) rfl rfl ⟨(qq BK126.out 0).trans rfl,(qq BK126.out 1).trans rfl,(qq BK126.out 2).trans rfl,(qq BK126.out 3).trans rfl,(qq BK126.out 4).trans rfl,(qq BK126.out 5).trans rfl,(qq BK126.out 6).trans rfl,(qq BK101.out 0).trans rfl,(qq BK101.out 1).trans rfl,(qq BK101.out 2).trans rfl,(qq BK101.out 3).trans rfl,(qq BK101.out 4).trans rfl,(qq BK101.out 5).trans rfl,(qq BK101.out 6).trans rfl⟩ (fun hHeld=>?_);generalize w34.drew=w35 at HO110 HO113 HO122 HO125 BK101 BK126 HB hHeld ⊢;refine take_ (i:=0) (N:=some 33) (v:=?_) (a':=?_) #[Z,Y,Y,Y,Y] rfl rfl (by kernel_rfl) (fun _ _ _ h=>h) (Or.inl ⟨by rfl,?_⟩) hHeld ?_ ?_;rotate_left
     ·rintro w' ⟨s0,s1,s2,s3,s4,s5,s6,s7,s8,s9,s10,s11,s12,s13⟩
      go_simp
      with_reducible rfl
     rotate_left
     ·simp only[Act.put,jq5,jq6,jq7,i64_w,i32_w]
      rfl
     refine take_ (i:=1) (N:=some 34) (v:=?_) (a':=?_) #[Z,Z,Y,Y,Y] rfl rfl (by kernel_rfl) (fun _ _ _ h=>h) (Or.inl ⟨by rfl,?_⟩) hHeld ?_ ?_;rotate_left
     ·rintro w' ⟨s0,s1,s2,s3,s4,s5,s6,s7,s8,s9,s10,s11,s12,s13⟩
      go_simp
      with_reducible rfl
     rotate_left
     ·simp only[Act.put,jq5,jq6,jq7,i64_w,i32_w]
      rfl
     refine one_ (i:=2) (N:=some 35) #[Z,Z,Z,Y,Y] rfl rfl (by kernel_rfl) (by decide) (fun K hK=>?_);refine goes_ Tryz.func6 (by kernel_rfl) rfl #[.agg #[.int .i64 a2_0,.int .i64 a2_1,.int .i64 a2_2,.string a2_3,.string a2_4,.slice A2_5 l2_5.length c2_5,.slice A2_6 l2_6.length c2_6]] (by rfl) rfl rfl (by(try simp only[jq0,jq1,jq2]);first|done|rfl|(simp only[jq3,jq4];rfl)) ?_
     with_reducible refine(qjx.calls k a2_0 a2_1 a2_2 a2_3 a2_4 _ _ l2_5 _ _ l2_6 t128 t129 t130 t131 t132 t133 t136 _ ?side1 ?side2 ?side3 ?side4 A16.out).mono ?_
     (case side1=>solve_by_elim only[(Kd.C_below HR2_5.out HB.out),Kd.C_alloc,Kd.C_drewN,Kd.C_drew])
     (case side2=>exact HC2_5.out)
     (case side3=>solve_by_elim only[(Kd.C_below HR2_6.out HB.out),Kd.C_alloc,Kd.C_drewN,Kd.C_drew])
     (case side4=>exact HC2_6.out)
     rintro e w36 ⟨v134,v137,rfl,ho0,ho1,hb⟩
     refine⟨_,rfl,?_⟩;have HO135:=U.mk (Kd.R_lower (Kd.R_new' (Kd.R_new' ho0 (Kd.R_lt (by solve_by_elim only[HO110.out,Kd.zj,Kd.zz,Kd.zk]))) (Kd.R_lt (by solve_by_elim only[HO122.out,Kd.zj,Kd.zz,Kd.zk]))) (zq (by repeat(first|(with_reducible first|exact HB.out|apply L|apply O|apply J|refine qz ?_ GE101.out|refine qz ?_ GE126.out)|exact HB.out))));replace HO110:=U.mk (Kd.R_elder' (by solve_by_elim only[HO110.out,Kd.zj,Kd.zz,Kd.zk]) (Kd.R_base ho0) hb);replace HO122:=U.mk (Kd.R_elder' (by solve_by_elim only[HO122.out,Kd.zj,Kd.zz,Kd.zk]) (Kd.R_base ho0) hb);have HO138:=U.mk (Kd.R_lower (Kd.R_new' (Kd.R_new' ho1 (Kd.R_lt (by solve_by_elim only[HO113.out,Kd.zj,Kd.zz,Kd.zk]))) (Kd.R_lt (by solve_by_elim only[HO125.out,Kd.zj,Kd.zz,Kd.zk]))) (zq (by repeat(first|(with_reducible first|exact HB.out|apply L|apply O|apply J|refine qz ?_ GE101.out|refine qz ?_ GE126.out)|exact HB.out))));replace HO113:=U.mk (Kd.R_elder' (by solve_by_elim only[HO113.out,Kd.zj,Kd.zz,Kd.zk]) (Kd.R_base ho1) hb);replace HO125:=U.mk (Kd.R_elder' (by solve_by_elim only[HO125.out,Kd.zj,Kd.zz,Kd.zk]) (Kd.R_base ho1) hb);replace BK101:=U.mk (jx (by solve_by_elim only[BK101.out,qk,qv,qj]) hb);replace BK126:=U.mk (jx (by solve_by_elim only[BK126.out,qk,qv,qj]) hb);replace HB:=U.mk (qx (by repeat(first|(with_reducible first|exact HB.out|apply L|apply O|apply J|refine qz ?_ GE101.out|refine qz ?_ GE126.out)|exact HB.out)) hb)
     (try clear hb)
     (try clear hb2)
     (try clear hk)
     (try clear hi)
     (try clear ho0)
     (try clear ho1)
     obtain⟨Ao37,co37,eo37⟩:=Kd.R_slice HO135.out
     (first|subst eo37|(injection eo37 with f1_ f2_ f3_;have f4_:=f1_.symm;have f5_:=f3_.symm;clear f1_ f2_ f3_;subst f4_;subst f5_))
     obtain⟨Ao38,co38,eo38⟩:=Kd.R_slice HO138.out
     (first|subst eo38|(injection eo38 with f1_ f2_ f3_;have f4_:=f1_.symm;have f5_:=f3_.symm;clear f1_ f2_ f3_;subst f4_;subst f5_))
     refine hK.out _ _ (by(repeat' apply And.intro) <;> first|exact(qq BK126.out _).trans rfl|exact(qq BK101.out _).trans rfl) (fun hHeld=>?_);clear hK K;refine norm_ (a':=?_) ?_ ?_;rotate_left
     ·show Act.put _ (some 35) _=_
      simp only[Act.put,jq5,jq6,jq7,i64_w,i32_w]
      rfl
     refine one_ (i:=3) (N:=some 36) #[Z,Z,Z,Z,Y] rfl rfl (by kernel_rfl) (by decide) (fun K hK=>?_);refine goes_ Tryz.func8 (by kernel_rfl) rfl #[.agg #[.int .i64 t115,.int .i64 t116,.int .i64 t117,.string t118,.string t119,.slice Ao32 t120.length co32,.slice Ao33 t123.length co33],.agg #[.int .i64 t128,.int .i64 t129,.int .i64 t130,.string t131,.string t132,.slice Ao37 t133.length co37,.slice Ao38 t136.length co38]] (by rfl) rfl rfl (by(try simp only[jq0,jq1,jq2]);first|done|rfl|(simp only[jq3,jq4];rfl)) ?_
     with_reducible refine(qzw.calls k t115 t116 t117 t118 t119 _ _ t120 _ _ t123 t128 t129 t130 t131 t132 _ _ t133 _ _ t136 true _ ?side1 ?side2 ?side3 ?side4 ?side5 ?side6 ?side7 ?side8 A17.out).mono ?_
     (case side1=>solve_by_elim only[(Kd.R_reads' HO122.out).2.2,Kd.C_alloc,Kd.C_drewN,Kd.C_drew])
     (case side2=>exact(Kd.R_reads' HO122.out).2.1)
     (case side3=>solve_by_elim only[(Kd.R_reads' HO125.out).2.2,Kd.C_alloc,Kd.C_drewN,Kd.C_drew])
     (case side4=>exact(Kd.R_reads' HO125.out).2.1)
     (case side5=>solve_by_elim only[(Kd.R_reads' HO135.out).2.2,Kd.C_alloc,Kd.C_drewN,Kd.C_drew])
     (case side6=>exact(Kd.R_reads' HO135.out).2.1)
     (case side7=>solve_by_elim only[(Kd.R_reads' HO138.out).2.2,Kd.C_alloc,Kd.C_drewN,Kd.C_drew])
     (case side8=>exact(Kd.R_reads' HO138.out).2.1)
     rintro e w39 ⟨rfl,hb⟩
     refine⟨_,rfl,?_⟩;replace HO110:=U.mk (Kd.R_below (by solve_by_elim only[HO110.out,Kd.zj,Kd.zz,Kd.zk]) hb);replace HO113:=U.mk (Kd.R_below (by solve_by_elim only[HO113.out,Kd.zj,Kd.zz,Kd.zk]) hb);replace HO122:=U.mk (Kd.R_below (by solve_by_elim only[HO122.out,Kd.zj,Kd.zz,Kd.zk]) hb);replace HO125:=U.mk (Kd.R_below (by solve_by_elim only[HO125.out,Kd.zj,Kd.zz,Kd.zk]) hb);replace HO135:=U.mk (Kd.R_below (by solve_by_elim only[HO135.out,Kd.zj,Kd.zz,Kd.zk]) hb);replace HO138:=U.mk (Kd.R_below (by solve_by_elim only[HO138.out,Kd.zj,Kd.zz,Kd.zk]) hb);replace BK101:=U.mk (jx (by solve_by_elim only[BK101.out,qk,qv,qj]) hb);replace BK126:=U.mk (jx (by solve_by_elim only[BK126.out,qk,qv,qj]) hb);replace HB:=U.mk (qx (by repeat(first|(with_reducible first|exact HB.out|apply L|apply O|apply J|refine qz ?_ GE101.out|refine qz ?_ GE126.out)|exact HB.out)) hb)
     (try clear hb)
     (try clear hb2)
     (try clear hk)
     (try clear hi)
     refine hK.out _ _ (by(repeat' apply And.intro) <;> first|exact(qq BK126.out _).trans rfl|exact(qq BK101.out _).trans rfl) (fun hHeld=>?_);clear hK K;refine norm_ (a':=?_) ?_ ?_;rotate_left
     ·show Act.put _ (some 36) _=_
      simp only[Act.put,jq5,jq6,jq7,i64_w,i32_w]
      rfl
     refine pure_ (i:=4) (N:=some 37) (v:=?_) (a':=?_) #[Z,Z,Z,Z,Z] rfl rfl (by kernel_rfl) (fun _ _ _ h=>h) (Or.inl ⟨by rfl,?_⟩) ?_ ?_;rotate_left
     ·intro w'
      go_simp
      with_reducible rfl
     rotate_left
     ·simp only[Act.put,jq5,jq6,jq7,i64_w,i32_w]
      rfl
     refine done_ (by kernel_rfl) ?_;try go_wp2
     go_ret
     exact⟨by first|rfl|(simp[*,zw,zv] <;> rfl),by repeat(first|(with_reducible first|exact HB.out|apply L|apply O|apply J|refine qz ?_ GE101.out|refine qz ?_ GE126.out)|exact HB.out)⟩
    ·replace c18:=jq9.mpr c18;subst c18;have H1:(none)=some r:=by rw[if_neg (show ¬ (false=true) by decide)] at H;exact H
     clear H;have H:=H1;clear H1;exact absurd H (by simp)
   ·rw[if_neg c15] at H;exact absurd H (by simp)
open Go.RowKit Go.Proofs.YtkcdefnpbnbaeaaGreatDoor.Read Go.Proofs.YtkcdefnpbnbaeaaGreatDoorW.PrintWords
def ok23 (x:S23):Prop:=okI x.f0∧okI x.f1∧okS x.f2∧okS x.f3
theorem tells23:Tells Tryz.prog 23 k23 ok23 :=
 tells_iso (fun x:S23=>(x.f0,x.f1,x.f2,x.f3)) (fun a=>⟨a.1,a.2.1,a.2.2.1,a.2.2.2⟩) (fun _=>rfl) (tells_struct Tryz.underlying23 (by kernel_rfl) (fs_cons rfl (tellsI Tryz.underlying3 (by kernel_rfl)) (fs_cons rfl (tellsI Tryz.underlying3 (by kernel_rfl)) (fs_cons rfl (tellsS Tryz.underlying9 (by kernel_rfl)) (fs_one rfl (tellsS Tryz.underlying9 (by kernel_rfl)))))))
def qzz.Pure:Prop:=∀ (a0:Int) (a1:ByteArray) (a2_0:Int) (a2_1:Int) (a2_2:Int) (a2_3:ByteArray) (a2_4:ByteArray) (l2_5:(List S23)) (l2_6:(List ByteArray)),okI a0→okS a1→okI a2_0→okI a2_1→okI a2_2→okS a2_3→okS a2_4→(okL ok23) l2_5→(okL okS) l2_6→∃ k,qzz.f k a0 a1 a2_0 a2_1 a2_2 a2_3 a2_4 l2_5 l2_6=some true
def prtN (s:ByteArray):Nat→Bool
 | 0=>true
 | d + 1=>if bt s ((s.size - (d + 1):Nat):Int) < 32 then false else if bt s ((s.size - (d + 1):Nat):Int) > 126 then false else prtN s d
def prt (s:ByteArray):Bool:=prtN s s.size
theorem l1Printed_l0 (s:ByteArray) (hs:s.size≤9223372036854775807) (d:Nat):∀ (k i:Nat),s.size - i=d→i≤s.size→d < k→qvx.l0 k s i=some (prtN s d):=by
 induction d with
 | zero =>
  intro k i hd hi hk
  obtain⟨k,rfl⟩ : ∃ m,k=m + 1:=⟨k - 1,by omega⟩;simp only[qvx.l0];rw[if_neg (by omega)];rfl
 | succ d ih =>
  intro k i hd hi hk
  obtain⟨k,rfl⟩ : ∃ m,k=m + 1:=⟨k - 1,by omega⟩;have e0:s.size - (d + 1)=i:=by omega
  simp only[qvx.l0,prtN,e0];rw[if_pos (by omega),if_pos (by omega),w64 (by omega) (by omega),show((i:Int) + 1)=((i + 1:Nat):Int) from rfl,ih k (i + 1) (by omega) (by omega) (by omega)]
  split
  ·rfl
  ·split <;> rfl
theorem l1Printed_eq (s:ByteArray) (hs:s.size≤9223372036854775807) (k:Nat) (hk:s.size < k):qvx.f k s=some (prt s) :=
 l1Printed_l0 s hs s.size k 0 (by omega) (by omega) hk
theorem yprinted_l0 (s:ByteArray) (hs:s.size≤9223372036854775807) (d:Nat):∀ (k i:Nat),s.size - i=d→i≤s.size→d < k→qqj.l0 k s (s.size:Int) i=some (prtN s d):=by
 induction d with
 | zero =>
  intro k i hd hi hk
  obtain⟨k,rfl⟩ : ∃ m,k=m + 1:=⟨k - 1,by omega⟩;simp only[qqj.l0];rw[if_neg (by omega)];rfl
 | succ d ih =>
  intro k i hd hi hk
  obtain⟨k,rfl⟩ : ∃ m,k=m + 1:=⟨k - 1,by omega⟩;have e0:s.size - (d + 1)=i:=by omega
  simp only[qqj.l0,prtN,e0];rw[if_pos (by omega),if_pos (by omega),if_pos (by omega),w64 (by omega) (by omega),show((i:Int) + 1)=((i + 1:Nat):Int) from rfl,ih k (i + 1) (by omega) (by omega) (by omega)]
  split
  ·rfl
  ·split <;> rfl
theorem yprinted_eq (s:ByteArray) (lo hi:Int) (hs:s.size≤9223372036854775807) (k:Nat) (hk:s.size + 1 < k):qqj.f k s lo hi=some (decide (lo≤s.size) && decide ((s.size:Int)≤hi) && prt s):=by
 obtain⟨k,rfl⟩ : ∃ m,k=m + 1:=⟨k - 1,by omega⟩;unfold qqj.f;have e:=yprinted_l0 s hs s.size k 0 (by omega) (by omega) (by omega)
 by_cases h1:(s.size:Int) < lo
 ·rw[if_pos h1];simp only[qqj.j0,if_true];simp;omega
 ·rw[if_neg h1];have h1':decide (lo≤(s.size:Int))=true:=decide_eq_true (by omega)
  by_cases h2:(s.size:Int)≤hi
  ·have h2':decide ((s.size:Int) > hi)=false:=decide_eq_false (by omega);have h2'':decide ((s.size:Int)≤hi)=true:=decide_eq_true h2;rw[h1',h2',h2''];simp only[qqj.j0,Bool.false_eq_true,if_false,Bool.true_and];exact e
  ·have h2':decide ((s.size:Int) > hi)=true:=decide_eq_true (by omega);have h2'':decide ((s.size:Int)≤hi)=false:=decide_eq_false h2;rw[h1',h2',h2''];simp[qqj.j0]
def nletC (c:Int):Bool:=decide (97≤c∧c≤122∨65≤c∧c≤90)
def ndigC (c:Int):Bool:=decide (48≤c∧c≤57)
theorem nsletter_eq (c:Int):qvk.f c=some (nletC c):=by
 unfold qvk.f nletC
 split
 ·split
  ·congr 1;symm;rw[decide_eq_true_eq];omega
  ·split
   ·congr 1;rw[decide_eq_decide];omega
   ·congr 1;symm;rw[decide_eq_false_iff_not];omega
 ·split
  ·congr 1;rw[decide_eq_decide];omega
  ·congr 1;symm;rw[decide_eq_false_iff_not];omega
theorem nsdigit_eq (c:Int):qvj.f c=some (ndigC c):=by
 unfold qvj.f ndigC
 split
 ·congr 1;rw[decide_eq_decide];omega
 ·congr 1;symm;rw[decide_eq_false_iff_not];omega
theorem niletter_eq (c:Int):xx.f c=some (nletC c):=by
 unfold xx.f nletC
 split
 ·split
  ·congr 1;symm;rw[decide_eq_true_eq];omega
  ·split
   ·congr 1;rw[decide_eq_decide];omega
   ·congr 1;symm;rw[decide_eq_false_iff_not];omega
 ·split
  ·congr 1;rw[decide_eq_decide];omega
  ·congr 1;symm;rw[decide_eq_false_iff_not];omega
theorem nidigit_eq (c:Int):xk.f c=some (ndigC c):=by
 unfold xk.f ndigC
 split
 ·congr 1;rw[decide_eq_decide];omega
 ·congr 1;symm;rw[decide_eq_false_iff_not];omega
def nameC (c:Int):Bool:=if nletC c=true then true else if ndigC c=true then true else if c=95 then true else false
def nameN (s:ByteArray):Nat→Bool
 | 0=>true
 | d + 1=>if nameC (bt s ((s.size - (d + 1):Nat):Int))=true then nameN s d else false
theorem sName_l0 (s:ByteArray) (hs:s.size≤9223372036854775807) (d:Nat):∀ (k i:Nat),s.size - i=d→i≤s.size→d < k→qkz.l0 k s i=some (nameN s d):=by
 induction d with
 | zero =>
  intro k i hd hi hk
  obtain⟨k,rfl⟩ : ∃ m,k=m + 1:=⟨k - 1,by omega⟩;simp only[qkz.l0];rw[if_neg (by omega)]
  rfl
 | succ d ih =>
  intro k i hd hi hk
  obtain⟨k,rfl⟩ : ∃ m,k=m + 1:=⟨k - 1,by omega⟩;have e0:s.size - (d + 1)=i:=by omega
  simp only[qkz.l0,nameN,e0,nsletter_eq,nsdigit_eq,Option.bind_some];rw[if_pos (by omega),if_pos (by omega),w64 (by omega) (by omega),show((i:Int) + 1)=((i + 1:Nat):Int) from rfl,ih k (i + 1) (by omega) (by omega) (by omega)];unfold nameC
  split
  ·simp only[if_true]
  ·split
   ·simp only[if_true]
   ·split <;> simp only[if_true,Bool.false_eq_true,if_false]
theorem iName_l0 (s:ByteArray) (hs:s.size≤9223372036854775807) (d:Nat):∀ (k i:Nat),s.size - i=d→i≤s.size→d < k→vx.l0 k s (s.size:Int) i=some (nameN s d):=by
 induction d with
 | zero =>
  intro k i hd hi hk
  obtain⟨k,rfl⟩ : ∃ m,k=m + 1:=⟨k - 1,by omega⟩;simp only[vx.l0];rw[if_neg (by omega)]
  rfl
 | succ d ih =>
  intro k i hd hi hk
  obtain⟨k,rfl⟩ : ∃ m,k=m + 1:=⟨k - 1,by omega⟩;have e0:s.size - (d + 1)=i:=by omega
  simp only[vx.l0,nameN,e0,qqx.f,niletter_eq,nidigit_eq,Option.bind_some];rw[if_pos (by omega),if_pos (by omega),if_pos (by omega),w64 (by omega) (by omega),show((i:Int) + 1)=((i + 1:Nat):Int) from rfl,ih k (i + 1) (by omega) (by omega) (by omega)];unfold nameC
  by_cases h1:nletC (bt s (i:Int))=true
  ·simp only[h1,if_true,Option.bind_some]
  ·simp only[h1,Bool.false_eq_true,if_false]
   by_cases h2:ndigC (bt s (i:Int))=true
   ·simp only[h2,if_true,Option.bind_some]
   ·simp only[h2,Bool.false_eq_true,if_false,Option.bind_some,beq_iff_eq]
    by_cases h3:bt s (i:Int)=95
    ·simp only[h3,if_true]
    ·simp only[h3,if_false,Bool.false_eq_true]
def goodName (s:ByteArray):Bool:=if 1≤s.size∧s.size≤30 then(if ndigC (bt s 0)=true then false else nameN s s.size) else false
theorem name_size {s:ByteArray} (h:goodName s=true) : 1≤s.size∧s.size≤30:=by
 unfold goodName at h
 by_cases h1 : 1≤s.size∧s.size≤30
 ·exact h1
 ·rw[if_neg h1] at h;cases h
theorem list_nil_size {s:ByteArray} : s.toList=([]:List UInt8) ↔ s.size=0:=by
 rw[ByteArray.toList_eq]
 constructor
 ·intro h
  have:=congrArg List.length h
  rwa [data_length] at this
 ·intro h
  exact List.eq_nil_of_length_eq_zero (by rw[data_length];exact h)
theorem specName_ev (s:ByteArray) (hs:s.size≤9223372036854775807):Ev (fun k=>qkz.f k s) (goodName s):=by
 refine⟨s.size + 3,fun k hk=>?_⟩;obtain⟨k,rfl⟩ : ∃ m,k=m + 1:=⟨k - 1,by omega⟩
 show qkz.f (k + 1) s=_
 simp only[qkz.f,qkz.j0,if_true,goodName]
 by_cases h1:(s.size:Int) < 1
 ·rw[if_pos h1,if_neg (show ¬ (1≤s.size∧s.size≤30) by omega)]
 by_cases h2:(s.size:Int) > 30
 ·rw[if_neg h1,if_pos h2,if_neg (show ¬ (1≤s.size∧s.size≤30) by omega)]
 rw[if_neg h1,if_neg h2,if_pos (show 1≤s.size∧s.size≤30 by omega),if_pos (by omega),nsdigit_eq,Option.bind_some]
 by_cases h3:ndigC (bt s 0)=true
 ·rw[if_pos h3,if_pos h3]
 ·rw[if_neg h3,if_neg h3];exact sName_l0 s hs s.size k 0 (by omega) (by omega) (by omega)
theorem implName_ev (s:ByteArray) (hs:s.size≤9223372036854775807):Ev (fun k=>vx.f k s) (goodName s):=by
 refine⟨s.size + 3,fun k hk=>?_⟩;obtain⟨k,rfl⟩ : ∃ m,k=m + 1:=⟨k - 1,by omega⟩
 show vx.f (k + 1) s=_
 simp only[vx.f,vx.j0,if_true,goodName]
 by_cases h1:s.size=0
 ·rw[if_pos (list_nil_size.2 h1),if_neg (show ¬ (1≤s.size∧s.size≤30) by omega)]
 by_cases h2:(s.size:Int) > 30
 ·rw[if_neg (fun e=>h1 (list_nil_size.1 e)),if_pos h2,if_neg (show ¬ (1≤s.size∧s.size≤30) by omega)]
 rw[if_neg (fun e=>h1 (list_nil_size.1 e)),if_neg h2,if_pos (show 1≤s.size∧s.size≤30 by omega),if_pos (by omega),nidigit_eq,Option.bind_some]
 by_cases h3:ndigC (bt s 0)=true
 ·rw[if_pos h3,if_pos h3]
 ·rw[if_neg h3,if_neg h3];exact iName_l0 s hs s.size k 0 (by omega) (by omega) (by omega)
theorem Ev.upA {α:Type} {g:Nat→Option α} {r : α} (h:Ev (fun k=>g (k + 1)) r):Ev g r:=by
 obtain⟨n,h⟩:=h;refine⟨n + 1,fun k hk=>?_⟩;obtain⟨k,rfl⟩ : ∃ m,k=m + 1:=⟨k - 1,by omega⟩;exact h k (by omega)
theorem pow_le62 {n:Nat} (h:n≤62):(2:Int) ^ n≤4611686018427387904:=by
 have h2:(2:Nat) ^ n≤4611686018427387904:=Nat.pow_le_pow_right (show 0 < 2 by decide) h;have h3:((2 ^ n:Nat):Int)≤((4611686018427387904:Nat):Int):=Int.ofNat_le.2 h2;rw[Int.natCast_pow] at h3;exact h3
theorem pow_pos2 (n:Nat):(0:Int) < 2 ^ n:=Int.pow_pos (by decide)
theorem pow2_l0 (n:Nat) (hn:n≤62) (d:Nat):∀ (k j:Nat),j + d=n→d < k→qvw.l0 k (n:Int) (2 ^ j) (j:Int)=some (2 ^ n):=by
 induction d with
 | zero =>
  intro k j hj hk
  obtain⟨k,rfl⟩ : ∃ m,k=m + 1:=⟨k - 1,by omega⟩;obtain rfl:j=n:=by omega
  rw[qvw.l0,if_neg (by omega)]
 | succ d ih =>
  intro k j hj hk
  obtain⟨k,rfl⟩ : ∃ m,k=m + 1:=⟨k - 1,by omega⟩;have hp:=pow_le62 (n:=j + 1) (by omega);have h0:=pow_pos2 j;rw[Int.pow_succ] at hp;have e1:wrap64 ((2:Int) ^ j * 2)=2 ^ (j + 1):=by rw[w64 (by omega) (by omega),Int.pow_succ]
  have e2:wrap64 ((j:Int) + 1)=((j + 1:Nat):Int):=by rw[w64 (by omega) (by omega)];rfl
  rw[qvw.l0,if_pos (by omega),e1,e2];exact ih k (j + 1) (by omega) (by omega)
theorem pow2_eq (n:Nat) (hn:n≤62) (k:Nat) (hk:n < k):qvw.f k (n:Int)=some (2 ^ n):=pow2_l0 n hn n k 0 (by omega) hk
def blkOk (n:Int):Prop:=0≤n∧n % 64≤32∧n / 64 < 4294967296∧n / 64 % 2 ^ (32 - n % 64).toNat=0
instance (n:Int):Decidable (blkOk n):=by unfold blkOk;infer_instance
def noTexts (t ty:ByteArray):Bool:=decide (t.size=0) && decide (ty.size=0)
def goodAtom (k n:Int) (t ty:ByteArray):Bool :=
 if k=1 then noTexts t ty && decide (n=0∨n=1)
 else if k=2∨k=5 then noTexts t ty
 else if k=3 then decide (n=0∧ty.size=0) && (decide (t.size≤200) && prt t)
 else if k=4 then decide (n=0) && (goodName ty && (decide (1≤t.size∧t.size≤200) && prt t))
 else if k=6 then noTexts t ty && decide (blkOk n)
 else if k=7 then noTexts t ty && decide (-100000000000≤n∧n≤100000000000)
 else false
theorem nil_list {s:ByteArray} (h:s.size=0):s.toList=([]:List UInt8):=list_nil_size.2 h
theorem not_nil_list {s:ByteArray} (h:¬ s.size=0):¬ s.toList=([]:List UInt8):=fun e=>h (list_nil_size.1 e)
theorem bne_nil (s:ByteArray):(s.toList != ([]:List UInt8)) = !decide (s.size=0):=by
 by_cases h:s.size=0
 ·rw[nil_list h,decide_eq_true h];rfl
 ·rw[bne,beq_eq_false_iff_ne.2 (not_nil_list h),decide_eq_false h]
theorem beq_nil (s:ByteArray):(s.toList == ([]:List UInt8))=decide (s.size=0):=by
 by_cases h:s.size=0
 ·rw[nil_list h,decide_eq_true h];rfl
 ·rw[beq_eq_false_iff_ne.2 (not_nil_list h),decide_eq_false h]
theorem sGood_j1 (k n:Int) (t ty:ByteArray) (ht:t.size≤9223372036854775807) (hty:ty.size≤9223372036854775807) (hn:k=6→okI n) (h3:k≠1) (hA:k≠3→k≠4→t.size=0) (hB:k≠4→ty.size=0) (b:Bool) (hb:b=decide (k=2∨k=5)):Ev (fun f=>qkq.j1 f k b k n t ty) (goodAtom k n t ty):=by
 refine Ev.upA ?_;simp only[qkq.j1,hb];unfold goodAtom;rw[if_neg h3]
 by_cases c1:k=2∨k=5
 ·simp only[decide_eq_true c1,if_true,if_pos c1,noTexts];rw[hA (by omega) (by omega),hB (by omega)];exact Ev.now _
 simp only[decide_eq_false c1,Bool.false_eq_true,if_false,if_neg c1]
 by_cases c3:k=3
 ·simp only[if_pos c3]
  by_cases hz:n=0
  ·simp only[if_pos hz,decide_eq_true (show n=0∧ty.size=0 from⟨hz,hB (by omega)⟩),Bool.true_and]
   by_cases hs:t.size≤200
   ·simp only[if_pos (show(t.size:Int)≤200 by omega),decide_eq_true hs,Bool.true_and];exact Ev.bind ⟨t.size + 1,fun k hk=>l1Printed_eq t ht k (by omega)⟩ (Ev.now _)
   ·simp only[if_neg (show ¬ (t.size:Int)≤200 by omega),decide_eq_false hs,Bool.false_and];exact Ev.now _
  ·simp only[if_neg hz,decide_eq_false (show ¬ (n=0∧ty.size=0) from fun h=>hz h.1),Bool.false_and];exact Ev.now _
 simp only[if_neg c3]
 by_cases c4:k=4
 ·simp only[if_pos c4]
  by_cases hz:n=0
  ·simp only[if_pos hz,decide_eq_true hz,Bool.true_and];refine Ev.bind (specName_ev ty hty) ?_
   by_cases hg:goodName ty=true
   ·simp only[hg,if_true,Bool.true_and]
    by_cases h1 : 1≤t.size
    ·simp only[if_pos (show(t.size:Int) ≥ 1 by omega)]
     by_cases hs:t.size≤200
     ·simp only[if_pos (show(t.size:Int)≤200 by omega),decide_eq_true (show 1≤t.size∧t.size≤200 from⟨h1,hs⟩),Bool.true_and];exact Ev.bind ⟨t.size + 1,fun k hk=>l1Printed_eq t ht k (by omega)⟩ (Ev.now _)
     ·simp only[if_neg (show ¬ (t.size:Int)≤200 by omega),decide_eq_false (show ¬ (1≤t.size∧t.size≤200) from fun h=>hs h.2),Bool.false_and];exact Ev.now _
    ·simp only[if_neg (show ¬ (t.size:Int) ≥ 1 by omega),decide_eq_false (show ¬ (1≤t.size∧t.size≤200) from fun h=>h1 h.1),Bool.false_and];exact Ev.now _
   ·simp only[eq_false_of_ne_true hg,Bool.false_eq_true,if_false,Bool.false_and];exact Ev.now _
  ·simp only[if_neg hz,decide_eq_false hz,Bool.false_and];exact Ev.now _
 simp only[if_neg c4];have hNT:noTexts t ty=true:=by unfold noTexts;rw[hA c3 c4,hB c4];rfl
 rw[hNT,Bool.true_and,Bool.true_and]
 by_cases c6:k=6
 ·simp only[if_pos c6];have hi:=hn c6;have hi1 : -9223372036854775808≤n:=hi.1;have hi2:n≤9223372036854775807:=by have:=hi.2;omega
  by_cases h0:n < 0
  ·simp only[if_pos h0,decide_eq_false (show ¬ blkOk n from fun h=>by have:=h.1;omega)];exact Ev.now _
  simp only[if_neg h0];have e32:Ev (fun f=>qvw.f f 32) 4294967296:=⟨40,fun k hk=>pow2_eq 32 (by omega) k (by omega)⟩;refine Ev.bind e32 ?_;have ed:wrap64 (Int.tdiv n 64)=n / 64:=by rw[Int.tdiv_eq_ediv_of_nonneg (by omega),w64 (by omega) (by omega)]
  have em:Int.tmod n 64=n % 64:=Int.tmod_eq_emod_of_nonneg (by omega);have e1:wrap64 ((4294967296:Int) - 1)=4294967295:=w64 (by omega) (by omega);simp only[ed,em,e1]
  by_cases h1:n / 64 > 4294967295
  ·simp only[if_pos h1,decide_eq_false (show ¬ blkOk n from fun h=>by have:=h.2.2.1;omega)];exact Ev.now _
  by_cases h2:n % 64 > 32
  ·simp only[if_neg h1,if_pos h2,decide_eq_false (show ¬ blkOk n from fun h=>by have:=h.2.1;omega)];exact Ev.now _
  simp only[if_neg h1,if_neg h2];have ew:wrap64 (32 - n % 64)=((32 - n % 64).toNat:Int):=by rw[w64 (by omega) (by omega)];omega
  have hlt:(32 - n % 64).toNat≤32:=by omega
  have eb:Ev (fun f=>qkx.f f k n t ty) (n / 64,2 ^ (32 - n % 64).toNat):=by
   simp only[qkx.f,ed,em,ew];exact Ev.bind ⟨40,fun k hk=>pow2_eq _ (by omega) k (by omega)⟩ (Ev.now _)
  refine Ev.bind eb ?_;have hp:=pow_pos2 (32 - n % 64).toNat;have emod:Int.tmod (n / 64) (2 ^ (32 - n % 64).toNat)=n / 64 % 2 ^ (32 - n % 64).toNat:=Int.tmod_eq_emod_of_nonneg (by omega);simp only[if_neg (show ¬ (2:Int) ^ (32 - n % 64).toNat=0 by omega),emod]
  have:(n / 64 % 2 ^ (32 - n % 64).toNat == 0)=decide (blkOk n):=by
   rw[Bool.eq_iff_iff,beq_iff_eq,decide_eq_true_iff];exact⟨fun h=>⟨by omega,by omega,by omega,h⟩,fun h=>h.2.2.2⟩
  rw[this];exact Ev.now _
 simp only[if_neg c6]
 by_cases c7:k=7
 ·simp only[if_pos c7]
  by_cases h1:n ≥ -100000000000
  ·simp only[if_pos h1];rw[decide_eq_decide.2 (show(n≤100000000000) ↔ (-100000000000≤n∧n≤100000000000) by omega)];exact Ev.now _
  ·simp only[if_neg h1];rw[decide_eq_false (show ¬ (-100000000000≤n∧n≤100000000000) by omega)];exact Ev.now _
 ·simp only[if_neg c7];exact Ev.now _
theorem good_bad {k n:Int} {t ty:ByteArray} (h:(k≠3∧k≠4∧t.size≠0)∨(k≠4∧ty.size≠0)):goodAtom k n t ty=false:=by
 unfold goodAtom
 have hN:k≠3→k≠4→noTexts t ty=false:=fun h3 h4=>by
  unfold noTexts
  rcases h with h|h
  ·rw[decide_eq_false h.2.2,Bool.false_and]
  ·rw[decide_eq_false h.2,Bool.and_false]
 by_cases c1:k=1
 ·rw[if_pos c1,hN (by omega) (by omega),Bool.false_and]
 rw[if_neg c1]
 by_cases c2:k=2∨k=5
 ·rw[if_pos c2,hN (by omega) (by omega)]
 rw[if_neg c2]
 by_cases c3:k=3
 ·rw[if_pos c3,decide_eq_false (show ¬ (n=0∧ty.size=0) from fun g=>h.elim (fun h=>h.1 c3) (fun h=>h.2 g.2)),Bool.false_and]
 rw[if_neg c3]
 by_cases c4:k=4
 ·rcases h with h|h
  ·exact absurd c4 h.2.1
  ·exact absurd c4 h.1
 rw[if_neg c4,hN c3 c4,Bool.false_and,Bool.false_and];simp
theorem specGoodAtom_ev (k n:Int) (t ty:ByteArray) (ht:t.size≤9223372036854775807) (hty:ty.size≤9223372036854775807) (hn:k=6→okI n):Ev (fun f=>qkq.f f k n t ty) (goodAtom k n t ty):=by
 have hbad:goodAtom k n t ty=false→Ev (fun f=>qkq.j0 f true k n t ty) (goodAtom k n t ty):=fun h=>by
  refine Ev.upA ?_;simp only[qkq.j0,if_true,h];exact Ev.now _
 have hgo:(k≠3→k≠4→t.size=0)→(k≠4→ty.size=0)→Ev (fun f=>qkq.j0 f false k n t ty) (goodAtom k n t ty):=fun hA hB=>by
  refine Ev.upA ?_;simp only[qkq.j0,Bool.false_eq_true,if_false]
  by_cases c1:k=1
  ·simp only[if_pos c1];have hNT:noTexts t ty=true:=by unfold noTexts;rw[hA (by omega) (by omega),hB (by omega)];rfl
   rw[goodAtom,if_pos c1,hNT,Bool.true_and]
   by_cases hz:n=0
   ·simp only[if_pos hz,decide_eq_true (show n=0∨n=1 from .inl hz)];exact Ev.now _
   ·simp only[if_neg hz]
    have:(n == 1)=decide (n=0∨n=1):=by
     rw[Bool.eq_iff_iff,beq_iff_eq,decide_eq_true_iff]
     omega
    rw[this];exact Ev.now _
  simp only[if_neg c1]
  by_cases c2:k=2
  ·simp only[if_pos c2];refine sGood_j1 k n t ty ht hty hn c1 hA hB _ ?_;rw[Bool.eq_iff_iff,beq_iff_eq,decide_eq_true_iff];omega
  ·simp only[if_neg c2];refine sGood_j1 k n t ty ht hty hn c1 hA hB _ ?_;rw[Bool.eq_iff_iff,beq_iff_eq,decide_eq_true_iff];omega
 simp only[qkq.f,bne_nil]
 by_cases c3:k=3
 ·simp only[if_pos c3,if_neg (show ¬ k=4 by omega)]
  by_cases hz:ty.size=0
  ·rw[decide_eq_true hz];exact hgo (fun h=>absurd c3 h) (fun _=>hz)
  ·rw[decide_eq_false hz];exact hbad (good_bad (.inr ⟨by omega,hz⟩))
 simp only[if_neg c3]
 by_cases c4:k=4
 ·simp only[if_pos c4];exact hgo (fun _ h=>absurd c4 h) (fun h=>absurd c4 h)
 simp only[if_neg c4]
 by_cases hz:t.size=0
 ·simp only[if_pos (nil_list hz)]
  by_cases hz2:ty.size=0
  ·rw[decide_eq_true hz2];exact hgo (fun _ _=>hz) (fun _=>hz2)
  ·rw[decide_eq_false hz2];exact hbad (good_bad (.inr ⟨c4,hz2⟩))
 ·simp only[if_neg (not_nil_list hz)];exact hbad (good_bad (.inl ⟨c3,c4,hz⟩))
theorem shl_fin:∀ e:Fin 33,shl .i64 1 ((e.val:Nat):Int)=2 ^ e.val:=by decide +kernel
theorem iGood_j1 (k n:Int) (t ty:ByteArray) (ht:t.size≤9223372036854775807) (hty:ty.size≤9223372036854775807) (hn:k=6→okI n) (h3:k≠1) (b:Bool) (hb:b=decide (k=2∨k=5)):Ev (fun f=>vw.j1 f (noTexts t ty) k b k n t ty) (goodAtom k n t ty):=by
 refine Ev.upA ?_;simp only[vw.j1,hb];unfold goodAtom;rw[if_neg h3]
 by_cases c1:k=2∨k=5
 ·simp only[decide_eq_true c1,if_true,if_pos c1];exact Ev.now _
 simp only[decide_eq_false c1,Bool.false_eq_true,if_false,if_neg c1]
 by_cases c3:k=3
 ·simp only[if_pos c3]
  by_cases hz:n=0
  ·simp only[if_pos hz]
   by_cases hz2:ty.size=0
   ·simp only[if_pos (nil_list hz2),decide_eq_true (show n=0∧ty.size=0 from⟨hz,hz2⟩),Bool.true_and];refine Ev.bind ⟨t.size + 2,fun k hk=>yprinted_eq t 0 200 ht k (by omega)⟩ ?_;rw[decide_eq_true (show(0:Int)≤(t.size:Int) by omega),Bool.true_and,decide_eq_decide.2 (show((t.size:Int)≤200) ↔ t.size≤200 by omega)];exact Ev.now _
   ·simp only[if_neg (not_nil_list hz2),decide_eq_false (show ¬ (n=0∧ty.size=0) from fun h=>hz2 h.2),Bool.false_and];exact Ev.now _
  ·simp only[if_neg hz,decide_eq_false (show ¬ (n=0∧ty.size=0) from fun h=>hz h.1),Bool.false_and];exact Ev.now _
 simp only[if_neg c3]
 by_cases c4:k=4
 ·simp only[if_pos c4]
  by_cases hz:n=0
  ·simp only[if_pos hz,decide_eq_true hz,Bool.true_and];refine Ev.bind (implName_ev ty hty) ?_
   by_cases hg:goodName ty=true
   ·simp only[hg,if_true,Bool.true_and];refine Ev.bind ⟨t.size + 2,fun k hk=>yprinted_eq t 1 200 ht k (by omega)⟩ ?_;rw[← Bool.decide_and,decide_eq_decide.2 (show((1:Int)≤(t.size:Int)∧(t.size:Int)≤200) ↔ (1≤t.size∧t.size≤200) by omega)];exact Ev.now _
   ·simp only[eq_false_of_ne_true hg,Bool.false_eq_true,if_false,Bool.false_and];exact Ev.now _
  ·simp only[if_neg hz,decide_eq_false hz,Bool.false_and];exact Ev.now _
 simp only[if_neg c4]
 rcases hNT:noTexts t ty with _|_
 ·simp only[Bool.false_eq_true,if_false,Bool.false_and];rw[show(if k=6 then some false else if k=7 then some false else some false)=some false by split <;> (try split) <;> rfl,show(if k=6 then false else if k=7 then false else false)=false by split <;> (try split) <;> rfl];exact Ev.now _
 simp only[if_true,Bool.true_and]
 by_cases c6:k=6
 ·simp only[if_pos c6];have hi:=hn c6;have hi1 : -9223372036854775808≤n:=hi.1;have hi2:n≤9223372036854775807:=by have:=hi.2;omega
  by_cases h0:n < 0
  ·simp only[if_pos h0,decide_eq_false (show ¬ blkOk n from fun h=>by have:=h.1;omega)];exact Ev.now _
  simp only[if_neg h0];have ed:wrap64 (Int.tdiv n 64)=n / 64:=by rw[Int.tdiv_eq_ediv_of_nonneg (by omega),w64 (by omega) (by omega)]
  have em:Int.tmod n 64=n % 64:=Int.tmod_eq_emod_of_nonneg (by omega);simp only[ed,em]
  by_cases h2:n % 64≤32
  case neg =>
   simp only[if_neg h2,decide_eq_false (show ¬ blkOk n from fun h=>h2 h.2.1)];exact Ev.now _
  by_cases h1:n / 64 < 4294967296
  case neg =>
   simp only[if_pos h2,if_neg h1,decide_eq_false (show ¬ blkOk n from fun h=>h1 h.2.2.1)];exact Ev.now _
  have ew:wrap64 (32 - n % 64)=((32 - n % 64).toNat:Int):=by rw[w64 (by omega) (by omega)];omega
  have hlt:(32 - n % 64).toNat < 33:=by omega
  have esh:=shl_fin ⟨(32 - n % 64).toNat,hlt⟩;have hp:=pow_pos2 (32 - n % 64).toNat;have emod:Int.tmod (n / 64) (2 ^ (32 - n % 64).toNat)=n / 64 % 2 ^ (32 - n % 64).toNat:=Int.tmod_eq_emod_of_nonneg (by omega);simp only[if_pos h2,if_pos h1,ew,if_pos (Int.natCast_nonneg _),esh,if_neg (show ¬ (2:Int) ^ (32 - n % 64).toNat=0 by omega),emod]
  have:(n / 64 % 2 ^ (32 - n % 64).toNat == 0)=decide (blkOk n):=by
   rw[Bool.eq_iff_iff,beq_iff_eq,decide_eq_true_iff];exact⟨fun h=>⟨by omega,by omega,by omega,h⟩,fun h=>h.2.2.2⟩
  rw[this];exact Ev.now _
 simp only[if_neg c6]
 by_cases c7:k=7
 ·simp only[if_pos c7]
  by_cases h1:n ≥ -100000000000
  ·simp only[if_pos h1];rw[decide_eq_decide.2 (show(n≤100000000000) ↔ (-100000000000≤n∧n≤100000000000) by omega)];exact Ev.now _
  ·simp only[if_neg h1];rw[decide_eq_false (show ¬ (-100000000000≤n∧n≤100000000000) by omega)];exact Ev.now _
 ·simp only[if_neg c7];exact Ev.now _
theorem implGoodAtom_ev (k n:Int) (t ty:ByteArray) (ht:t.size≤9223372036854775807) (hty:ty.size≤9223372036854775807) (hn:k=6→okI n):Ev (fun f=>vw.f f k n t ty) (goodAtom k n t ty):=by
 have hj:Ev (fun f=>vw.j0 f (noTexts t ty) k n t ty) (goodAtom k n t ty):=by
  refine Ev.upA ?_;simp only[vw.j0]
  by_cases c1:k=1
  ·simp only[if_pos c1];rw[goodAtom,if_pos c1]
   rcases hNT:noTexts t ty with _|_
   ·simp only[Bool.false_eq_true,if_false,Bool.false_and];exact Ev.now _
   simp only[if_true,Bool.true_and]
   by_cases hz:n=0
   ·simp only[if_pos hz,decide_eq_true (show n=0∨n=1 from .inl hz)];exact Ev.now _
   ·simp only[if_neg hz]
    have:(n == 1)=decide (n=0∨n=1):=by
     rw[Bool.eq_iff_iff,beq_iff_eq,decide_eq_true_iff]
     omega
    rw[this];exact Ev.now _
  simp only[if_neg c1]
  by_cases c2:k=2
  ·simp only[if_pos c2];refine iGood_j1 k n t ty ht hty hn c1 _ ?_;rw[Bool.eq_iff_iff,beq_iff_eq,decide_eq_true_iff];omega
  ·simp only[if_neg c2];refine iGood_j1 k n t ty ht hty hn c1 _ ?_;rw[Bool.eq_iff_iff,beq_iff_eq,decide_eq_true_iff];omega
 simp only[vw.f,beq_nil]
 by_cases hz:t.size=0
 ·simp only[if_pos (nil_list hz)];rw[show decide (ty.size=0)=noTexts t ty by unfold noTexts;rw[decide_eq_true hz,Bool.true_and]];exact hj
 ·simp only[if_neg (not_nil_list hz)];rw[show false=noTexts t ty by unfold noTexts;rw[decide_eq_false hz,Bool.false_and]];exact hj
def intsOf (l:List UInt8):List Int:=l.map fun b=>(b.toNat:Int)
theorem intsOf_append (a b:List UInt8):intsOf (a ++ b)=intsOf a ++ intsOf b:=by simp[intsOf]
theorem strOf_ints (l:List UInt8):strOfNums (intsOf l) = ⟨l.toArray⟩:=by
 unfold strOfNums intsOf
 apply ByteArray.ext
 show(List.map _ (List.map _ l)).toArray=l.toArray
 rw[List.map_map]
 congr 1
 conv=>rhs;rw[← List.map_id l]
 apply List.map_congr_left
 intro b _
 show UInt8.ofNat ((b.toNat:Int)).toNat=b
 rw[Int.toNat_natCast,UInt8.ofNat_toNat]
theorem escL_le (l:List UInt8):(l.flatMap escU).length≤2 * l.length:=by
 induction l with
 | nil=>exact Nat.zero_le _
 | cons b l ih=>have:=escU_len b;rw[List.flatMap_cons,List.length_append,List.length_cons];omega
theorem btq_list (s:ByteArray) (i:Nat) (h:i < s.data.toList.length):bt s (i:Int)=((s.data.toList[i]).toNat:Int):=by
 have h':i < s.size:=by rw[data_length] at h;exact h
 exact(bt_at s (i:Int) h').symm
theorem quoted_l0 (s:ByteArray) (hs:s.size≤1000000) (d:Nat):∀ (k i:Nat),i + d=s.size→d < k →
  qwq.l0 k s (intsOf (34 :: (s.data.toList.take i).flatMap escU)) (i:Int)=some (quoteB s):=by
 induction d with
 | zero =>
  intro k i hi hk
  obtain⟨k,rfl⟩ : ∃ m,k=m + 1:=⟨k - 1,by omega⟩;obtain rfl:i=s.size:=by omega
  have hl:=escL_le s.data.toList;rw[data_length] at hl;rw[qwq.l0,if_neg (by omega),List.take_of_length_le (by rw[data_length];exact Nat.le_refl _),if_pos (by simp only[intsOf,List.length_map,List.length_cons];omega)];rw[show([34]:List Int)=intsOf [34] from rfl,← intsOf_append,strOf_ints]
  congr 1
 | succ d ih =>
  intro k i hi hk
  obtain⟨k,rfl⟩ : ∃ m,k=m + 1:=⟨k - 1,by omega⟩;have hil:i < s.data.toList.length:=by rw[data_length];omega
  have hl:=escL_le (s.data.toList.take i);rw[jq4,data_length] at hl;have e2:wrap64 ((i:Int) + 1)=((i + 1:Nat):Int):=by rw[w64 (by omega) (by omega)];rfl
  have hstep:intsOf (34 :: (s.data.toList.take (i + 1)).flatMap escU)=intsOf (34 :: (s.data.toList.take i).flatMap escU) ++ intsOf (escU s.data.toList[i]):=by
   rw[List.take_succ_eq_append_getElem hil,List.flatMap_append,← intsOf_append];simp
  have ih2:=ih k (i + 1) (by omega) (by omega);rw[hstep] at ih2;have hlen:(intsOf (34 :: (s.data.toList.take i).flatMap escU)).length≤3000000:=by simp only[intsOf,List.length_map,List.length_cons];omega
  rw[qwq.l0,if_pos (by omega),if_pos (by omega),btq_list s i hil,e2];obtain⟨u,eu⟩ : ∃ u,u=s.data.toList[i]:=⟨_,rfl⟩;obtain⟨X,eX⟩ : ∃ X,X=intsOf (34 :: (s.data.toList.take i).flatMap escU):=⟨_,rfl⟩;rw[← eu,← eX] at ih2;rw[← eX] at hlen;rw[← eu,← eX]
  by_cases h34:(u.toNat:Int)=34
  ·have hu:u=34:=UInt8.toNat_inj.1 (show u.toNat=34 by omega);rw[hu] at ih2 ⊢;rw[show intsOf (escU 34)=[92,34] from rfl] at ih2;rw[if_pos (by rfl),if_pos (by omega),Option.bind_some,if_pos (by rw[List.length_append,List.length_singleton];omega),List.append_assoc];exact ih2
  ·by_cases h92:(u.toNat:Int)=92
   ·have hu:u=92:=UInt8.toNat_inj.1 (show u.toNat=92 by omega);rw[hu] at ih2 ⊢;rw[show intsOf (escU 92)=[92,92] from rfl] at ih2;rw[if_neg (by decide),if_pos (by rfl),if_pos (by omega),Option.bind_some,if_pos (by rw[List.length_append,List.length_singleton];omega),List.append_assoc];exact ih2
   ·have hn:¬ (u=34∨u=92):=fun h=>h.elim (fun e=>h34 (by rw[e];rfl)) (fun e=>h92 (by rw[e];rfl))
    have he:intsOf (escU u)=[(u.toNat:Int)]:=by unfold escU;rw[if_neg hn];rfl
    rw[he] at ih2;rw[if_neg h34,if_neg h92,if_pos (by omega)];exact ih2
theorem l1Quoted_ev (s:ByteArray) (hs:s.size≤1000000):Ev (fun k=>qwq.f k s) (quoteB s) :=
 ⟨s.size + 1,fun k hk=>quoted_l0 s hs s.size k 0 (by omega) (by omega)⟩
theorem yquote_eq (s:ByteArray) (hs:s.size≤1000000):qqk.f s=some (quoteB s):=by
 unfold qqk.f;rw[if_pos hs]
theorem quoteB_le (s:ByteArray):(quoteB s).size≤2 * s.size + 2:=by
 have h:=escL_le s.data.toList;rw[data_length] at h;unfold quoteB;rw[ByteArray.size_append,ByteArray.size_append];have e:(escB s).size=(s.data.toList.flatMap escU).length:=rfl;rw[e,show(⟨#[34]⟩ : ByteArray).size=1 from rfl]
 omega
def digS (d:Nat):ByteArray:=⟨#[UInt8.ofNat (48 + d)]⟩
theorem dig_fin:∀ d:Fin 10,(strOfNums [((48 + (d.val:Int))) % 256]).data=(digS d.val).data:=by decide +kernel
theorem dig_eq {d:Nat} (h:d < 10):strOfNums [((48 + (d:Int))) % 256]=digS d:=ByteArray.ext (dig_fin ⟨d,h⟩)
def decS (u:Nat):ByteArray:=⟨(Lib.decDigits u).toArray⟩
theorem decS_small {u:Nat} (h:u < 10):decS u=digS u:=by
 unfold decS digS;rw[Lib.decDigits,dif_pos h]
theorem decS_big {u:Nat} (h:¬ u < 10):decS u=decS (u / 10) ++ digS (u % 10):=by
 apply ByteArray.ext
 unfold decS digS;rw[Lib.decDigits,dif_neg h];simp
theorem digS_size (d:Nat):(digS d).size=1:=rfl
theorem size_l0 (u:Nat) : 0 < u→∃ K,∀ k,K≤k→∀ acc:ByteArray,acc.size + u≤9000000000000000000→qwz.l0 k (u:Int) acc=some (decS u ++ acc):=by
 induction u using Nat.strongRecOn with
 | _ u ih =>
  intro hu
  by_cases h:u < 10
  ·refine⟨2,fun k hk acc hacc=>?_⟩;obtain⟨k,rfl⟩ : ∃ m,k=m + 1 + 1:=⟨k - 2,by omega⟩;have e1:Int.tmod (u:Int) 10=(u:Int):=by rw[Int.tmod_eq_emod_of_nonneg (by omega)];omega
   have e2:Int.tdiv (u:Int) 10=0:=by rw[Int.tdiv_eq_ediv_of_nonneg (by omega)];omega
   have e3:wrap64 (48 + (u:Int))=48 + (u:Int):=w64 (by omega) (by omega);have e4:wrap64 0=0:=w64 (by omega) (by omega);simp only[qwz.l0,if_neg (show ¬ ((u:Int)=0) by omega),e1,e2,e3,e4,if_neg (show ¬ ((u:Int) < 0) by omega),Option.bind_some,dig_eq h,digS_size,if_pos (show 1 + acc.size≤9223372036854775807 by omega),if_true];rw[decS_small h]
  ·obtain⟨K,hK⟩:=ih (u / 10) (by omega) (by omega);refine⟨K + 1,fun k hk acc hacc=>?_⟩;obtain⟨k,rfl⟩ : ∃ m,k=m + 1:=⟨k - 1,by omega⟩;have e1:Int.tmod (u:Int) 10=((u % 10:Nat):Int):=by rw[Int.tmod_eq_emod_of_nonneg (by omega)];omega
   have e2:wrap64 (Int.tdiv (u:Int) 10)=((u / 10:Nat):Int):=by rw[Int.tdiv_eq_ediv_of_nonneg (by omega),w64 (by omega) (by omega)];omega
   have e3:wrap64 (48 + ((u % 10:Nat):Int))=48 + ((u % 10:Nat):Int):=w64 (by omega) (by omega);simp only[qwz.l0,if_neg (show ¬ ((u:Int)=0) by omega),e1,e2,e3,if_neg (show ¬ (((u % 10:Nat):Int) < 0) by omega),Option.bind_some,dig_eq (show u % 10 < 10 by omega),digS_size,if_pos (show 1 + acc.size≤9223372036854775807 by omega)];rw[hK k (by omega) _ (by rw[ByteArray.size_append,digS_size];omega),decS_big h,ByteArray.append_assoc]
theorem itoa_nat (u:Nat):(⟨(Lib.itoa (u:Int)).toArray⟩ : ByteArray)=decS u:=by
 unfold Lib.itoa;rw[if_neg (by omega),Int.toNat_natCast]
 rfl
theorem l1Num_ev (u:Nat) (h:u≤8000000000000000000):Ev (fun k=>qvv.f k (u:Int)) (decS u):=by
 rcases Nat.eq_zero_or_pos u with rfl|hu
 ·refine⟨0,fun k _=>?_⟩;have:decS 0=(⟨#[48]⟩ : ByteArray):=by rw[decS_small (by omega)];rfl
  rw[this]
  rfl
 ·obtain⟨K,hK⟩:=size_l0 u hu;refine⟨K,fun k hk=>?_⟩
  show qvv.f k (u:Int)=_
  simp only[qvv.f,qwz.f,if_neg (show ¬ ((u:Int) < 0) by omega),if_neg (show ¬ ((u:Int)=0) by omega)];rw[hK k hk _ (by show 0 + u≤_;omega),Option.bind_some]
  congr 1
  apply ByteArray.ext
  simp
theorem itoa_eq (u:Nat) (h:u≤8000000000000000000):strconv_Itoa.f (u:Int)=some (decS u):=by
 unfold strconv_Itoa.f;rw[if_pos ⟨by omega,by omega⟩,itoa_nat]
theorem decS_len (u:Nat):∀ k,u < 10 ^ (k + 1)→(decS u).size≤k + 1:=by
 induction u using Nat.strongRecOn with
 | _ u ih =>
  intro k hk
  by_cases h:u < 10
  ·rw[decS_small h,digS_size];omega
  ·rcases k with _|k
   ·omega
   ·rw[decS_big h,ByteArray.size_append,digS_size];have:=ih (u / 10) (by omega) k (by rw[Nat.pow_succ] at hk;omega)
    omega
def numS (n:Int):ByteArray:=⟨(Lib.itoa n).toArray⟩
theorem numS_nat (u:Nat):numS (u:Int)=decS u:=itoa_nat u
theorem numS_neg (u:Nat) (h : 0 < u):numS (-(u:Int))=(⟨#[45]⟩ : ByteArray) ++ decS u:=by
 unfold numS decS
 apply ByteArray.ext
 rw[show Lib.itoa (-(u:Int))=45 :: Lib.decDigits u by unfold Lib.itoa;rw[if_pos (by omega)];simp];simp
theorem itoa_all (n:Int) (h:okI n):strconv_Itoa.f n=some (numS n):=by
 have h1:=h.1;have h2:=h.2;unfold strconv_Itoa.f;rw[if_pos ⟨by omega,by omega⟩]
 rfl
theorem sizeA_pos (m:Nat):∀ (u:Nat),0 < u→u≤9223372036854775807→u < 10 ^ (m + 1)→∀ (k:Nat) (acc:ByteArray),m + 1 < k→acc.size + m≤1000000→qwz.l0 k (u:Int) acc=some (decS u ++ acc):=by
 induction m with
 | zero =>
  intro u hu hm h k acc hk hacc
  obtain⟨k,rfl⟩ : ∃ m,k=m + 1 + 1:=⟨k - 2,by omega⟩;have h10:u < 10:=by omega
  have e1:Int.tmod (u:Int) 10=(u:Int):=by rw[Int.tmod_eq_emod_of_nonneg (by omega)];omega
  have e2:Int.tdiv (u:Int) 10=0:=by rw[Int.tdiv_eq_ediv_of_nonneg (by omega)];omega
  have e3:wrap64 (48 + (u:Int))=48 + (u:Int):=w64 (by omega) (by omega);have e4:wrap64 0=0:=w64 (by omega) (by omega);simp only[qwz.l0,if_neg (show ¬ ((u:Int)=0) by omega),e1,e2,e3,e4,if_neg (show ¬ ((u:Int) < 0) by omega),Option.bind_some,dig_eq h10,digS_size,if_pos (show 1 + acc.size≤9223372036854775807 by omega),if_true];rw[decS_small h10]
 | succ m ih =>
  intro u hu hm h k acc hk hacc
  obtain⟨k,rfl⟩ : ∃ m,k=m + 1:=⟨k - 1,by omega⟩;have e1:Int.tmod (u:Int) 10=((u % 10:Nat):Int):=by rw[Int.tmod_eq_emod_of_nonneg (by omega)];omega
  have e2:wrap64 (Int.tdiv (u:Int) 10)=((u / 10:Nat):Int):=by rw[Int.tdiv_eq_ediv_of_nonneg (by omega),w64 (by omega) (by omega)];omega
  have e3:wrap64 (48 + ((u % 10:Nat):Int))=48 + ((u % 10:Nat):Int):=w64 (by omega) (by omega);simp only[qwz.l0,if_neg (show ¬ ((u:Int)=0) by omega),e1,e2,e3,if_neg (show ¬ (((u % 10:Nat):Int) < 0) by omega),Option.bind_some,dig_eq (show u % 10 < 10 by omega),digS_size,if_pos (show 1 + acc.size≤9223372036854775807 by omega)]
  by_cases hs:u < 10
  ·obtain⟨k,rfl⟩ : ∃ m,k=m + 1:=⟨k - 1,by omega⟩;rw[show u / 10=0 by omega,decS_small hs,show u % 10=u by omega];simp only[qwz.l0,show((0:Nat):Int)=0 from rfl,if_true]
  ·rw[ih (u / 10) (by omega) (by omega) (by rw[Nat.pow_succ] at h;omega) k _ (by omega) (by rw[ByteArray.size_append,digS_size];omega),decS_big hs,ByteArray.append_assoc]
theorem sizeA_neg (m:Nat):∀ (u:Nat),0 < u→u≤9223372036854775808→u < 10 ^ (m + 1)→∀ (k:Nat) (acc:ByteArray),m + 1 < k→acc.size + m≤1000000→qwz.l0 k (-(u:Int)) acc=some (decS u ++ acc):=by
 have step:∀ (u:Nat),0 < u→u≤9223372036854775808→∀ (k:Nat) (acc:ByteArray),acc.size≤1000000→qwz.l0 (k + 1) (-(u:Int)) acc=qwz.l0 k (-((u / 10:Nat):Int)) (digS (u % 10) ++ acc):=by
  intro u hu hm k acc hacc
  have e1:Int.tmod (-(u:Int)) 10 = -((u % 10:Nat):Int):=by rw[Int.neg_tmod,Int.tmod_eq_emod_of_nonneg (by omega)];omega
  have e2:wrap64 (Int.tdiv (-(u:Int)) 10) = -((u / 10:Nat):Int):=by rw[Int.neg_tdiv,Int.tdiv_eq_ediv_of_nonneg (by omega),w64 (by omega) (by omega)];omega
  have e3:wrap64 (48 + ((u % 10:Nat):Int))=48 + ((u % 10:Nat):Int):=w64 (by omega) (by omega);have e5:wrap64 ((u % 10:Nat):Int)=((u % 10:Nat):Int):=w64 (by omega) (by omega);rw[qwz.l0,if_neg (show ¬ (-(u:Int)=0) by omega),e1,e2]
  by_cases hz:u % 10=0
  ·rw[hz];simp only[show -((0:Nat):Int)=0 from rfl,if_neg (show ¬ ((0:Int) < 0) by decide),Option.bind_some];rw[show([(wrap64 (48 + 0)) % 256]:List Int)=[((48 + ((0:Nat):Int))) % 256] by rw[w64 (by omega) (by omega)];rfl,dig_eq (show 0 < 10 by decide),if_pos (by rw[digS_size];omega)]
  ·rw[if_pos (show -((u % 10:Nat):Int) < 0 by omega)];simp only[Int.neg_neg,e5,e3,Option.bind_some,dig_eq (show u % 10 < 10 by omega),digS_size,if_pos (show 1 + acc.size≤9223372036854775807 by omega)]
 induction m with
 | zero =>
  intro u hu hm h k acc hk hacc
  obtain⟨k,rfl⟩ : ∃ m,k=m + 1 + 1:=⟨k - 2,by omega⟩;have h10:u < 10:=by omega
  rw[step u hu hm (k + 1) acc (by omega),show u / 10=0 by omega,show u % 10=u by omega,decS_small h10];simp only[qwz.l0,show -((0:Nat):Int)=0 from rfl,if_true]
 | succ m ih =>
  intro u hu hm h k acc hk hacc
  obtain⟨k,rfl⟩ : ∃ m,k=m + 1:=⟨k - 1,by omega⟩;rw[step u hu hm k acc (by omega)]
  by_cases hs:u < 10
  ·obtain⟨k,rfl⟩ : ∃ m,k=m + 1:=⟨k - 1,by omega⟩;rw[show u / 10=0 by omega,decS_small hs,show u % 10=u by omega];simp only[qwz.l0,show -((0:Nat):Int)=0 from rfl,if_true]
  ·rw[ih (u / 10) (by omega) (by omega) (by rw[Nat.pow_succ] at h;omega) k _ (by omega) (by rw[ByteArray.size_append,digS_size];omega),decS_big hs,ByteArray.append_assoc]
theorem app_empty (s:ByteArray):s ++ (⟨#[]⟩ : ByteArray)=s:=by apply ByteArray.ext;simp
theorem decS_zero:decS 0=(⟨#[48]⟩ : ByteArray):=by rw[decS_small (by omega)];rfl
theorem l1Size_ev (n:Int) (h:okI n):Ev (fun k=>qwz.f k n) (decS n.natAbs):=by
 have h1:=h.1;have h2:=h.2;refine⟨30,fun k hk=>?_⟩
 show qwz.f k n=_
 unfold qwz.f
 by_cases hz:n=0
 ·subst hz;rw[if_pos rfl];exact congrArg some decS_zero.symm
 rw[if_neg hz];have hp:n.natAbs < 10 ^ (18 + 1):=by omega
 rcases Int.lt_or_le n 0 with hn|hn
 ·have e:n = -((n.natAbs:Nat):Int):=by omega
  conv=>lhs;rw[e]
  rw[sizeA_neg 18 n.natAbs (by omega) (by omega) hp k _ (by omega) (by show 0 + 18≤_;omega),app_empty]
 ·have e:n=((n.natAbs:Nat):Int):=by omega
  conv=>lhs;rw[e]
  rw[sizeA_pos 18 n.natAbs (by omega) (by omega) hp k _ (by omega) (by show 0 + 18≤_;omega),app_empty]
theorem decS_le (u:Nat) (h:u≤9223372036854775808):(decS u).size≤19:=decS_len u 18 (by omega)
theorem l1Num_all (n:Int) (h:okI n):Ev (fun k=>qvv.f k n) (numS n):=by
 have h1:=h.1;have h2:=h.2;simp only[qvv.f];have hle:=decS_le n.natAbs (by omega)
 rcases Int.lt_or_le n 0 with hn|hn
 ·simp only[if_pos hn];refine Ev.bind (l1Size_ev n h) ?_;simp only[if_pos (show 1 + (decS n.natAbs).size≤9223372036854775807 by omega)]
  have e:numS n=(⟨#[45]⟩ : ByteArray) ++ decS n.natAbs:=by
   conv=>lhs;rw[show n = -((n.natAbs:Nat):Int) by omega]
   exact numS_neg _ (by omega)
  rw[e];exact Ev.now _
 ·simp only[if_neg (show ¬ n < 0 by omega)];refine Ev.bind (l1Size_ev n h) ?_
  have e:numS n=decS n.natAbs:=by
   conv=>lhs;rw[show n=((n.natAbs:Nat):Int) by omega]
   exact numS_nat _
  rw[e];exact Ev.now _
theorem numS_le (n:Int) (h:okI n):(numS n).size≤20:=by
 have h1:=h.1;have h2:=h.2;have hle:=decS_le n.natAbs (by omega)
 rcases Int.lt_or_le n 0 with hn|hn
 ·rw[show numS n=(⟨#[45]⟩ : ByteArray) ++ decS n.natAbs by
   conv=>lhs;rw[show n = -((n.natAbs:Nat):Int) by omega]
   exact numS_neg _ (by omega),ByteArray.size_append,show(⟨#[45]⟩ : ByteArray).size=1 from rfl]
  omega
 ·rw[show numS n=decS n.natAbs by
   conv=>lhs;rw[show n=((n.natAbs:Nat):Int) by omega]
   exact numS_nat _]
  omega
def dig4 (r:Nat):ByteArray:=((digS (r / 1000 % 10) ++ digS (r / 100 % 10)) ++ digS (r / 10 % 10)) ++ digS (r % 10)
theorem dig4_size (r:Nat):(dig4 r).size=4:=rfl
theorem decS_four {u:Nat} (h:¬ u < 10000):decS u=decS (u / 10000) ++ dig4 (u % 10000):=by
 rw[decS_big (show ¬ u < 10 by omega),decS_big (show ¬ u / 10 < 10 by omega),decS_big (show ¬ u / 10 / 10 < 10 by omega),decS_big (show ¬ u / 10 / 10 / 10 < 10 by omega)];unfold dig4;rw[show u / 10 / 10 / 10 / 10=u / 10000 by omega,show u / 10 / 10 / 10 % 10=u % 10000 / 1000 % 10 by omega,show u / 10 / 10 % 10=u % 10000 / 100 % 10 by omega,show u / 10 % 10=u % 10000 / 10 % 10 by omega,show u % 10=u % 10000 % 10 by omega];simp only[ByteArray.append_assoc]
def zeroS:ByteArray:=⟨#[48]⟩
theorem digS_zero:digS 0=zeroS:=rfl
theorem fill_one {u:Nat} (h:u < 10):zeroS ++ (zeroS ++ (zeroS ++ (zeroS ++ decS u)))=zeroS ++ dig4 u:=by
 rw[decS_small h];unfold dig4;rw[show u / 1000 % 10=0 by omega,show u / 100 % 10=0 by omega,show u / 10 % 10=0 by omega,show u % 10=u by omega,digS_zero];simp only[ByteArray.append_assoc]
theorem fill_two {u:Nat} (h0:¬ u < 10) (h:u < 100):zeroS ++ (zeroS ++ (zeroS ++ decS u))=zeroS ++ dig4 u:=by
 rw[decS_big h0,decS_small (show u / 10 < 10 by omega)];unfold dig4;rw[show u / 1000 % 10=0 by omega,show u / 100 % 10=0 by omega,show u / 10 % 10=u / 10 by omega,digS_zero];simp only[ByteArray.append_assoc]
theorem fill_three {u:Nat} (h0:¬ u < 100) (h:u < 1000):zeroS ++ (zeroS ++ decS u)=zeroS ++ dig4 u:=by
 rw[decS_big (show ¬ u < 10 by omega),decS_big (show ¬ u / 10 < 10 by omega),decS_small (show u / 10 / 10 < 10 by omega)];unfold dig4;rw[show u / 1000 % 10=0 by omega,show u / 10 / 10=u / 100 % 10 by omega,digS_zero];simp only[ByteArray.append_assoc]
theorem fill_four {u:Nat} (h0:¬ u < 1000) (h:u < 10000):zeroS ++ decS u=zeroS ++ dig4 u:=by
 rw[decS_big (show ¬ u < 10 by omega),decS_big (show ¬ u / 10 < 10 by omega),decS_big (show ¬ u / 10 / 10 < 10 by omega),decS_small (show u / 10 / 10 / 10 < 10 by omega)];unfold dig4;rw[show u / 10 / 10 / 10=u / 1000 % 10 by omega,show u / 10 / 10 % 10=u / 100 % 10 by omega]
def filled (u:Nat):ByteArray:=decS (u / 10000) ++ dig4 (u % 10000)
theorem size_one {u:Nat} (h:u < 10):(decS u).size=1:=by rw[decS_small h];rfl
theorem size_two {u:Nat} (h0:¬ u < 10) (h:u < 100):(decS u).size=2:=by rw[decS_big h0,decS_small (show u / 10 < 10 by omega)];rfl
theorem size_three {u:Nat} (h0:¬ u < 100) (h:u < 1000):(decS u).size=3:=by rw[decS_big (show ¬ u < 10 by omega),ByteArray.size_append,size_two (by omega) (by omega),digS_size]
theorem size_four {u:Nat} (h0:¬ u < 1000) (h:u < 10000):(decS u).size=4:=by rw[decS_big (show ¬ u < 10 by omega),ByteArray.size_append,size_three (by omega) (by omega),digS_size]
theorem filled_size (u:Nat):(filled u).size=(decS (u / 10000)).size + 4:=by unfold filled;rw[ByteArray.size_append,dig4_size]
theorem decS_pos (u:Nat) : 1≤(decS u).size:=by
 by_cases h:u < 10
 ·rw[size_one h];exact Nat.le_refl _
 ·rw[decS_big h,ByteArray.size_append,digS_size];omega
theorem filled_small {u:Nat} (h:u < 10000):filled u=zeroS ++ dig4 u:=by
 unfold filled;rw[show u / 10000=0 by omega,Nat.mod_eq_of_lt h,decS_zero]
 rfl
theorem extract_left (a b:ByteArray):(a ++ b).extract 0 a.size=a:=by
 apply ByteArray.ext
 simp[ByteArray.data_extract,ByteArray.data_append,Array.extract_append]
theorem extract_right (a b:ByteArray):(a ++ b).extract a.size (a ++ b).size=b:=by
 apply ByteArray.ext
 have e:a.data.size=a.size:=rfl;have e2:b.data.size=b.size:=rfl;simp only[ByteArray.data_extract,ByteArray.data_append,Array.extract_append,ByteArray.size_append,← e,← e2,Nat.sub_self,Nat.add_sub_cancel_left,Array.extract_size];rw[Array.extract_empty_of_size_le_start (Nat.le_refl _)];simp
def decB (n:Int):ByteArray:=((if n < 0 then(⟨#[45]⟩ : ByteArray) else⟨#[]⟩) ++ decS (n.natAbs / 10000)) ++ ((⟨#[46]⟩ : ByteArray) ++ dig4 (n.natAbs % 10000))
theorem low_cut (r:Nat) (h:r < 10000):(decS (r + 10000)).extract 1 (decS (r + 10000)).size=dig4 r:=by
 rw[decS_four (show ¬ r + 10000 < 10000 by omega),show(r + 10000) / 10000=1 by omega,show(r + 10000) % 10000=r by omega];have e:(decS 1).size=1:=size_one (by omega);have:=extract_right (decS 1) (dig4 r);rw[e] at this;exact this
theorem fuint_eq (u:Nat) (h:u < 18446744073709551616):zqw.f (u:Int) 10=some (decS u):=by
 unfold zqw.f;rw[if_pos ⟨rfl,by omega,by omega⟩,Int.toNat_natCast]
 rfl
theorem Ev.ifP {α:Type} {c:Prop} [Decidable c] {f g:Nat→Option α} {r : α} (h:c) (he:Ev f r):Ev (fun n=>if c then f n else g n) r:=by
 simp only[if_pos h];exact he
theorem shr_natT (e n:Nat) (hn:n≤64):shr .i64 (e:Int) (n:Int)=((e / 2 ^ n:Nat):Int):=by
 unfold shr;rw[Int.toNat_natCast,Nat.min_eq_left (show n≤IntKind.i64.bits from hn)];simp
theorem smallT:∀ x:Int,0≤x→x < 2 ^ 40→IntKind.i64.wrap x=x:=fun x h0 h1=>IntWalk.i64_in _ (by omega)
theorem and255_i (e n:Nat) (he:e < 4294967296) (hn:n≤64):Go.bits .and .i64 (shr .i64 (e:Int) (n:Int)) 255=((e / 2 ^ n % 256:Nat):Int):=by
 have hle:e / 2 ^ n≤e:=Nat.div_le_self _ _;obtain⟨q,eq⟩ : ∃ q,q=e / 2 ^ n:=⟨_,rfl⟩;rw[shr_natT e n hn,← eq];rw[← eq] at hle;rw[show(255:Int)=2 ^ 8 - 1 by decide,Go.bits_mask .i64 40 (by decide) smallT 8 (by decide) _ (by omega) (by omega)]
 omega
def blockB (e m:Nat):ByteArray:=(((((((decS (e / 16777216) ++ (⟨#[46]⟩ : ByteArray)) ++ decS (e / 65536 % 256)) ++ (⟨#[46]⟩ : ByteArray)) ++ decS (e / 256 % 256)) ++ (⟨#[46]⟩ : ByteArray)) ++ decS (e % 256)) ++ (⟨#[47]⟩ : ByteArray)) ++ decS m
def textB (k n:Int) (t ty:ByteArray):ByteArray :=
 if k=1 then(if n=1 then(⟨#[116,114,117,101]⟩ : ByteArray) else(⟨#[102,97,108,115,101]⟩ : ByteArray))
 else if k=2 then numS n
 else if k=3 then quoteB t
 else if k=4 then(ty ++ (⟨#[58,58]⟩ : ByteArray)) ++ quoteB t
 else if k=5 then decB n
 else if k=6 then blockB (n / 64).toNat (n % 64).toNat
 else(⟨#[64]⟩ : ByteArray) ++ numS n
theorem dec3 (u:Nat) (h:u < 1000):(decS u).size≤3:=decS_len u 2 (by omega)
theorem dec10 (u:Nat) (h:u < 10000000000):(decS u).size≤10:=decS_len u 9 (by omega)
theorem addr_round (e j:Nat) (he:e < 4294967296) (hj:j≤24) (s:ByteArray) (hs:s.size≤1000) (k:Nat) (a b:Int) (t ty:ByteArray) :
  vk.l0 (k + 1) (e:Int) s (j:Int) a b t ty=vk.l0 k (e:Int) (s ++ (decS (e / 2 ^ j % 256) ++ (⟨#[46]⟩ : ByteArray))) ((j:Int) - 8) a b t ty:=by
 have h3:=dec3 (e / 2 ^ j % 256) (by omega);rw[vk.l0,if_pos (show(j:Int) ≥ 0 by omega),if_pos (show 0≤(j:Int) by omega),and255_i e j he (by omega),itoa_eq _ (by omega),Option.bind_some,if_pos (by omega),if_pos (by rw[ByteArray.size_append,show(⟨#[46]⟩ : ByteArray).size=1 from rfl];omega),w64 (by omega) (by omega)]
theorem addr_end (e m:Nat) (hm:m < 64) (s:ByteArray) (hs:s.size≤1000) (k:Nat) (a b:Int) (hb:Int.tmod b 64=(m:Int)) (t ty:ByteArray) :
  vk.l0 (k + 1) (e:Int) (s ++ (⟨#[46]⟩ : ByteArray)) (-8) a b t ty=some ((s ++ (⟨#[47]⟩ : ByteArray)) ++ decS m):=by
 have h3:=dec3 m (by omega);have hsz:(s ++ (⟨#[46]⟩ : ByteArray)).size=s.size + 1:=by rw[ByteArray.size_append];rfl
 have ew:wrap64 (((s ++ (⟨#[46]⟩ : ByteArray)).size:Int) - 1)=((s.size:Nat):Int):=by rw[hsz,w64 (by omega) (by omega)];omega
 have ex:=extract_left s (⟨#[46]⟩ : ByteArray);rw[vk.l0,if_neg (by decide),ew,if_pos (by omega),if_pos (by omega),Int.toNat_natCast,ex,if_pos (by omega),hb,itoa_eq _ (by omega),Option.bind_some,if_pos (by rw[ByteArray.size_append,show(⟨#[47]⟩ : ByteArray).size=1 from rfl];omega)]
theorem addr_text (e m:Nat) (he:e < 4294967296) (hm:m < 64) (a b:Int) (hb:Int.tmod b 64=(m:Int)) (t ty:ByteArray):∀ k,5 < k→vk.l0 k (e:Int) (⟨#[]⟩ : ByteArray) 24 a b t ty=some (blockB e m):=by
 intro k hk
 obtain⟨k,rfl⟩ : ∃ q,k=q + 1 + 1 + 1 + 1 + 1:=⟨k - 5,by omega⟩;have d1:=dec3 (e / 2 ^ 24 % 256) (by omega);have d2:=dec3 (e / 2 ^ 16 % 256) (by omega);have d3:=dec3 (e / 2 ^ 8 % 256) (by omega);have d4:=dec3 (e / 2 ^ 0 % 256) (by omega);have one:(⟨#[46]⟩ : ByteArray).size=1:=rfl;have zero:(⟨#[]⟩ : ByteArray).size=0:=rfl;have r1:=addr_round e 24 he (by omega) (⟨#[]⟩ : ByteArray) (by omega) (k + 1 + 1 + 1 + 1) a b t ty;rw[show((24:Nat):Int)=24 from rfl] at r1;rw[r1];have r2:=addr_round e 16 he (by omega) ((⟨#[]⟩ : ByteArray) ++ (decS (e / 2 ^ 24 % 256) ++ (⟨#[46]⟩ : ByteArray))) (by simp only[ByteArray.size_append];omega) (k + 1 + 1 + 1) a b t ty;rw[show((16:Nat):Int)=24 - 8 from rfl] at r2;rw[r2];have r3:=addr_round e 8 he (by omega) (((⟨#[]⟩ : ByteArray) ++ (decS (e / 2 ^ 24 % 256) ++ (⟨#[46]⟩ : ByteArray))) ++ (decS (e / 2 ^ 16 % 256) ++ (⟨#[46]⟩ : ByteArray))) (by simp only[ByteArray.size_append];omega) (k + 1 + 1) a b t ty;rw[show((8:Nat):Int)=24 - 8 - 8 from rfl] at r3;rw[r3];have r4:=addr_round e 0 he (by omega) ((((⟨#[]⟩ : ByteArray) ++ (decS (e / 2 ^ 24 % 256) ++ (⟨#[46]⟩ : ByteArray))) ++ (decS (e / 2 ^ 16 % 256) ++ (⟨#[46]⟩ : ByteArray))) ++ (decS (e / 2 ^ 8 % 256) ++ (⟨#[46]⟩ : ByteArray))) (by simp only[ByteArray.size_append];omega) (k + 1) a b t ty;rw[show((0:Nat):Int)=24 - 8 - 8 - 8 from rfl] at r4;rw[r4];have r5:=addr_end e m hm (((((⟨#[]⟩ : ByteArray) ++ (decS (e / 2 ^ 24 % 256) ++ (⟨#[46]⟩ : ByteArray))) ++ (decS (e / 2 ^ 16 % 256) ++ (⟨#[46]⟩ : ByteArray))) ++ (decS (e / 2 ^ 8 % 256) ++ (⟨#[46]⟩ : ByteArray))) ++ decS (e / 2 ^ 0 % 256)) (by simp only[ByteArray.size_append];omega) k a b hb t ty;rw[show(-8:Int)=24 - 8 - 8 - 8 - 8 from rfl,ByteArray.append_assoc] at r5;rw[r5]
 congr 1
 unfold blockB;rw[show e / 2 ^ 24 % 256=e / 16777216 by omega,show e / 2 ^ 16 % 256=e / 65536 % 256 by omega,show e / 2 ^ 8 % 256=e / 256 % 256 by omega,show e / 2 ^ 0 % 256=e % 256 by omega];rw[show(⟨#[]⟩ : ByteArray) ++ (decS (e / 16777216) ++ (⟨#[46]⟩ : ByteArray))=decS (e / 16777216) ++ (⟨#[46]⟩ : ByteArray) by apply ByteArray.ext;simp];simp only[ByteArray.append_assoc]
theorem fill_step (x:ByteArray) (hx:x.size < 5) (k:Nat) (a n:Int) (t ty:ByteArray):qwj.l0 (k + 1) x a n t ty=qwj.l0 k (zeroS ++ x) a n t ty:=by
 rw[qwj.l0,if_pos (by omega),if_pos (by omega)]
 rfl
theorem fill_end (n:Int) (hn:okI n) (k:Nat) (a:Int) (t ty:ByteArray):qwj.l0 (k + 1) (filled n.natAbs) a n t ty=some (decB n):=by
 have h1:=hn.1;have h2:=hn.2;have hp:=decS_pos (n.natAbs / 10000);have hl:=decS_le (n.natAbs / 10000) (by omega);have hsz:=filled_size n.natAbs;have ew:wrap64 (((filled n.natAbs).size:Int) - 4)=(((decS (n.natAbs / 10000)).size:Nat):Int):=by rw[hsz,w64 (by omega) (by omega)];omega
 have x1:(filled n.natAbs).extract 0 (decS (n.natAbs / 10000)).size=decS (n.natAbs / 10000):=extract_left _ _;have x2:(filled n.natAbs).extract (decS (n.natAbs / 10000)).size (filled n.natAbs).size=dig4 (n.natAbs % 10000):=extract_right _ _;have one:(⟨#[46]⟩ : ByteArray).size=1:=rfl;rw[qwj.l0,if_neg (by omega),ew,if_pos (by omega),if_pos (by omega),Int.toNat_natCast,x1,x2,if_pos (by omega),if_pos (by rw[ByteArray.size_append,dig4_size,one];omega)];unfold decB
 by_cases hneg:n < 0
 ·rw[if_pos hneg,if_pos hneg,if_pos (by simp only[ByteArray.size_append,dig4_size,one];omega)];simp only[ByteArray.append_assoc]
 ·rw[if_neg hneg,if_neg hneg]
  congr 1
  rw[show(⟨#[]⟩ : ByteArray) ++ decS (n.natAbs / 10000)=decS (n.natAbs / 10000) by apply ByteArray.ext;simp];simp only[ByteArray.append_assoc]
theorem fill_text (n:Int) (hn:okI n) (a:Int) (t ty:ByteArray):∀ k,6 < k→qwj.l0 k (decS n.natAbs) a n t ty=some (decB n):=by
 intro k hk
 obtain⟨k,rfl⟩ : ∃ q,k=q + 1 + 1 + 1 + 1 + 1:=⟨k - 5,by omega⟩;have fe:=fun q=>fill_end n hn q a t ty
 obtain⟨u,eu⟩ : ∃ u,u=n.natAbs:=⟨_,rfl⟩;rw[← eu] at fe ⊢;have z1:zeroS.size=1:=rfl
 by_cases c1:u < 10
 ·have e:=fill_one c1;rw[← filled_small (by omega)] at e;have hs:=size_one c1;rw[fill_step _ (by omega),fill_step _ (by simp only[ByteArray.size_append];omega),fill_step _ (by simp only[ByteArray.size_append];omega),fill_step _ (by simp only[ByteArray.size_append];omega),e];exact fe _
 by_cases c2:u < 100
 ·have e:=fill_two c1 c2;rw[← filled_small (by omega)] at e;have hs:=size_two c1 c2;rw[fill_step _ (by omega),fill_step _ (by simp only[ByteArray.size_append];omega),fill_step _ (by simp only[ByteArray.size_append];omega),e];exact fe _
 by_cases c3:u < 1000
 ·have e:=fill_three c2 c3;rw[← filled_small (by omega)] at e;have hs:=size_three c2 c3;rw[fill_step _ (by omega),fill_step _ (by simp only[ByteArray.size_append];omega),e];exact fe _
 by_cases c4:u < 10000
 ·have e:=fill_four c3 c4;rw[← filled_small (by omega)] at e;have hs:=size_four c3 c4;rw[fill_step _ (by omega),e];exact fe _
 rw[show decS u=filled u from decS_four c4];exact fe _
theorem u64_nonneg (n:Int) (h0 : 0≤n) (h1:n≤9223372036854775807):IntKind.u64.wrap n=n:=by rw[IntKind.wrap_u64];omega
theorem u64_negneg (n:Int) (h0:n < 0) (h1 : -9223372036854775808≤n):IntKind.u64.wrap (-(IntKind.u64.wrap n))=((n.natAbs:Nat):Int):=by rw[IntKind.wrap_u64,IntKind.wrap_u64];omega
theorem dec_parts (u:Nat) (hu:u≤9223372036854775808):zqw.f (IntKind.u64.wrap ((Int.tmod (u:Int) 10000) + 10000)) 10=some (decS (u % 10000 + 10000))∧zqw.f (IntKind.u64.wrap (Int.tdiv (u:Int) 10000)) 10=some (decS (u / 10000)):=by
 rw[Int.tmod_eq_emod_of_nonneg (by omega),Int.tdiv_eq_ediv_of_nonneg (by omega)];rw[show IntKind.u64.wrap ((u:Int) % 10000 + 10000)=((u % 10000 + 10000:Nat):Int) by rw[IntKind.wrap_u64];omega,show IntKind.u64.wrap ((u:Int) / 10000)=((u / 10000:Nat):Int) by rw[IntKind.wrap_u64];omega];exact⟨fuint_eq _ (by omega),fuint_eq _ (by omega)⟩
theorem good_six {n:Int} {t ty:ByteArray} (h:goodAtom 6 n t ty=true):blkOk n:=by
 simp only[goodAtom,noTexts,if_neg (show ¬ (6:Int)=1 by omega),if_neg (show ¬ ((6:Int)=2∨(6:Int)=5) by omega),if_neg (show ¬ (6:Int)=3 by omega),if_neg (show ¬ (6:Int)=4 by omega),if_true,Bool.and_eq_true,decide_eq_true_eq] at h;exact h.2
theorem good_text {k n:Int} {t ty:ByteArray} (h:goodAtom k n t ty=true) (hk:k=3∨k=4):t.size≤200∧ty.size≤30:=by
 rcases hk with rfl|rfl
 ·simp only[goodAtom,if_neg (show ¬ (3:Int)=1 by omega),if_neg (show ¬ ((3:Int)=2∨(3:Int)=5) by omega),if_true,Bool.and_eq_true,decide_eq_true_eq] at h;exact⟨h.2.1,by rw[h.1.2];omega⟩
 ·simp only[goodAtom,if_neg (show ¬ (4:Int)=1 by omega),if_neg (show ¬ ((4:Int)=2∨(4:Int)=5) by omega),if_neg (show ¬ (4:Int)=3 by omega),if_true,Bool.and_eq_true,decide_eq_true_eq] at h;exact⟨h.2.2.1.2,(name_size h.2.1).2⟩
theorem blk_parts {n:Int} (h:blkOk n) (hi:n≤9223372036854775807):∃ e m:Nat,(n / 64).toNat=e∧(n % 64).toNat=m∧e < 4294967296∧m < 64∧wrap64 (Int.tdiv n 64)=(e:Int)∧Int.tmod n 64=(m:Int):=by
 have h0:=h.1;have h2:=h.2.2.1;refine⟨(n / 64).toNat,(n % 64).toNat,rfl,rfl,by omega,by omega,?_,?_⟩
 ·rw[Int.tdiv_eq_ediv_of_nonneg h0,w64 (by omega) (by omega)];omega
 ·rw[Int.tmod_eq_emod_of_nonneg h0];omega
theorem implText_ev (k n:Int) (t ty:ByteArray) (ht:t.size≤9223372036854775807) (hty:ty.size≤9223372036854775807) (hn:okI n) :
  Ev (fun f=>vk.f f k n t ty) (if goodAtom k n t ty=true then textB k n t ty else⟨#[]⟩):=by
 simp only[vk.f];refine Ev.bind (implGoodAtom_ev k n t ty ht hty (fun _=>hn)) ?_
 by_cases hg:goodAtom k n t ty=true
 case neg=>simp only[if_neg hg];exact Ev.now _
 simp only[if_pos hg];have hnum:=numS_le n hn;have h1:=hn.1;have h2:=hn.2;unfold textB
 by_cases k1:k=1
 ·simp only[if_pos k1,zqk.f,zqv.f]
  by_cases hz:n=1
  ·subst hz;exact Ev.now _
  ·rw[show(n == 1)=false from beq_eq_false_iff_ne.2 hz];simp only[if_neg hz,Bool.false_eq_true,if_false,Option.bind_some];exact Ev.now _
 simp only[if_neg k1]
 by_cases k2:k=2
 ·simp only[if_pos k2,itoa_all n hn,Option.bind_some];exact Ev.now _
 simp only[if_neg k2]
 by_cases k3:k=3
 ·have hs:=(good_text hg (.inl k3)).1;simp only[if_pos k3,yquote_eq t (by omega),Option.bind_some];exact Ev.now _
 simp only[if_neg k3]
 by_cases k4:k=4
 ·have hs:=good_text hg (.inr k4);have hq:=quoteB_le t;simp only[if_pos k4,if_pos (show ty.size + 2≤9223372036854775807 by omega),yquote_eq t (by omega),Option.bind_some,if_pos (show(ty ++ (⟨#[58,58]⟩ : ByteArray)).size + (quoteB t).size≤9223372036854775807 by rw[ByteArray.size_append,show(⟨#[58,58]⟩ : ByteArray).size=2 from rfl];omega)];exact Ev.now _
 simp only[if_neg k4]
 by_cases k5:k=5
 ·simp only[if_pos k5];have hp:=decS_pos (n.natAbs / 10000);have hl:=decS_le (n.natAbs / 10000) (by omega);have hlow:=low_cut (n.natAbs % 10000) (by omega);have hpos:=decS_pos (n.natAbs % 10000 + 10000);have z0:(⟨#[]⟩ : ByteArray).size=0:=rfl;have z1:(⟨#[45]⟩ : ByteArray).size=1:=rfl;have z2:(⟨#[46]⟩ : ByteArray).size=1:=rfl;have d4:=dig4_size (n.natAbs % 10000);obtain⟨p1,p2⟩:=dec_parts n.natAbs (by omega)
  by_cases hneg:n < 0
  ·simp only[if_pos hneg,u64_negneg n hneg h1,p1,p2,Option.bind_some,hlow];simp only[if_pos (show 1 + (decS (n.natAbs / 10000)).size≤9223372036854775807 by omega),if_pos (show((⟨#[45]⟩ : ByteArray) ++ decS (n.natAbs / 10000)).size + 1≤9223372036854775807 by rw[ByteArray.size_append];omega),if_pos (show 1≤((decS (n.natAbs % 10000 + 10000)).size:Int) by omega),if_pos (show(((⟨#[45]⟩ : ByteArray) ++ decS (n.natAbs / 10000)) ++ (⟨#[46]⟩ : ByteArray)).size + (dig4 (n.natAbs % 10000)).size≤9223372036854775807 by simp only[ByteArray.size_append];omega)];have e:((((⟨#[45]⟩ : ByteArray) ++ decS (n.natAbs / 10000)) ++ (⟨#[46]⟩ : ByteArray)) ++ dig4 (n.natAbs % 10000))=decB n:=by unfold decB;rw[if_pos hneg];simp only[ByteArray.append_assoc]
   rw[e];exact Ev.now _
  ·have en:n=((n.natAbs:Nat):Int):=by omega
   have eu:IntKind.u64.wrap n=((n.natAbs:Nat):Int):=by rw[u64_nonneg n (by omega) h2];exact en
   simp only[if_neg hneg,eu,p1,p2,Option.bind_some,hlow];simp only[if_pos (show 0 + (decS (n.natAbs / 10000)).size≤9223372036854775807 by omega),if_pos (show((⟨#[]⟩ : ByteArray) ++ decS (n.natAbs / 10000)).size + 1≤9223372036854775807 by rw[ByteArray.size_append];omega),if_pos (show 1≤((decS (n.natAbs % 10000 + 10000)).size:Int) by omega),if_pos (show(((⟨#[]⟩ : ByteArray) ++ decS (n.natAbs / 10000)) ++ (⟨#[46]⟩ : ByteArray)).size + (dig4 (n.natAbs % 10000)).size≤9223372036854775807 by simp only[ByteArray.size_append];omega)];have e:((((⟨#[]⟩ : ByteArray) ++ decS (n.natAbs / 10000)) ++ (⟨#[46]⟩ : ByteArray)) ++ dig4 (n.natAbs % 10000))=decB n:=by unfold decB;rw[if_neg hneg];simp only[ByteArray.append_assoc]
   rw[e];exact Ev.now _
 simp only[if_neg k5]
 by_cases k6:k=6
 ·subst k6;obtain⟨e,m,e1,e2,he,hm,e3,e4⟩:=blk_parts (good_six hg) h2;simp only[if_true,e1,e2,e3];exact⟨6,fun f hf=>addr_text e m he hm _ n e4 t ty f (by omega)⟩
 simp only[if_neg k6,itoa_all n hn,Option.bind_some,if_pos (show 1 + (numS n).size≤9223372036854775807 by omega)];exact Ev.now _
theorem specText_ev (k n:Int) (t ty:ByteArray) (hn:okI n) (hg:goodAtom k n t ty=true):Ev (fun f=>qwj.f f k n t ty) (textB k n t ty):=by
 simp only[qwj.f];have hnum:=numS_le n hn;have h1:=hn.1;have h2:=hn.2;unfold textB
 by_cases k1:k=1
 ·simp only[if_pos k1]
  by_cases hz:n=1
  ·simp only[if_pos hz];exact Ev.now _
  ·simp only[if_neg hz];exact Ev.now _
 simp only[if_neg k1]
 by_cases k2:k=2
 ·simp only[if_pos k2];exact Ev.bind (l1Num_all n hn) (Ev.now _)
 simp only[if_neg k2]
 by_cases k3:k=3
 ·have hs:=(good_text hg (.inl k3)).1;simp only[if_pos k3];exact Ev.bind (l1Quoted_ev t (by omega)) (Ev.now _)
 simp only[if_neg k3]
 by_cases k4:k=4
 ·have hs:=good_text hg (.inr k4);have hq:=quoteB_le t;simp only[if_pos k4,if_pos (show ty.size + 2≤9223372036854775807 by omega)];refine Ev.bind (l1Quoted_ev t (by omega)) ?_;simp only[if_pos (show(ty ++ (⟨#[58,58]⟩ : ByteArray)).size + (quoteB t).size≤9223372036854775807 by rw[ByteArray.size_append,show(⟨#[58,58]⟩ : ByteArray).size=2 from rfl];omega)];exact Ev.now _
 simp only[if_neg k4]
 by_cases k5:k=5
 ·simp only[if_pos k5];refine Ev.bind (l1Size_ev n hn) ?_;exact⟨7,fun f hf=>fill_text n hn _ t ty f (by omega)⟩
 simp only[if_neg k5]
 by_cases k6:k=6
 ·subst k6;have hb:=good_six hg;have hb1:=hb.2.1;obtain⟨e,m,e1,e2,he,hm,e3,e4⟩:=blk_parts hb h2;have ew:wrap64 (32 - (m:Int))=((32 - m:Nat):Int):=by rw[w64 (by omega) (by omega)];omega
  have eb:Ev (fun f=>qkx.f f 6 n t ty) ((e:Int),2 ^ (32 - m)):=by
   simp only[qkx.f,e3,e4,ew];exact Ev.bind ⟨40,fun k hk=>pow2_eq _ (by omega) k (by omega)⟩ (Ev.now _)
  simp only[if_true,e1,e2];refine Ev.bind eb ?_;have q1:wrap64 (Int.tdiv (e:Int) 16777216)=((e / 16777216:Nat):Int):=by rw[Int.tdiv_eq_ediv_of_nonneg (by omega),w64 (by omega) (by omega)];omega
  have q2:Int.tmod (wrap64 (Int.tdiv (e:Int) 65536)) 256=((e / 65536 % 256:Nat):Int):=by rw[Int.tdiv_eq_ediv_of_nonneg (by omega),w64 (by omega) (by omega),Int.tmod_eq_emod_of_nonneg (by omega)];omega
  have q3:Int.tmod (wrap64 (Int.tdiv (e:Int) 256)) 256=((e / 256 % 256:Nat):Int):=by rw[Int.tdiv_eq_ediv_of_nonneg (by omega),w64 (by omega) (by omega),Int.tmod_eq_emod_of_nonneg (by omega)];omega
  have q4:Int.tmod (e:Int) 256=((e % 256:Nat):Int):=by rw[Int.tmod_eq_emod_of_nonneg (by omega)];omega
  have d1:=dec10 (e / 16777216) (by omega);have d2:=dec3 (e / 65536 % 256) (by omega);have d3:=dec3 (e / 256 % 256) (by omega);have d4:=dec3 (e % 256) (by omega);have d5:=dec3 m (by omega);have z2:(⟨#[46]⟩ : ByteArray).size=1:=rfl;have z3:(⟨#[47]⟩ : ByteArray).size=1:=rfl;simp only[q1,q2,q3,q4,e4];refine Ev.bind (l1Num_ev _ (by omega)) ?_;simp only[if_pos (show(decS (e / 16777216)).size + 1≤9223372036854775807 by omega)];refine Ev.bind (l1Num_ev _ (by omega)) ?_;refine Ev.ifP (by simp only[ByteArray.size_append];omega) ?_;refine Ev.ifP (by simp only[ByteArray.size_append];omega) ?_;refine Ev.bind (l1Num_ev _ (by omega)) ?_;refine Ev.ifP (by simp only[ByteArray.size_append];omega) ?_;refine Ev.ifP (by simp only[ByteArray.size_append];omega) ?_;refine Ev.bind (l1Num_ev _ (by omega)) ?_;refine Ev.ifP (by simp only[ByteArray.size_append];omega) ?_;refine Ev.ifP (by simp only[ByteArray.size_append];omega) ?_;refine Ev.bind (l1Num_ev _ (by omega)) ?_;refine Ev.ifP (by simp only[ByteArray.size_append];omega) ?_;exact Ev.now _
 simp only[if_neg k6];refine Ev.bind (l1Num_all n hn) ?_;simp only[if_pos (show 1 + (numS n).size≤9223372036854775807 by omega)];exact Ev.now _
theorem textB_le {k m:Int} {t ty:ByteArray} (h:goodAtom k m t ty=true) (hm:okI m):(textB k m t ty).size≤500:=by
 have hnum:=numS_le m hm;have h1:=hm.1;have h2:=hm.2;have hq:=quoteB_le t;unfold textB
 by_cases k1:k=1
 ·rw[if_pos k1];split <;> decide
 rw[if_neg k1]
 by_cases k2:k=2
 ·rw[if_pos k2];omega
 rw[if_neg k2]
 by_cases k3:k=3
 ·have hs:=(good_text h (.inl k3)).1;rw[if_pos k3];omega
 rw[if_neg k3]
 by_cases k4:k=4
 ·have hs:=good_text h (.inr k4);rw[if_pos k4];simp only[ByteArray.size_append,show(⟨#[58,58]⟩ : ByteArray).size=2 from rfl];omega
 rw[if_neg k4]
 by_cases k5:k=5
 ·have hl:=decS_le (m.natAbs / 10000) (by omega);rw[if_pos k5];unfold decB;have e:(if m < 0 then(⟨#[45]⟩ : ByteArray) else⟨#[]⟩).size≤1:=by split <;> decide
  simp only[ByteArray.size_append,dig4_size,show(⟨#[46]⟩ : ByteArray).size=1 from rfl];omega
 rw[if_neg k5]
 by_cases k6:k=6
 ·subst k6;obtain⟨e,q,e1,e2,he,hq,e3,e4⟩:=blk_parts (good_six h) h2;rw[if_pos rfl,e1,e2];have d1:=dec10 (e / 16777216) (by omega);have d2:=dec3 (e / 65536 % 256) (by omega);have d3:=dec3 (e / 256 % 256) (by omega);have d4:=dec3 (e % 256) (by omega);have d5:=dec3 q (by omega);unfold blockB;simp only[ByteArray.size_append,show(⟨#[46]⟩ : ByteArray).size=1 from rfl,show(⟨#[47]⟩ : ByteArray).size=1 from rfl];omega
 rw[if_neg k6];simp only[ByteArray.size_append,show(⟨#[64]⟩ : ByteArray).size=1 from rfl];omega
theorem Ev.upW {α:Type} {g:Nat→Option α} {r : α} (h:Ev (fun k=>g (k + 1)) r):Ev g r:=by
 obtain⟨n,h⟩:=h;refine⟨n + 1,fun k hk=>?_⟩;obtain⟨k,rfl⟩ : ∃ m,k=m + 1:=⟨k - 1,by omega⟩;exact h k (by omega)
theorem wrap_succ {i n:Nat} (h:i < n) (hn:n≤281474976710656):wrap64 ((i:Int) + 1)=((i + 1:Nat):Int):=by rw[w64 (by omega) (by omega)];rfl
theorem rows_sz {α:Type} (l:List α) (ok small : α→Prop) (F:Nat→Int→Int→Option Int) (g:Nat→α→Int→Option Int) (hlen:l.length≤1048576)
  (hstop:∀ k x,F (k + 1) x (l.length:Int)=some x)
  (hstep:∀ (k:Nat) (i:Nat) (h:i < l.length) (x:Int),F (k + 1) x (i:Int)=(g k l[i] x).bind fun t=>if t < 0 then some (-1) else F k t ((i + 1:Nat):Int))
  (hok:∀ e ∈ l,ok e) (hg:∀ e,ok e→∀ left:Int,0≤left→left≤1048576→∃ r:Int,Ev (fun k=>g k e left) r∧r≤1048576∧(¬ r < 0→small e)) (d:Nat) :
  ∀ (i:Nat) (left:Int),i + d=l.length→0≤left→left≤1048576→∃ r:Int,Ev (fun k=>F k left (i:Int)) r∧r≤1048576∧(¬ r < 0→∀ j (h:j < l.length),i≤j→small l[j]):=by
 induction d with
 | zero =>
  intro i left hi h0 h1
  obtain rfl:i=l.length:=by omega
  refine⟨left,Ev.upW ?_,h1,fun _ j hj hij=>by omega⟩;simp only[hstop];exact Ev.now _
 | succ d ih =>
  intro i left hi h0 h1
  have hlt:i < l.length:=by omega
  obtain⟨r1,e1,hr1,hs1⟩:=hg l[i] (hok _ (List.getElem_mem hlt)) left h0 h1
  by_cases hneg:r1 < 0
  ·refine⟨-1,Ev.upW ?_,by omega,fun h=>by omega⟩;simp only[hstep _ i hlt];refine Ev.bind e1 ?_;simp only[if_pos hneg];exact Ev.now _
  ·obtain⟨r,er,hr1',hr⟩:=ih (i + 1) r1 (by omega) (by omega) hr1;refine⟨r,Ev.upW ?_,hr1',fun hn j hj hij=>?_⟩
   ·simp only[hstep _ i hlt];refine Ev.bind e1 ?_;simp only[if_neg hneg];exact er
   ·by_cases hji:j=i
    ·subst hji;exact hs1 hneg
    ·exact hr hn j hj (by omega)
theorem rows_szf {α:Type} (l:List α) (ok small : α→Prop) (G:Nat→Int→Option Int) (F:Nat→Int→Int→Option Int) (g:Nat→α→Int→Option Int) (left:Int) (h0 : 0≤left) (h1:left≤1048576) (hmax:l.length≤9223372036854775807)
  (hG:∀ k,G k left=if wrap64 (left - (l.length:Int)) < 0 then some (-1) else F k (wrap64 (left - (l.length:Int))) 0)
  (hstop:∀ k x,F (k + 1) x (l.length:Int)=some x)
  (hstep:l.length≤1048576→∀ (k:Nat) (i:Nat) (h:i < l.length) (x:Int),F (k + 1) x (i:Int)=(g k l[i] x).bind fun t=>if t < 0 then some (-1) else F k t ((i + 1:Nat):Int))
  (hok:∀ e ∈ l,ok e) (hg:∀ e,ok e→∀ left:Int,0≤left→left≤1048576→∃ r:Int,Ev (fun k=>g k e left) r∧r≤1048576∧(¬ r < 0→small e)) :
  ∃ r:Int,Ev (fun k=>G k left) r∧r≤1048576∧(¬ r < 0→l.length≤1048576∧∀ e ∈ l,small e):=by
 have ew:wrap64 (left - (l.length:Int))=left - (l.length:Int):=w64 (by omega) (by omega)
 by_cases h:(l.length:Int)≤left
 ·obtain⟨r,er,hr1,hr⟩:=rows_sz l ok small F g (by omega) hstop (hstep (by omega)) hok hg l.length 0 (left - (l.length:Int)) (by omega) (by omega) (by omega);refine⟨r,?_,hr1,fun hn=>⟨by omega,fun e he=>?_⟩⟩
  ·simp only[hG,ew,if_neg (show ¬ left - (l.length:Int) < 0 by omega)];exact er
  ·obtain⟨j,hj,rfl⟩:=List.getElem_of_mem he;exact hr hn j hj (by omega)
 ·refine⟨-1,?_,by omega,fun hn=>by omega⟩;simp only[hG,ew,if_pos (show left - (l.length:Int) < 0 by omega)];exact Ev.now _
theorem set_midW {α:Type} (A:List α) (z v : α) (m i:Nat) (h:A.length=i):(A ++ List.replicate (m + 1) z).set i v=(A ++ [v]) ++ List.replicate m z:=by
 subst h;rw[List.set_append_right _ _ (Nat.le_refl _),Nat.sub_self,List.replicate_succ,jq6,List.append_assoc]
 rfl
theorem rows_to {α β γ:Type} (l:List α) (z : β) (F:Nat→List β→Int→Option (List β)) (g:Nat→α→Option γ) (mk : γ→β) (cp : α→β) (hlen:l.length≤1048576)
  (hstop:∀ k x,F (k + 1) x (l.length:Int)=some x)
  (hstep:∀ (k:Nat) (i:Nat) (h:i < l.length) (x:List β),x.length=l.length→F (k + 1) x (i:Int)=(g k l[i]).bind fun t=>F k (x.set i (mk t)) ((i + 1:Nat):Int))
  (hg:∀ e ∈ l,∃ t,Ev (fun k=>g k e) t∧mk t=cp e) (d:Nat) :
  ∀ i,i + d=l.length→Ev (fun k=>F k ((l.take i).map cp ++ List.replicate d z) (i:Int)) (l.map cp):=by
 induction d with
 | zero =>
  intro i hi
  obtain rfl:i=l.length:=by omega
  refine Ev.upW ?_;simp only[hstop];rw[List.take_length,List.replicate_zero,List.append_nil];exact Ev.now _
 | succ d ih =>
  intro i hi
  have hlt:i < l.length:=by omega
  obtain⟨t,et,ht⟩:=hg _ (List.getElem_mem hlt);have hlA:((l.take i).map cp).length=i:=by rw[List.length_map,jq4];omega
  have hl3:((l.take i).map cp ++ List.replicate (d + 1) z).length=l.length:=by rw[List.length_append,hlA,List.length_replicate];omega
  refine Ev.upW ?_;simp only[hstep _ i hlt _ hl3];refine Ev.bind et ?_;rw[ht,set_midW _ _ _ _ _ hlA];have hn:=ih (i + 1) (by omega);rw[List.take_succ_eq_append_getElem hlt,List.map_append,List.map_singleton] at hn;exact hn
theorem rows_eq {α:Type} (l:List α) (F:Nat→Int→Option Bool) (g:Nat→α→Option Bool) (hlen:l.length≤1048576)
  (hstop:∀ k,F (k + 1) (l.length:Int)=some true)
  (hstep:∀ (k:Nat) (i:Nat) (h:i < l.length),F (k + 1) (i:Int)=(g k l[i]).bind fun t=>if t=true then F k ((i + 1:Nat):Int) else some false)
  (hg:∀ e ∈ l,Ev (fun k=>g k e) true) (d:Nat):∀ i,i + d=l.length→Ev (fun k=>F k (i:Int)) true:=by
 induction d with
 | zero =>
  intro i hi
  obtain rfl:i=l.length:=by omega
  refine Ev.upW ?_;simp only[hstop];exact Ev.now _
 | succ d ih =>
  intro i hi
  have hlt:i < l.length:=by omega
  refine Ev.upW ?_;simp only[hstep _ i hlt];refine Ev.bind (hg _ (List.getElem_mem hlt)) ?_;simp only[if_true];exact ih (i + 1) (by omega)
theorem rdStr_nat {l:List ByteArray} {i:Nat} (h:i < l.length):rdOf ByteArray.empty l (i:Int)=l[i]:=by simp[rdOf,List.getD_eq_getElem?_getD,List.getElem?_eq_getElem h]
theorem szStringS_ev (l:List ByteArray) (hok:∀ e ∈ l,okS e) (hmax:l.length≤9223372036854775807) (left:Int) (h0 : 0≤left) (h1:left≤1048576):∃ r:Int,Ev (fun k=>qjz.f k l left) r∧r≤1048576∧(¬ r < 0→l.length≤1048576∧∀ e ∈ l,e.size≤1048576) :=
 rows_szf l okS (fun e=>e.size≤1048576) (fun k x=>qjz.f k l x) (fun k x i=>qjz.l0 k l x i) (fun _ e x=>if wrap64 (x - (e.size:Int)) < 0 then some (-1) else some (wrap64 (x - (e.size:Int)))) left h0 h1 hmax (fun _=>rfl)
  (fun k x=>by simp only[qjz.l0,if_neg (Int.lt_irrefl _)])
  (fun hl k i h x=>by
   simp only[qjz.l0,if_pos (show(i:Int) < (l.length:Int) by omega),if_pos (Int.natCast_nonneg i),rdStr_nat h,wrap_succ h (by omega)]
   by_cases hc:wrap64 (x - (l[i].size:Int)) < 0
   ·simp only[if_pos hc,Option.bind_some,if_pos (show(-1:Int) < 0 by decide)]
   ·simp only[if_neg hc,Option.bind_some])
  hok (fun e he x hx0 hx1=>by
   unfold okS at he;have ew:wrap64 (x - (e.size:Int))=x - (e.size:Int):=w64 (by omega) (by omega)
   by_cases hc:x - (e.size:Int) < 0
   ·exact⟨-1,by simp only[ew,if_pos hc];exact Ev.now _,by omega,fun h=>by omega⟩
   ·exact⟨x - (e.size:Int),by simp only[ew,if_neg hc];exact Ev.now _,by omega,fun h=>by omega⟩)
theorem toStringS_ev (l:List ByteArray) (hlen:l.length≤1048576):Ev (fun k=>qjw.f k l) l:=by
 simp only[qjw.f,if_pos (Int.natCast_nonneg l.length),Int.toNat_natCast,if_pos (show l.length≤17592186044416 by omega)]
 have:=rows_to l (⟨#[]⟩ : ByteArray) (fun k x i=>qjw.l0 k l x i) (fun _ e=>some e) id id hlen
  (fun k x=>by simp only[qjw.l0,if_neg (Int.lt_irrefl _)])
  (fun k i h x hx=>by simp only[qjw.l0,if_pos (show(i:Int) < (l.length:Int) by omega),if_pos (Int.natCast_nonneg i),rdStr_nat h,wrap_succ h (by omega),if_pos (show(i:Int) < (x.length:Int) by omega),Int.toNat_natCast,Option.bind_some,id])
  (fun e _=>⟨e,Ev.now _,rfl⟩) l.length 0 (by omega)
 rw[List.take_zero,jq2,List.nil_append,List.map_id] at this;exact this
theorem eqStringS_refl (l:List ByteArray) (hlen:l.length≤1048576):Ev (fun k=>qzv.f k l l) true:=by
 simp only[qzv.f,if_true]
 exact rows_eq l (fun k i=>qzv.l0 k l l i) (fun _ e=>some true) hlen
  (fun k=>by simp only[qzv.l0,if_neg (Int.lt_irrefl _)])
  (fun k i h=>by simp only[qzv.l0,if_pos (show(i:Int) < (l.length:Int) by omega),if_pos (Int.natCast_nonneg i),rdStr_nat h,wrap_succ h (by omega),if_true,Option.bind_some])
  (fun e _=>Ev.now _) l.length 0 (by omega)
def cmpB:List UInt8→List UInt8→Int
 | [],[]=>0
 | [],_ :: _=>-1
 | _ :: _,[]=>1
 | a :: x,b :: y=>if a.toNat=b.toNat then cmpB x y else if a.toNat < b.toNat then -1 else 1
theorem cmpB_less:∀ x y:List UInt8,Op.bytesLess x y=decide (cmpB x y < 0)
 | [],[]=>by unfold Op.bytesLess cmpB;rfl
 | [],_ :: _=>by unfold Op.bytesLess cmpB;rfl
 | _ :: _,[]=>by unfold Op.bytesLess cmpB;rfl
 | a :: x,b :: y=>by
  unfold Op.bytesLess cmpB
  by_cases h:a.toNat=b.toNat
  ·obtain rfl:a=b:=UInt8.toNat_inj.1 h;rw[if_pos rfl,cmpB_less x y];have h2:decide (a < a)=false:=decide_eq_false (by rw[UInt8.lt_iff_toNat_lt];omega);rw[h2];simp
  ·have hne:(a == b)=false:=by rw[beq_eq_false_iff_ne];intro e;exact h (by rw[e])
   rw[if_neg h,hne,Bool.false_and,Bool.or_false]
   by_cases h3:a.toNat < b.toNat
   ·rw[if_pos h3,decide_eq_true (UInt8.lt_iff_toNat_lt.2 h3)];rfl
   ·rw[if_neg h3,decide_eq_false (fun e=>h3 (UInt8.lt_iff_toNat_lt.1 e))];rfl
theorem bt_list (s:ByteArray) (i:Nat) (h:i < s.size):∃ hl:i < s.toList.length,bt s (i:Int)=(s.toList[i].toNat:Int):=by
 have hl:i < s.toList.length:=by rw[ByteArray.toList_eq,data_length];exact h
 refine⟨hl,?_⟩;unfold bt;simp only[Int.toNat_natCast,dif_pos h];simp only[ByteArray.toList_eq]
 rfl
theorem toList_len (s:ByteArray):s.toList.length=s.size:=by rw[ByteArray.toList_eq,data_length]
theorem cmpT_l0 (a b:ByteArray) (ha:a.size≤4611686018427387904) (hb:b.size≤4611686018427387904) (d:Nat):∀ (k i:Nat),i + d=a.size→i≤b.size→2 * d + 2≤k→qvz.l0 k a b (i:Int)=some (cmpB (a.toList.drop i) (b.toList.drop i)):=by
 induction d with
 | zero =>
  intro k i hi hib hk
  obtain⟨k,rfl⟩ : ∃ m,k=m + 2:=⟨k - 2,by omega⟩;have e1:a.toList.drop i=[]:=List.drop_of_length_le (by rw[toList_len];omega);simp only[qvz.l0];rw[if_neg (by omega)];simp only[qvz.j1,qvq.f,if_neg (show ¬ (false=true) by decide)];rw[e1]
  by_cases hlt:i < b.size
  ·rw[if_pos (by omega),List.drop_eq_getElem_cons (by rw[toList_len];exact hlt)]
   rfl
  ·rw[if_neg (by omega),if_neg (by omega),show b.toList.drop i=[] from List.drop_of_length_le (by rw[toList_len];omega)]
   rfl
 | succ d ih =>
  intro k i hi hib hk
  obtain⟨k,rfl⟩ : ∃ m,k=m + 2:=⟨k - 2,by omega⟩;obtain⟨hl,eb⟩:=bt_list a i (by omega);simp only[qvz.l0];rw[if_pos (by omega),List.drop_eq_getElem_cons hl]
  by_cases hlt:i < b.size
  ·obtain⟨hl2,eb2⟩:=bt_list b i hlt;rw[List.drop_eq_getElem_cons hl2];simp only[qvz.j1,decide_eq_true (show(i:Int) < (b.size:Int) by omega),if_true];rw[if_pos (by omega),if_pos (by omega),if_pos (by omega),eb,eb2];unfold cmpB;have h1:a.toList[i].toNat < 256:=UInt8.toNat_lt _;have h2:b.toList[i].toNat < 256:=UInt8.toNat_lt _
   by_cases he:a.toList[i].toNat=b.toList[i].toNat
   ·rw[if_pos (by omega),if_pos he,show wrap64 ((i:Int) + 1)=((i + 1:Nat):Int) from by rw[w64 (by omega) (by omega)];rfl];exact ih k (i + 1) (by omega) (by omega) (by omega)
   ·rw[if_neg (by omega),if_neg he,w64 (by omega) (by omega),w64 (by omega) (by omega)];unfold qvq.f
    by_cases h3:a.toList[i].toNat < b.toList[i].toNat
    ·rw[if_pos (by omega),if_pos h3];rfl
    ·rw[if_neg (by omega),if_neg h3,if_pos (by omega)];rfl
  ·have e2:b.toList.drop i=[]:=List.drop_of_length_le (by rw[toList_len];omega);rw[e2];simp only[qvz.j1,decide_eq_false (show ¬ (i:Int) < (b.size:Int) by omega),if_neg (show ¬ (false=true) by decide)];unfold qvq.f cmpB;rw[if_neg (by omega),if_pos (by omega)]
   rfl
def cmpT (a b:ByteArray):Int:=cmpB a.toList b.toList
theorem cmpT_ev (a b:ByteArray) (ha:a.size≤4611686018427387904) (hb:b.size≤4611686018427387904):Ev (fun k=>qvz.f k a b) (cmpT a b):=by
 refine⟨2 * a.size + 2,fun k hk=>?_⟩;have:=cmpT_l0 a b ha hb a.size k 0 (by omega) (by omega) hk
 simpa [qvz.f,cmpT] using this
theorem cmpT_less (a b:ByteArray):Op.bytesLess a.toList b.toList=decide (cmpT a b < 0):=cmpB_less _ _
def okTexts (l:List ByteArray):Prop:=l.length≤1048576∧∀ e ∈ l,e.size≤1048576
theorem anyO_ev {α:Type} (p:Nat→α→Option Bool) (q : α→Bool):∀ l:List α,(∀ x ∈ l,Ev (fun k=>p k x) (q x))→Ev (fun k=>anyO (p k) l) (l.any q)
 | [],_=>Ev.now _
 | x :: xs,h=>by
  simp only[anyO,List.any_cons];refine Ev.bind (h x List.mem_cons_self) ?_
  by_cases hq:q x=true
  ·simp only[hq,if_true,Bool.true_or];exact Ev.now _
  ·simp only[if_neg hq,jq9.2 hq,Bool.false_or];exact anyO_ev p q xs (fun y hy=>h y (List.mem_cons_of_mem _ hy))
def aheadS (l:List ByteArray) (i:Nat):Prop:=0 < i∧¬ cmpT (rdOf ByteArray.empty l ((i - 1:Nat):Int)) (rdOf ByteArray.empty l (i:Int)) < 0
instance (l:List ByteArray) (i:Nat):Decidable (aheadS l i):=by unfold aheadS;exact inferInstance
def risN (l:List ByteArray):Nat→Bool
 | 0=>true
 | d + 1=>if aheadS l (l.length - (d + 1)) then false else risN l d
theorem rd_sizes {l:List ByteArray} (ho:okTexts l) {i:Nat} (hi:i < l.length):(rdOf ByteArray.empty l (i:Int)).size≤1048576:=by rw[rdStr_nat hi];exact ho.2 _ (List.getElem_mem hi)
theorem yrising_l0 (l:List ByteArray) (ho:okTexts l) (d:Nat):∀ i:Nat,i + d=l.length→Ev (fun k=>qqv.l0 k l l (l.length:Int) (i:Int)) (risN l d):=by
 have hl:=ho.1
 induction d with
 | zero =>
  intro i hi
  refine Ev.upW ?_;simp only[qqv.l0,if_neg (show ¬ (i:Int) < (l.length:Int) by omega)];exact Ev.now _
 | succ d ih =>
  intro i hi
  have hlt:i < l.length:=by omega
  have hrest:=ih (i + 1) (by omega);rw[← wrap_succ hlt (by omega)] at hrest;refine Ev.upW ?_;simp only[qqv.l0,risN,show l.length - (d + 1)=i by omega,if_pos (show(i:Int) < (l.length:Int) by omega),if_pos (Int.natCast_nonneg i)]
  by_cases h0 : 0 < i
  ·have e3:wrap64 ((i:Int) - 1)=((i - 1:Nat):Int):=by rw[w64 (by omega) (by omega)];omega
   simp only[if_pos (show(i:Int) > 0 by omega),e3,if_pos (Int.natCast_nonneg (i - 1)),if_pos (show((i - 1:Nat):Int) < (l.length:Int) by omega),cmpT_less]
   by_cases hc:cmpT (rdOf ByteArray.empty l ((i - 1:Nat):Int)) (rdOf ByteArray.empty l (i:Int)) < 0
   ·simp only[decide_eq_true hc,if_true,if_neg (show ¬ aheadS l i from fun h=>h.2 hc)];exact hrest
   ·simp only[decide_eq_false hc,if_neg (show ¬ (false=true) by decide),if_pos (show aheadS l i from⟨h0,hc⟩)];exact Ev.now _
  ·simp only[if_neg (show ¬ (i:Int) > 0 by omega),if_neg (show ¬ aheadS l i from fun h=>h0 h.1)];exact hrest
def risingL (l:List ByteArray):Bool:=risN l l.length
theorem yrising_ev (l:List ByteArray) (ho:okTexts l):Ev (fun k=>qqv.f k l) (risingL l):=yrising_l0 l ho l.length 0 (by omega)
theorem notall {α:Type} (p : α→Bool):∀ l:List α,(!l.any fun x=>!p x)=l.all p
 | []=>rfl
 | x :: xs=>by rw[List.any_cons,List.all_cons,← notall p xs];cases p x <;> simp
theorem yallNames_ev (l:List ByteArray) (ho:okTexts l):Ev (fun k=>wx.f k l) (l.all goodName):=by
 simp only[wx.f]
 have h:Ev (fun k=>has_impl_yallNames_1.f k l) (l.any fun x=>!goodName x):=anyO_ev (fun k x=>xq.f k x) _ l (fun x hx=>by
  have:=ho.2 x hx;simp only[xq.f];exact Ev.bind (implName_ev x (by omega)) (Ev.now _))
 rw[← notall];exact Ev.bind h (Ev.now _)
end Go.Proofs.YtkcdefnpbnbaeaaGreatDoor.Pr
