/- Printed texts, walks and plain facts that the law FnExactAttenuate leans on, joined. -/
import Derived.Test.YtnbbbjfjkhglhaaGreatDoorFullFnExactAttenuateB
import Derived.StillTailTactics
import Derived.Deep.RegionHeld3
import Derived.Deep.QuietTactic
import Derived.BigQuiet
import Derived.Laws.Cover1
import Derived.Shelf.Strings.Builder1
import Derived.Lib.AppendStr
import Derived.Lib.UnsafeStr
set_option maxHeartbeats 8000000
set_option maxRecDepth 100000
open List renaming map_toArray → jq0, map_cons → jq1, map_nil → jq2, length_drop → jq3, length_take → jq4, setIfInBounds_toArray → jq5, set_cons_zero → jq6, set_cons_succ → jq7
open Option renaming bind_eq_some_iff → jq8
open Bool renaming eq_false_iff → jq9, true → Z, false → U
namespace Go.Proofs.YtnbbbjfjkhglhaaGreatDoor.Pr
open Go.RowKit Go.Proofs.YtnbbbjfjkhglhaaGreatDoorW.PrintWords Go.Proofs.YtnbbbjfjkhglhaaGreatDoorW.PrintLast Go.Proofs.YtnbbbjfjkhglhaaGreatDoorW.PrintMore
attribute [local go_sem] max2_int min2_int max_two min_two max_three min_three max_four min_four
set_option linter.unusedVariables false
set_option linter.unusedSimpArgs false
mutual
def xq.j0:Nat→ByteArray→Bool→Option (Bool)
 | 0,_,_=>none
 | k + 1,x0,x11=>if x11=true then(some false) else(xq.l0 k x0 (x0.size:Int) 0)
def xq.l0:Nat→ByteArray→Int→Int→Option (Bool)
 | 0,_,_,_=>none
 | k + 1,x0,x13,x14=>if x14 < x13 then(if 0≤x14 then(if x14 < (x0.size:Int) then((xx.f (bt x0 x14)).bind fun t101=>(if t101=true then(xq.l0 k x0 x13 (wrap64 (x14 + 1))) else(if (bt x0 x14)=45 then(xq.l0 k x0 x13 (wrap64 (x14 + 1))) else(if (bt x0 x14)=46 then(xq.l0 k x0 x13 (wrap64 (x14 + 1))) else(some false))))) else(none)) else(none)) else(some true)
end
def xq.f (k:Nat) (a0:ByteArray):Option (Bool):=if (a0.size:Int) < 1 then(xq.j0 k a0 true) else(xq.j0 k a0 (decide ((a0.size:Int) > 40)))
theorem xq.calls (k:Nat) (a0:ByteArray) (r:Bool) (w:World) (h:xq.f k a0=some r) :
  Calls Tryz.prog 60 #[.string a0] w fun e w'=>e=.returned (.bool r)∧Drawn0 w w':=by
 unfold xq.f at h;have H:=h;clear h;have HC2:=O.mk H;clear H;go_enter Tryz.func60,Tryz.ntmps60;go_upto_region 1 with (fail)
 go_cut [11] (fun v11 wc=>∃ (kq:Nat) (x11_1:Bool),v11=.bool x11_1∧O (xq.j0 kq a0 x11_1=some r)∧O (kq≤k)∧Drawn0 w wc)
 case first =>
  have H:=HC2.out;clear HC2
  by_cases c3:(a0.size:Int) < 1
  ·rw[if_pos c3] at H;have c3b0:decide ((a0.size:Int) < 1)=true:=decide_eq_true c3;have c3b1:decide (a0.size < 1)=true:=decide_eq_true (by omega);clear c3
   (first|rw[c3b0]|(simp only[i64_w,i32_w];rw[c3b0])|skip)
   have H':=O.mk H;clear H;go_wp2;go_meet
   case rel=>exact⟨_,(true),(by first|rfl|(simp;done)|(simp[*];done)),H',⟨by first|omega|exact Nat.le_refl _⟩,by repeat(first|exact Drawn0.refl _|apply Drawn0.step)⟩
  ·rw[if_neg c3] at H;have c3b0:decide ((a0.size:Int) < 1)=false:=decide_eq_false c3;have c3b1:decide (a0.size < 1)=false:=decide_eq_false (by omega);clear c3
   (first|rw[c3b0]|(simp only[i64_w,i32_w];rw[c3b0])|skip)
   have H':=O.mk H;clear H;go_wp2;go_meet
   case rel=>exact⟨_,(decide ((a0.size:Int) > 40)),(by first|rfl|(simp;done)|(simp[*];done)),H',⟨by first|omega|exact Nat.le_refl _⟩,by repeat(first|exact Drawn0.refl _|apply Drawn0.step)⟩
 case rest =>
  clear HC2;try clear p2
  try clear c3
  try clear c3b0
  try clear c3b1
  obtain⟨kq,x11_1,rfl,HA,HJ1,⟨mc1,rfl⟩⟩:=hcut
  cases kq with
  | zero=>exact absurd HA.out (by simp[xq.j0])
  | succ kj1 =>
   have H:=HA.out;clear HA;simp only[xq.j0] at H
   by_cases c4:x11_1=true
   ·subst c4;have H1:(some false)=some r:=by rw[if_pos rfl] at H;exact H
    clear H;have H:=H1;clear H1;obtain rfl:=Option.some.inj H;go_wp2;go_ret
    exact⟨by first|rfl|(simp;done)|(simp[*];done),by repeat(first|exact Drawn0.refl _|apply Drawn0.step)⟩
   ·replace c4:=jq9.mpr c4;subst c4;have H1:(xq.l0 kj1 a0 (a0.size:Int) 0)=some r:=by rw[if_neg (show ¬ (false=true) by decide)] at H;exact H
    clear H;have H:=H1;clear H1;have H':=O.mk H;clear H;go_wp2
    go_loopg [14] kj1 (fun kq v14 w'=>∃ (x14_2:Int),v14=.int .i64 x14_2∧O (xq.l0 kq a0 (a0.size:Int) x14_2=some r)∧O (kq≤kj1)∧Drawn0 w w')
    case atStart=>exact⟨(0),(by first|rfl|(simp;done)|(simp[*];done)),H',⟨Nat.le_refl _⟩,by repeat(first|exact Drawn0.refl _|apply Drawn0.step)⟩
    case round =>
     clear H';try clear c1
     try clear p2 p2
     try clear c3
     try clear c3b0
     try clear c3b1
     try clear c4
     obtain⟨x14_2,rfl,HA,HK2,⟨m2,rfl⟩⟩:=hrel
     cases gk with
     | zero=>exact absurd HA.out (by simp[xq.l0])
     | succ k2 =>
      have H:=HA.out;clear HA;simp only[xq.l0] at H
      by_cases c5:x14_2 < (a0.size:Int)
      ·rw[if_pos c5] at H;have c5b0:decide (x14_2 < (a0.size:Int))=true:=decide_eq_true c5;clear c5
       by_cases c6 : 0≤x14_2
       ·rw[if_pos c6] at H;have c6b0:decide (0≤x14_2)=true:=decide_eq_true c6;clear c6
        by_cases c7:x14_2 < (a0.size:Int)
        ·rw[if_pos c7] at H;have c7b0:decide (x14_2 < (a0.size:Int))=true:=decide_eq_true c7;clear c7;replace H:=jq8.mp H;obtain⟨t101,A90,H⟩:=H;try dsimp only at H
         have A9:=O.mk A90;clear A90
         by_cases c10:t101=true
         ·subst c10;have H1:(xq.l0 k2 a0 (a0.size:Int) (wrap64 (x14_2 + 1)))=some r:=by rw[if_pos rfl] at H;exact H
          clear H;have H:=H1;clear H1;have H':=O.mk H;clear H;have p8 : 0≤(x14_2:Int):=of_decide_eq_true (by assumption);have q8:x14_2 < (a0.size:Int):=of_decide_eq_true (by assumption);have hx8:=bt_at a0 x14_2;replace p8:=eq_true p8;replace q8:=eq_true q8;go_wp2_with (first|((with_reducible refine jq (f:=75) rfl ?_);refine goesL_ (some 20) rfl rfl Tryz.func75 (by kernel_rfl) rfl #[.int .u8 (bt a0 x14_2)] rfl (by(try simp only[jq0,jq1,jq2]);first|done|rfl|(simp only[jq3,jq4];rfl)) ?_;(with_reducible refine(xx.calls (bt a0 x14_2) true _ A9.out).mono ?_);rintro e w' ⟨rfl,⟨nd,rfl⟩⟩;refine⟨_,rfl,?_⟩))
          go_roundg k2
          case measure=>have:=HJ1.out;have:=HK2.out;omega
          case rel=>exact⟨(wrap64 (x14_2 + 1)),(by first|rfl|(simp;done)|(simp[*];done)),H',⟨by have:=HJ1.out;have:=HK2.out;omega⟩,by repeat(first|exact Drawn0.refl _|apply Drawn0.step)⟩
         ·replace c10:=jq9.mpr c10;subst c10;have H1:(if (bt a0 x14_2)=45 then(xq.l0 k2 a0 (a0.size:Int) (wrap64 (x14_2 + 1))) else(if (bt a0 x14_2)=46 then(xq.l0 k2 a0 (a0.size:Int) (wrap64 (x14_2 + 1))) else(some false)))=some r:=by rw[if_neg (show ¬ (false=true) by decide)] at H;exact H
          clear H;have H:=H1;clear H1
          by_cases c12:(bt a0 x14_2)=45
          ·rw[if_pos c12] at H;have c12b0:((bt a0 x14_2) == 45)=true:=beq_iff_eq.mpr c12;have c12b1:((bt a0 x14_2) != 45)=false:=bne_eq_false_iff_eq.mpr c12;clear c12;have H':=O.mk H;clear H;have p8 : 0≤(x14_2:Int):=of_decide_eq_true (by assumption);have q8:x14_2 < (a0.size:Int):=of_decide_eq_true (by assumption);have hx8:=bt_at a0 x14_2;replace p8:=eq_true p8;replace q8:=eq_true q8;go_wp2_with (first|((with_reducible refine jq (f:=75) rfl ?_);refine goesL_ (some 20) rfl rfl Tryz.func75 (by kernel_rfl) rfl #[.int .u8 (bt a0 x14_2)] rfl (by(try simp only[jq0,jq1,jq2]);first|done|rfl|(simp only[jq3,jq4];rfl)) ?_;(with_reducible refine(xx.calls (bt a0 x14_2) false _ A9.out).mono ?_);rintro e w' ⟨rfl,⟨nd,rfl⟩⟩;refine⟨_,rfl,?_⟩;have p11 : 0≤(x14_2:Int):=of_decide_eq_true (by assumption);have q11:x14_2 < (a0.size:Int):=of_decide_eq_true (by assumption);have hx11:=bt_at a0 x14_2;replace p11:=eq_true p11;replace q11:=eq_true q11))
           go_roundg k2
           case measure=>have:=HJ1.out;have:=HK2.out;omega
           case rel=>exact⟨(wrap64 (x14_2 + 1)),(by first|rfl|(simp;done)|(simp[*];done)),H',⟨by have:=HJ1.out;have:=HK2.out;omega⟩,by repeat(first|exact Drawn0.refl _|apply Drawn0.step)⟩
          ·rw[if_neg c12] at H;have c12b0:((bt a0 x14_2) == 45)=false:=beq_eq_false_iff_ne.mpr c12;have c12b1:((bt a0 x14_2) != 45)=true:=bne_iff_ne.mpr c12
           by_cases c14:(bt a0 x14_2)=46
           ·rw[if_pos c14] at H;have c14b0:((bt a0 x14_2) == 46)=true:=beq_iff_eq.mpr c14;have c14b1:((bt a0 x14_2) != 46)=false:=bne_eq_false_iff_eq.mpr c14;clear c14;have H':=O.mk H;clear H;have p8 : 0≤(x14_2:Int):=of_decide_eq_true (by assumption);have q8:x14_2 < (a0.size:Int):=of_decide_eq_true (by assumption);have hx8:=bt_at a0 x14_2;replace p8:=eq_true p8;replace q8:=eq_true q8;go_wp2_with (first|((with_reducible refine jq (f:=75) rfl ?_);refine goesL_ (some 20) rfl rfl Tryz.func75 (by kernel_rfl) rfl #[.int .u8 (bt a0 x14_2)] rfl (by(try simp only[jq0,jq1,jq2]);first|done|rfl|(simp only[jq3,jq4];rfl)) ?_;(with_reducible refine(xx.calls (bt a0 x14_2) false _ A9.out).mono ?_);rintro e w' ⟨rfl,⟨nd,rfl⟩⟩;refine⟨_,rfl,?_⟩;have p11 : 0≤(x14_2:Int):=of_decide_eq_true (by assumption);have q11:x14_2 < (a0.size:Int):=of_decide_eq_true (by assumption);have hx11:=bt_at a0 x14_2;replace p11:=eq_true p11;replace q11:=eq_true q11;have p13 : 0≤(x14_2:Int):=of_decide_eq_true (by assumption);have q13:x14_2 < (a0.size:Int):=of_decide_eq_true (by assumption);have hx13:=bt_at a0 x14_2;replace p13:=eq_true p13;replace q13:=eq_true q13))
            go_roundg k2
            case measure=>have:=HJ1.out;have:=HK2.out;omega
            case rel=>exact⟨(wrap64 (x14_2 + 1)),(by first|rfl|(simp;done)|(simp[*];done)),H',⟨by have:=HJ1.out;have:=HK2.out;omega⟩,by repeat(first|exact Drawn0.refl _|apply Drawn0.step)⟩
           ·rw[if_neg c14] at H;have c14b0:((bt a0 x14_2) == 46)=false:=beq_eq_false_iff_ne.mpr c14;have c14b1:((bt a0 x14_2) != 46)=true:=bne_iff_ne.mpr c14;obtain rfl:=Option.some.inj H;have p8 : 0≤(x14_2:Int):=of_decide_eq_true (by assumption);have q8:x14_2 < (a0.size:Int):=of_decide_eq_true (by assumption);have hx8:=bt_at a0 x14_2;replace p8:=eq_true p8;replace q8:=eq_true q8;go_wp2_with (first|((with_reducible refine jq (f:=75) rfl ?_);refine goesL_ (some 20) rfl rfl Tryz.func75 (by kernel_rfl) rfl #[.int .u8 (bt a0 x14_2)] rfl (by(try simp only[jq0,jq1,jq2]);first|done|rfl|(simp only[jq3,jq4];rfl)) ?_;(with_reducible refine(xx.calls (bt a0 x14_2) false _ A9.out).mono ?_);rintro e w' ⟨rfl,⟨nd,rfl⟩⟩;refine⟨_,rfl,?_⟩;have p11 : 0≤(x14_2:Int):=of_decide_eq_true (by assumption);have q11:x14_2 < (a0.size:Int):=of_decide_eq_true (by assumption);have hx11:=bt_at a0 x14_2;replace p11:=eq_true p11;replace q11:=eq_true q11;have p13 : 0≤(x14_2:Int):=of_decide_eq_true (by assumption);have q13:x14_2 < (a0.size:Int):=of_decide_eq_true (by assumption);have hx13:=bt_at a0 x14_2;replace p13:=eq_true p13;replace q13:=eq_true q13))
            go_ret
            exact⟨by first|rfl|(simp;done)|(simp[*];done),by repeat(first|exact Drawn0.refl _|apply Drawn0.step)⟩
        ·rw[if_neg c7] at H;exact absurd H (by simp)
       ·rw[if_neg c6] at H;exact absurd H (by simp)
      ·rw[if_neg c5] at H;have c5b0:decide (x14_2 < (a0.size:Int))=false:=decide_eq_false c5;clear c5;obtain rfl:=Option.some.inj H;go_wp2;go_ret
       exact⟨by first|rfl|(simp;done)|(simp[*];done),by repeat(first|exact Drawn0.refl _|apply Drawn0.step)⟩
end Go.Proofs.YtnbbbjfjkhglhaaGreatDoor.Pr
namespace Go.Proofs.YtnbbbjfjkhglhaaGreatDoor.Pr
open Go.RowKit Go.Proofs.YtnbbbjfjkhglhaaGreatDoorW.PrintWords Go.Proofs.YtnbbbjfjkhglhaaGreatDoorW.PrintLast Go.Proofs.YtnbbbjfjkhglhaaGreatDoorW.PrintMore
attribute [local go_sem] max2_int min2_int max_two min_two max_three min_three max_four min_four
set_option linter.unusedVariables false
set_option linter.unusedSimpArgs false
def ww.f (k:Nat) (a0_0:ByteArray) (l0_1:List (S30)) (l0_2:List Int):Option (Bool):=(xq.f k a0_0).bind fun t102=>(if t102=true then(if (l0_1.length:Int)≤20 then(if (l0_2.length:Int)=16 then((has_impl_ygoodCap_1.f k l0_1).bind fun t103=>(some (!t103))) else(some false)) else(some false)) else(some false))
theorem ww.calls (k:Nat) (a0_0:ByteArray) (A0_1:Option Addr) (c0_1:Nat) (l0_1:List (S30)) (A0_2:Option Addr) (c0_2:Nat) (l0_2:List Int) (r:Bool) (w:World) (hr0_1:Kd.C k30 w A0_1 l0_1.length l0_1) (hc0_1:l0_1.length≤c0_1) (hr0_2:Kd.C (Kd.int .u8) w A0_2 l0_2.length l0_2) (hc0_2:l0_2.length≤c0_2) (h:ww.f k a0_0 l0_1 l0_2=some r) :
  Calls Tryz.prog 32 #[.agg #[.string a0_0,.slice A0_1 l0_1.length c0_1,.slice A0_2 l0_2.length c0_2]] w fun e w'=>e=.returned (.bool r)∧Below w.heap.size w w':=by
 have hu41:=Tryz.underlying41;have HR0_1:=O.mk hr0_1;have HC0_1:=O.mk hc0_1;clear hr0_1 hc0_1;have HR0_2:=O.mk hr0_2;have HC0_2:=O.mk hc0_2;clear hr0_2 hc0_2;have HB:=O.mk (Below.refl w.heap.size w);unfold ww.f at h;have H:=h;clear h;replace H:=jq8.mp H;obtain⟨t102,A20,H⟩:=H;try dsimp only at H
 have A2:=O.mk A20;clear A20
 by_cases c3:t102=true
 ·subst c3;have H1:(if (l0_1.length:Int)≤20 then(if (l0_2.length:Int)=16 then((has_impl_ygoodCap_1.f k l0_1).bind fun t103=>(some (!t103))) else(some false)) else(some false))=some r:=by rw[if_pos rfl] at H;exact H
  clear H;have H:=H1;clear H1
  by_cases c4:(l0_1.length:Int)≤20
  ·rw[if_pos c4] at H;have c4b0:decide ((l0_1.length:Int)≤20)=true:=decide_eq_true c4;have c4b1:decide (l0_1.length≤20)=true:=decide_eq_true (by omega);clear c4
   by_cases c5:(l0_2.length:Int)=16
   ·rw[if_pos c5] at H;have c5b0:((l0_2.length:Int) == 16)=true:=beq_iff_eq.mpr c5;have c5b1:((l0_2.length:Int) != 16)=false:=bne_eq_false_iff_eq.mpr c5;clear c5;replace H:=jq8.mp H;obtain⟨t103,A60,H⟩:=H;replace H:(some (!t103))=some r:=H;have A6:=O.mk A60;clear A60;obtain rfl:=Option.some.inj H;go_enter Tryz.func32,Tryz.ntmps32;go_wp2_with (first|((with_reducible refine gate_dst (N:=1) rfl ?_);(try (refine gate_guard (by rfl) ?_;dsimp only));refine box_event ?hg (N:=1) ?hd (cs:=#[.string a0_0,.slice A0_1 l0_1.length c0_1,.slice A0_2 l0_2.length c0_2]) (t:=41) ?hr ?_;(case hd=>rfl);(case hg=>rfl);(case hr=>first|(go_simp;done)|(go_simp;rfl));intro gb101 hg w7 hbox hb;have BK101:=O.mk (hbox);have GW101:=O.mk ((by rw[hg];exact(zz (by solve_by_elim only[HB.out,J,L,I])):w.heap.size≤gb101));have GE101:=GW101;replace HB:=O.mk (zq (by solve_by_elim only[HB.out,J,L,I]) hb);clear hb hbox hg;obtain⟨y8_0,y8_1,y8_2,z8_0,z8_1,z8_2⟩:=bx3f BK101.out)|((with_reducible refine jq (f:=60) rfl ?_);refine goesL_ (some 5) rfl rfl Tryz.func60 (by kernel_rfl) rfl #[.string a0_0] rfl (by(try simp only[jq0,jq1,jq2]);first|done|rfl|(simp only[jq3,jq4];rfl)) ?_;(with_reducible refine(xq.calls k a0_0 true _ A2.out).mono ?_);rintro e w' ⟨rfl,⟨nd,rfl⟩⟩;refine⟨_,rfl,?_⟩)|(go_at_call 61;(with_reducible refine(has_impl_ygoodCap_1.calls k _ _ l0_1 t103 _ ?side1 ?side2 A6.out).mono ?_);(case side1=>repeat(first|exact(Kd.C_below HR0_1.out (by solve_by_elim (maxDepth:=20) only[HB.out,J,L,I,qj,GE101.out]))|(with_reducible refine Kd.C_alloc ?_ _)|(with_reducible refine Kd.C_drewN ?_ _)|(with_reducible refine Kd.C_drew ?_)));(case side2=>exact HC0_1.out);rintro e w9 ⟨rfl,hb⟩;replace BK101:=O.mk (kz (by solve_by_elim only[BK101.out,qv,qw,qk]) hb);replace HB:=O.mk (zq (by solve_by_elim (maxDepth:=20) only[HB.out,J,L,I,qj,GE101.out]) hb);(try clear hb)))
    go_ret
    exact⟨by first|rfl|(simp[*,zx,zw] <;> rfl),by solve_by_elim (maxDepth:=20) only[HB.out,J,L,I,qj,GE101.out]⟩
   ·rw[if_neg c5] at H;have c5b0:((l0_2.length:Int) == 16)=false:=beq_eq_false_iff_ne.mpr c5;have c5b1:((l0_2.length:Int) != 16)=true:=bne_iff_ne.mpr c5;obtain rfl:=Option.some.inj H;go_enter Tryz.func32,Tryz.ntmps32;go_wp2_with (first|((with_reducible refine gate_dst (N:=1) rfl ?_);(try (refine gate_guard (by rfl) ?_;dsimp only));refine box_event ?hg (N:=1) ?hd (cs:=#[.string a0_0,.slice A0_1 l0_1.length c0_1,.slice A0_2 l0_2.length c0_2]) (t:=41) ?hr ?_;(case hd=>rfl);(case hg=>rfl);(case hr=>first|(go_simp;done)|(go_simp;rfl));intro gb101 hg w10 hbox hb;have BK101:=O.mk (hbox);have GW101:=O.mk ((by rw[hg];exact(zz (by solve_by_elim only[HB.out,J,L,I])):w.heap.size≤gb101));have GE101:=GW101;replace HB:=O.mk (zq (by solve_by_elim only[HB.out,J,L,I]) hb);clear hb hbox hg;obtain⟨y11_0,y11_1,y11_2,z11_0,z11_1,z11_2⟩:=bx3f BK101.out)|((with_reducible refine jq (f:=60) rfl ?_);refine goesL_ (some 5) rfl rfl Tryz.func60 (by kernel_rfl) rfl #[.string a0_0] rfl (by(try simp only[jq0,jq1,jq2]);first|done|rfl|(simp only[jq3,jq4];rfl)) ?_;(with_reducible refine(xq.calls k a0_0 true _ A2.out).mono ?_);rintro e w' ⟨rfl,⟨nd,rfl⟩⟩;refine⟨_,rfl,?_⟩))
    go_ret
    exact⟨by first|rfl|(simp[*,zx,zw] <;> rfl),by solve_by_elim (maxDepth:=20) only[HB.out,J,L,I,qj,GE101.out]⟩
  ·rw[if_neg c4] at H;have c4b0:decide ((l0_1.length:Int)≤20)=false:=decide_eq_false c4;have c4b1:decide (l0_1.length≤20)=false:=decide_eq_false (by omega);clear c4;obtain rfl:=Option.some.inj H;go_enter Tryz.func32,Tryz.ntmps32;go_wp2_with (first|((with_reducible refine gate_dst (N:=1) rfl ?_);(try (refine gate_guard (by rfl) ?_;dsimp only));refine box_event ?hg (N:=1) ?hd (cs:=#[.string a0_0,.slice A0_1 l0_1.length c0_1,.slice A0_2 l0_2.length c0_2]) (t:=41) ?hr ?_;(case hd=>rfl);(case hg=>rfl);(case hr=>first|(go_simp;done)|(go_simp;rfl));intro gb101 hg w12 hbox hb;have BK101:=O.mk (hbox);have GW101:=O.mk ((by rw[hg];exact(zz (by solve_by_elim only[HB.out,J,L,I])):w.heap.size≤gb101));have GE101:=GW101;replace HB:=O.mk (zq (by solve_by_elim only[HB.out,J,L,I]) hb);clear hb hbox hg;obtain⟨y13_0,y13_1,y13_2,z13_0,z13_1,z13_2⟩:=bx3f BK101.out)|((with_reducible refine jq (f:=60) rfl ?_);refine goesL_ (some 5) rfl rfl Tryz.func60 (by kernel_rfl) rfl #[.string a0_0] rfl (by(try simp only[jq0,jq1,jq2]);first|done|rfl|(simp only[jq3,jq4];rfl)) ?_;(with_reducible refine(xq.calls k a0_0 true _ A2.out).mono ?_);rintro e w' ⟨rfl,⟨nd,rfl⟩⟩;refine⟨_,rfl,?_⟩))
   go_ret
   exact⟨by first|rfl|(simp[*,zx,zw] <;> rfl),by solve_by_elim (maxDepth:=20) only[HB.out,J,L,I,qj,GE101.out]⟩
 ·replace c3:=jq9.mpr c3;subst c3;have H1:(some false)=some r:=by rw[if_neg (show ¬ (false=true) by decide)] at H;exact H
  clear H;have H:=H1;clear H1;obtain rfl:=Option.some.inj H;go_enter Tryz.func32,Tryz.ntmps32;go_wp2_with (first|((with_reducible refine gate_dst (N:=1) rfl ?_);(try (refine gate_guard (by rfl) ?_;dsimp only));refine box_event ?hg (N:=1) ?hd (cs:=#[.string a0_0,.slice A0_1 l0_1.length c0_1,.slice A0_2 l0_2.length c0_2]) (t:=41) ?hr ?_;(case hd=>rfl);(case hg=>rfl);(case hr=>first|(go_simp;done)|(go_simp;rfl));intro gb101 hg w14 hbox hb;have BK101:=O.mk (hbox);have GW101:=O.mk ((by rw[hg];exact(zz (by solve_by_elim only[HB.out,J,L,I])):w.heap.size≤gb101));have GE101:=GW101;replace HB:=O.mk (zq (by solve_by_elim only[HB.out,J,L,I]) hb);clear hb hbox hg;obtain⟨y15_0,y15_1,y15_2,z15_0,z15_1,z15_2⟩:=bx3f BK101.out)|((with_reducible refine jq (f:=60) rfl ?_);refine goesL_ (some 5) rfl rfl Tryz.func60 (by kernel_rfl) rfl #[.string a0_0] rfl (by(try simp only[jq0,jq1,jq2]);first|done|rfl|(simp only[jq3,jq4];rfl)) ?_;(with_reducible refine(xq.calls k a0_0 false _ A2.out).mono ?_);rintro e w' ⟨rfl,⟨nd,rfl⟩⟩;refine⟨_,rfl,?_⟩))
  go_ret
  exact⟨by first|rfl|(simp[*,zx,zw] <;> rfl),by solve_by_elim (maxDepth:=20) only[HB.out,J,L,I,qj,GE101.out]⟩
end Go.Proofs.YtnbbbjfjkhglhaaGreatDoor.Pr
namespace Go.Proofs.YtnbbbjfjkhglhaaGreatDoor.Pr
open Go.RowKit Go.Proofs.YtnbbbjfjkhglhaaGreatDoorW.PrintWords Go.Proofs.YtnbbbjfjkhglhaaGreatDoorW.PrintLast Go.Proofs.YtnbbbjfjkhglhaaGreatDoorW.PrintMore
attribute [local go_sem] max2_int min2_int max_two min_two max_three min_three max_four min_four
set_option linter.unusedVariables false
set_option linter.unusedSimpArgs false
def wk.f (a0:Int):Option (List Int):=some (([(a0) % 256,(a0 / 256) % 256,(a0 / 65536) % 256,(a0 / 16777216) % 256]:List Int))
theorem wk.calls (a0:Int) (r:List Int) (w:World) (h:wk.f a0=some r) :
  Calls Tryz.prog 88 #[.int .i64 a0] w fun e w'=>∃ v0_:Value,e=.returned (v0_)∧Kd.R (Kd.int .u8) 5 w' w.heap.size (fun _=>True) v0_ r∧Below w.heap.size w w':=by
 have HB:=O.mk (Below.refl w.heap.size w);unfold wk.f at h;have H:=h;clear h;obtain⟨y101,hy101⟩ : ∃ y_:List Int,y_=(([(a0) % 256,(a0 / 256) % 256,(a0 / 65536) % 256,(a0 / 16777216) % 256]:List Int)):=⟨_,rfl⟩;replace H:(some y101)=some r:=by first|(rw[hy101];with_reducible exact H)|(have H2_:=(Option.bind_some _ _).symm.trans H;rw[hy101];with_reducible exact H2_)|(have H2_:=(Option.bind_some _ _).symm.trans H;with_reducible exact H2_)|with_reducible exact H|(rw[hy101];exact H)|exact H
 have Ny101:=O.mk hy101;clear hy101;obtain rfl:=Option.some.inj H;go_enter Tryz.func88,Tryz.ntmps88;go_wp2_with (first|((with_reducible refine gate_dst (N:=14) rfl ?_);refine Kd.R_lit (Kd.int .u8) _ 5 ?hg (N:=14) ?hd (xs:=([(a0) % 256,(a0 / 256) % 256,(a0 / 65536) % 256,(a0 / 16777216) % 256]:List Int)) (inner:=[.int .u8 ((a0) % 256),.int .u8 ((a0 / 256) % 256),.int .u8 ((a0 / 65536) % 256),.int .u8 ((a0 / 16777216) % 256)]) (ok:=fun _=>True) (okp:=fun _=>True) ?hr ?hp (fun _ hk=>hk) trivial (Below.refl _ _) (Nat.le_refl _) (by simp) ?_;(case hd=>rfl);(case hg=>rfl);(case hr=>first|(go_simp;done)|(go_simp;rfl));(case hp=>exact(Reps.one (show Kd.M (Kd.int .u8) _ _ _ ((a0) % 256) [.int .u8 ((a0) % 256)] from rfl) (Reps.one (show Kd.M (Kd.int .u8) _ _ _ ((a0 / 256) % 256) [.int .u8 ((a0 / 256) % 256)] from rfl) (Reps.one (show Kd.M (Kd.int .u8) _ _ _ ((a0 / 65536) % 256) [.int .u8 ((a0 / 65536) % 256)] from rfl) (Reps.one (show Kd.M (Kd.int .u8) _ _ _ ((a0 / 16777216) % 256) [.int .u8 ((a0 / 16777216) % 256)] from rfl) (Reps.none _ _))))));intro v102 w2 ho3 hb hg_ hnew_;clear hg_ hnew_;(first|rw[← Ny101.out] at ho3|(simp only[Int.reduceToNat] at ho3;rw[← Ny101.out] at ho3));have HO103:=O.mk (Kd.R_lower ho3 (zz (by solve_by_elim only[HB.out,J,L,I])));replace HB:=O.mk (zq (by solve_by_elim only[HB.out,J,L,I]) hb);clear hb ho3))
 go_ret
 exact⟨_,by first|rfl|(simp[*,zx,zw] <;> rfl),by(with_reducible repeat(first|apply Kd.zk|apply Kd.zj|apply Kd.zv));exact HO103.out,by solve_by_elim only[HB.out,J,L,I]⟩
end Go.Proofs.YtnbbbjfjkhglhaaGreatDoor.Pr
namespace Go.Proofs.YtnbbbjfjkhglhaaGreatDoor.Pr
open Go.RowKit Go.Proofs.YtnbbbjfjkhglhaaGreatDoorW.PrintWords Go.Proofs.YtnbbbjfjkhglhaaGreatDoorW.PrintLast Go.Proofs.YtnbbbjfjkhglhaaGreatDoorW.PrintMore
set_option linter.unusedVariables false
def mulT:List Int:=[1103515245,69069,1664525,22695477]
def stepAt (a:List Int) (x:Int) (i:Nat):List Int:=a.set i ((a.getD i 0 * mulT.getD i 0 + x + 1 + a.getD ((i+1)%4) 0) % 2147483579)
def mixN (a:List Int) (x:Int):Nat→List Int
 | 0=>a
 | i+1=>stepAt (mixN a x i) x i
structure OnlyB (w w':World) (g:Nat):Prop where
 os:w'.os=w.os
 tape:w'.tape=w.tape
 output:w'.output=w.output
 size:w'.heap.size=w.heap.size
 block:∀ k,k≠g→w'.heap[k]? = w.heap[k]?
theorem OnlyB.refl (w:World) (g:Nat):OnlyB w w g:=⟨rfl,rfl,rfl,rfl,fun _ _=>rfl⟩
theorem OnlyB.drew {w w':World} {g:Nat} (h:OnlyB w w' g):OnlyB w w'.drew g:=⟨h.os,h.tape,h.output,h.size,h.block⟩
theorem OnlyB.set {w w':World} {g:Nat} (h:OnlyB w w' g) (j:Nat) (u:Value):OnlyB w (w'.setCell ⟨g,j,none⟩ u) g :=
 ⟨h.os,h.tape,h.output,by simpa [World.setCell] using h.size,fun k hk=>(Below.heap_setCell w' ⟨g,j,none⟩ u k hk).trans (h.block k hk)⟩
theorem mulOk:∀ j:Nat,j < 4→0≤mulT.getD j 0∧mulT.getD j 0 < 2147483579:=by decide
theorem mix_len (l:List Int) (x:Int) (k:Nat):(mixN l x k).length=l.length:=by
 induction k with
 | zero=>rfl
 | succ k ih=>simp[mixN,stepAt,ih]
theorem prod_bd {a b:Int} (ha : 0≤a) (ha2:a < 2147483579) (hb : 0≤b) (hb2:b < 2147483579) : 0≤a * b∧a * b≤4611685717779682084:=by
 refine⟨Int.mul_nonneg ha hb,?_⟩;have:=Int.mul_le_mul (show a≤2147483578 by omega) (show b≤2147483578 by omega) hb (by omega)
 omega
theorem mix_bd (l:List Int) (x:Int) (hx : 0≤x) (hl:l.length=4) (hb:∀ j,j < 4→0≤l.getD j 0∧l.getD j 0 < 2147483579) (k:Nat) (hk:k≤4):∀ j,j < 4→0≤(mixN l x k).getD j 0∧(mixN l x k).getD j 0 < 2147483579:=by
 induction k with
 | zero=>exact hb
 | succ k ih =>
  intro j hj
  have ih:=ih (by omega);have hlen:=mix_len l x k;simp only[mixN,stepAt]
  by_cases e:j=k
  ·subst e;rw[List.getD_eq_getElem?_getD,List.getElem?_set_self (by omega)];simp only[Option.getD_some]
   omega
  ·rw[List.getD_eq_getElem?_getD,List.getElem?_set_ne (by omega),← List.getD_eq_getElem?_getD];exact ih j hj
theorem nums_cell {w:World} {g:Nat} {l:List Int} {t:TypeId} (h:w.heap[g]? = some (.cells (nums .i64 l).toArray t (0,0))) (k:Nat) (hk:k < l.length):w.cell? ⟨g,k,none⟩ = some (.int .i64 (l.getD k 0)):=by
 rw[qz h];simp[nums,List.getElem?_map,List.getElem?_eq_getElem hk,List.getD_eq_getElem?_getD]
set_option maxHeartbeats 1000000 in
theorem eat_calls (x:Int) (l:List Int) (hl:l.length=4) (hb:∀ j,j < 4→0≤l.getD j 0∧l.getD j 0 < 2147483579) (ga gm:Nat) (w:World) (hx0 : 0≤x) (hx1:x≤255)
 (ha:w.heap[ga]? = some (.cells (nums .i64 l).toArray 100 (0,0))) (hm:w.heap[gm]? = some (.cells (nums .i64 mulT).toArray 100 (0,0))) (hne:ga≠gm) :
 Calls Tryz.prog 87 #[.int .u8 x,.pointer (some ⟨ga,0,none⟩),.pointer (some ⟨gm,0,none⟩)] w fun e w'=>e=.returned (.tuple #[])∧w'.heap[ga]? = some (.cells (nums .i64 (mixN l x 4)).toArray 100 (0,0))∧OnlyB w w' ga:=by
 have HL:=O.mk hl;have HB:=O.mk hb;have HA:=O.mk ha;have HM:=O.mk hm
 clear hl hb ha hm;go_enter Tryz.func87,Tryz.ntmps87;go_wp2
 go_loopw [5] (fun i wr=>∃ k:Nat,k≤4∧i=.int .i64 k∧O (wr.heap[ga]? = some (.cells (nums .i64 (mixN l x k)).toArray 100 (0,0))∧OnlyB w wr ga)) (fun i _=>4 - (intOf i).toNat)
 case atStart=>exact⟨0,by omega,rfl,⟨HA.out,OnlyB.refl _ _⟩⟩
 case round =>
  obtain⟨k,hk,rfl,HW⟩:=hrel
  by_cases hlt:k < 4
  ·obtain⟨a,ea⟩ : ∃ a,a=mixN l x k:=⟨_,rfl⟩;have hc1:=nums_cell HW.out.1 k (by rw[mix_len,HL.out];omega);have hc2:=nums_cell HW.out.1 ((k+1)%4) (by rw[mix_len,HL.out];omega);have hc3:=nums_cell ((HW.out.2.block gm (Ne.symm hne)).trans HM.out) k hlt;have hf:=qq HW.out.1 k;have b1:=mix_bd l x hx0 HL.out HB.out k hk k hlt;have b2:=mix_bd l x hx0 HL.out HB.out k hk ((k+1)%4) (by omega);have b3:=mulOk k hlt;obtain⟨p1,eP1⟩ : ∃ p,p=(mixN l x k).getD k 0:=⟨_,rfl⟩;obtain⟨p2,eP2⟩ : ∃ p,p=(mixN l x k).getD ((k+1)%4) 0:=⟨_,rfl⟩;obtain⟨p3,eP3⟩ : ∃ p,p=mulT.getD k 0:=⟨_,rfl⟩;rw[← eP1] at hc1 b1;rw[← eP2] at hc2 b2;rw[← eP3] at hc3 b3
   have b4:=prod_bd b1.1 b1.2 b3.1 b3.2;have EP1:=O.mk eP1;have EP2:=O.mk eP2;have EP3:=O.mk eP3;have EA:=O.mk ea
   clear eP1 eP2 eP3 ea;go_wp2;have e1:IntKind.i64.wrap (p1 * p3)=p1 * p3:=IntWalk.i64_in _ (by omega);have e2:IntKind.i64.wrap x=x:=IntWalk.i64_in _ (by omega);have e3:IntKind.i64.wrap (p1 * p3 + x)=p1 * p3 + x:=IntWalk.i64_in _ (by omega);have e4:IntKind.i64.wrap (p1 * p3 + x + 1)=p1 * p3 + x + 1:=IntWalk.i64_in _ (by omega);have e5:IntKind.i64.wrap (k + 1)=k + 1:=IntWalk.i64_in _ (by omega);have e6:((k:Int) + 1).tmod 4=((k:Int) + 1) % 4:=Int.tmod_eq_emod_of_nonneg (by omega);have e7:IntKind.i64.wrap (p1 * p3 + x + 1 + p2)=p1 * p3 + x + 1 + p2:=IntWalk.i64_in _ (by omega);have e8:(p1 * p3 + x + 1 + p2).tmod 2147483579=(p1 * p3 + x + 1 + p2) % 2147483579:=Int.tmod_eq_emod_of_nonneg (by omega);have n0 : 0≤((k:Int) + 1) % 4:=by omega
   have n4:((k:Int) + 1) % 4 < 4:=by omega
   have n1:(((k:Int) + 1) % 4).toNat=(k + 1) % 4:=by omega
   go_still_tail 20,(by kernel_rfl)
   clear e1 e2 e3 e4 e5 e6 e7 e8 n0 n4 n1
   skip
   change wpList _ _ _ _ _ wr.drew
   have HW2:O (wr.drew.heap[ga]? = some (.cells (nums .i64 (mixN l x k)).toArray 100 (0,0))∧OnlyB w wr.drew ga):=⟨HW.out.1,HW.out.2.drew⟩;clear HW hc1 hc2 hc3 hf;generalize wr.drew=w2 at HW2 ⊢;have hc1:=nums_cell HW2.out.1 k (by rw[mix_len,HL.out];omega);have hf:=qq HW2.out.1 k;go_wp2;go_roundw
   case rel =>
    refine⟨k + 1,by omega,by go_num,?_,HW2.out.2.set _ _⟩;rw[blk_set HW2.out.1];simp only[mixN,stepAt,nums,List.map_set,jq5,EP1.out,EP2.out,EP3.out]
   case measure=>simp[intOf];omega
  ·go_wp2;obtain rfl:k=4:=by omega
   exact bodyPost_end (results_none rfl _ _ _) rfl ⟨rfl,HW.out.1,HW.out.2⟩
def isBytes (l:List Int):Prop:=∀ x ∈ l,0≤x∧x≤255
instance (l:List Int):Decidable (isBytes l):=by unfold isBytes;infer_instance
def dgMix (a:List Int) (x:Int):List Int:=mixN a x 4
def dgAll (a:List Int) (xs:List Int):List Int:=xs.foldl dgMix a
def yb (n:Int):List Int:=[n % 256,(n / 256) % 256,(n / 65536) % 256,(n / 16777216) % 256]
def dgS (l:List Int):List Int:=dgAll (dgAll (dgAll [11,22,33,44] l) (yb l.length)) (List.replicate 8 0)
def dg (l:List Int):List Int:=(dgS l).flatMap yb
def vw.f (l0:List Int):Option (List Int):=if isBytes l0 then(if (l0.length:Int) > 20000 then some [] else some (dg l0)) else none
theorem yb_bytes (n:Int):isBytes (yb n):=by
 intro x hx
 simp only[yb,List.mem_cons,List.not_mem_nil,or_false] at hx
 omega
theorem yb_len (n:Int):(yb n).length=4:=rfl
structure DigInv (w wr:World) (a:List Int):Prop where
 A:wr.heap[w.heap.size]? = some (.cells (nums .i64 a).toArray 100 (0,0))
 M:wr.heap[w.heap.size + 1]? = some (.cells (nums .i64 mulT).toArray 100 (0,0))
 B:Below w.heap.size w wr
 len:a.length=4
 bd:∀ j,j < 4→0≤a.getD j 0∧a.getD j 0 < 2147483579
theorem DigInv.to {w wr w':World} {a:List Int} {x:Int} (h:DigInv w wr a) (hx : 0≤x) (h1:w'.heap[w.heap.size]? = some (.cells (nums .i64 (mixN a x 4)).toArray 100 (0,0))) (h2:OnlyB wr w' w.heap.size):DigInv w w' (dgMix a x) :=
 ⟨h1,(h2.block _ (by omega)).trans h.M,⟨h2.os.trans h.B.os,h2.tape.trans h.B.tape,h2.output.trans h.B.output,by rw[h2.size];exact h.B.size,fun k hk=>(h2.block k (by omega)).trans (h.B.block k hk)⟩,by rw[dgMix,mix_len,h.len],mix_bd a x hx h.len h.bd 4 (by omega)⟩
theorem DigInv.drew {w wr:World} {a:List Int} (h:DigInv w wr a):DigInv w wr.drew a:=⟨h.A,h.M,h.B.drew,h.len,h.bd⟩
theorem DigInv.keep {w wr w':World} {a:List Int} (h:DigInv w wr a) (hb:Below (w.heap.size + 2) wr w'):DigInv w w' a :=
 ⟨(hb.block _ (by omega)).trans h.A,(hb.block _ (by omega)).trans h.M,h.B.trans (hb.mono (by omega)),h.len,h.bd⟩
theorem DigInv.lt {w wr:World} {a:List Int} (h:DigInv w wr a):w.heap.size + 2≤wr.heap.size:=blk_lt h.M
theorem eat_inv {w wr:World} {a:List Int} (h:DigInv w wr a) (x:Int) (hx0 : 0≤x) (hx1:x≤255) :
  Calls Tryz.prog 87 #[.int .u8 x,.pointer (some ⟨w.heap.size,0,none⟩),.pointer (some ⟨w.heap.size + 1,0,none⟩)] wr fun e w'=>e=.returned (.tuple #[])∧DigInv w w' (dgMix a x)∧OnlyB wr w' w.heap.size :=
 (eat_calls x a h.len h.bd _ _ wr hx0 hx1 h.A h.M (by omega)).mono fun e w' ⟨he,h1,h2⟩=>⟨he,h.to hx0 h1 h2,h2⟩
theorem DigInv.start (w:World):DigInv w ((w.alloc (.cells #[.int .i64 11,.int .i64 22,.int .i64 33,.int .i64 44] 100)).alloc (.cells #[.int .i64 1103515245,.int .i64 69069,.int .i64 1664525,.int .i64 22695477] 100)) [11,22,33,44] :=
 ⟨qk (blk_new w _) _,by have:=blk_new (w.alloc (.cells #[.int .i64 11,.int .i64 22,.int .i64 33,.int .i64 44] 100)) (.cells (nums .i64 mulT).toArray 100 (0,0));simpa [nums,mulT] using this,((Below.refl _ _).alloc (Nat.le_refl _) _).alloc (by simp) _,rfl,by decide⟩
theorem rd_mem {l:List Int} {k:Nat} (h:k < l.length):rd l k ∈ l:=by
 simp[rd,List.getD_eq_getElem?_getD,List.getElem?_eq_getElem h]
theorem take_snoc_rd {l:List Int} {k:Nat} (h:k < l.length):l.take (k + 1)=l.take k ++ [rd l k]:=by
 rw[List.take_succ_eq_append_getElem h];simp[rd,List.getD_eq_getElem?_getD,List.getElem?_eq_getElem h]
theorem dgAll_nil (a:List Int):dgAll a []=a:=rfl
theorem dgAll_snoc (a l:List Int) (x:Int):dgAll a (l ++ [x])=dgMix (dgAll a l) x:=by simp[dgAll]
theorem R_only {α:Type} {d:Kd α} {e base:Nat} {w w':World} {ok:Nat→Prop} {v:Value} {xs:List α} (h:d.R e w base ok v xs) {g:Nat} (ho:OnlyB w w' g) (hg:g < base):d.R e w' base ok v xs :=
 Kd.R_mono (Kd.R_move (Kd.R_bound h) (fun k hk=>ho.block k (by have:=hk.2.1;omega))) (fun _ hk=>hk.1)
theorem R_at {e base n c:Nat} {w:World} {ok:Nat→Prop} {kd:IntKind} {A:Option Addr} {xs:List Int} (h:(Kd.int kd).R e w base ok (.slice A n c) xs) (k:Nat) (hk:k < xs.length) :
  ∃ ad,A=some ad∧w.cell? (ad.add k)=some (.int kd (rd xs k)):=by
 obtain⟨A',c',he,_,hC⟩:=Kd.R_reads h;injection he with h1 h2 h3
 subst h1;obtain⟨ad,h4,h5⟩:=Kd.at_int hC k (by omega) (by omega);exact⟨ad,h4,by simpa using h5⟩
theorem agg4_index0 (b0 b1 b2 b3:Int) (W:World):(Instr.index 100 (.agg #[.int .i64 b0,.int .i64 b1,.int .i64 b2,.int .i64 b3]) (.int .i64 0)).run Tryz.prog W=.ok (.int .i64 b0) W:=by kernel_rfl
theorem agg4_index1 (b0 b1 b2 b3:Int) (W:World):(Instr.index 100 (.agg #[.int .i64 b0,.int .i64 b1,.int .i64 b2,.int .i64 b3]) (.int .i64 1)).run Tryz.prog W=.ok (.int .i64 b1) W:=by kernel_rfl
theorem agg4_index2 (b0 b1 b2 b3:Int) (W:World):(Instr.index 100 (.agg #[.int .i64 b0,.int .i64 b1,.int .i64 b2,.int .i64 b3]) (.int .i64 2)).run Tryz.prog W=.ok (.int .i64 b2) W:=by kernel_rfl
theorem agg4_index3 (b0 b1 b2 b3:Int) (W:World):(Instr.index 100 (.agg #[.int .i64 b0,.int .i64 b1,.int .i64 b2,.int .i64 b3]) (.int .i64 3)).run Tryz.prog W=.ok (.int .i64 b3) W:=by kernel_rfl
theorem agg4_index (b0 b1 b2 b3:Int) (k:Nat) (hk:k < 4) (W:World):(Instr.index 100 (.agg #[.int .i64 b0,.int .i64 b1,.int .i64 b2,.int .i64 b3]) (.int .i64 (k:Int))).run Tryz.prog W=.ok (.int .i64 (rd [b0,b1,b2,b3] k)) W:=by
 rcases k with _|_|_|_|k
 ·exact agg4_index0 b0 b1 b2 b3 W
 ·exact agg4_index1 b0 b1 b2 b3 W
 ·exact agg4_index2 b0 b1 b2 b3 W
 ·exact agg4_index3 b0 b1 b2 b3 W
 ·omega
set_option maxHeartbeats 1000000 in
theorem vw.calls (A0:Option Addr) (c0:Nat) (l0:List Int) (r:List Int) (w:World) (hr0:Kd.C (Kd.int .u8) w A0 l0.length l0) (hc0:l0.length≤c0) (h:vw.f l0=some r) :
  Calls Tryz.prog 68 #[.slice A0 l0.length c0] w fun e w'=>∃ v0_:Value,e=.returned (v0_)∧Kd.R (Kd.int .u8) 5 w' w.heap.size (fun _=>True) v0_ r∧Below w.heap.size w w':=by
 have HR0:=O.mk hr0;have HC0:=O.mk hc0;clear hr0 hc0;unfold vw.f at h
 by_cases hb:isBytes l0
 case neg=>rw[if_neg hb] at h;cases h
 rw[if_pos hb] at h;have HBY:=O.mk hb;clear hb
 by_cases hbig:(l0.length:Int) > 20000
 ·rw[if_pos hbig] at h;obtain rfl:=Option.some.inj h;clear h;go_enter Tryz.func68,Tryz.ntmps68;go_wp2;go_ret
  exact⟨_,rfl,Kd.R_nil _ _ _ _ _,Below.refl _ _⟩
 ·rw[if_neg hbig] at h;obtain rfl:=Option.some.inj h;clear h;go_enter Tryz.func68,Tryz.ntmps68;go_wp2;have HI:=O.mk (DigInv.start w);generalize ((w.alloc (.cells #[.int .i64 11,.int .i64 22,.int .i64 33,.int .i64 44] 100)).alloc (.cells #[.int .i64 1103515245,.int .i64 69069,.int .i64 1664525,.int .i64 22695477] 100))=w2 at HI ⊢
  go_loopw [21] (fun i wr=>∃ k:Nat,k≤l0.length∧i=.int .i64 k∧O (DigInv w wr (dgAll [11,22,33,44] (l0.take k)))) (fun i _=>l0.length - (intOf i).toNat)
  case atStart=>exact⟨0,by omega,rfl,HI⟩
  case round =>
   clear HI;obtain⟨k,hk,rfl,HW⟩:=hrel
   by_cases hlt:k < l0.length
   ·obtain⟨ad,rfl,hcell⟩:=Kd.at_int (Kd.C_below HR0.out HW.out.B) k (by omega) (by omega);have hby:=HBY.out (rd l0 k) (rd_mem hlt);obtain⟨x,ex⟩ : ∃ x,x=rd l0 k:=⟨_,rfl⟩;rw[Int.toNat_natCast] at hcell;rw[← ex] at hcell hby
    have EX:=O.mk ex;clear ex;go_wp2_with (go_at_call 87;refine(eat_inv HW.out x hby.1 hby.2).mono ?_;rintro e w' ⟨rfl,HN,_⟩;replace HN:=O.mk HN)
    go_roundw
    case rel=>exact⟨k + 1,by omega,by go_num,⟨by rw[take_snoc_rd hlt,← EX.out,dgAll_snoc];exact HN.out⟩⟩
    case measure=>simp[intOf];omega
   ·obtain rfl:k=l0.length:=by omega
    rw[List.take_length] at HW;clear hlt hk;have HX:=HW;go_wp2_with (go_at_call 88;refine(wk.calls (l0.length:Int) (yb l0.length) _ rfl).mono ?_;rintro e w1 ⟨v1,rfl,HV,HB1⟩;obtain⟨A1,c1,rfl⟩:=Kd.R_slice HV;replace HW:=O.mk (HW.out.keep (HB1.mono HW.out.lt));replace HV:=O.mk (Kd.R_lower HV (base':=w.heap.size + 2) (DigInv.lt HX.out));clear HB1)
    clear HX;have HYB:=O.mk (yb_bytes l0.length);have hyl:(yb (l0.length:Int)).length=4:=rfl;replace hyl:=O.mk hyl
    go_loopw [33] (fun i wr=>∃ k:Nat,k≤(yb l0.length).length∧i=.int .i64 k∧O (DigInv w wr (dgAll (dgAll [11,22,33,44] l0) ((yb l0.length).take k))∧Kd.R (Kd.int .u8) 5 wr (w.heap.size + 2) (fun _=>True) (.slice A1 (yb (l0.length:Int)).length c1) (yb l0.length))) (fun i _=>(yb l0.length).length - (intOf i).toNat)
    case atStart=>exact⟨0,by omega,rfl,⟨HW.out,HV.out⟩⟩
    case round =>
     clear HW HV;obtain⟨k,hk,rfl,HW⟩:=hrel
     by_cases hlt:k < (yb l0.length).length
     ·obtain⟨ad,rfl,hcell⟩:=R_at HW.out.2 k hlt;have hby:=HYB.out (rd (yb l0.length) k) (rd_mem hlt);obtain⟨x,ex⟩ : ∃ x,x=rd (yb l0.length) k:=⟨_,rfl⟩;rw[← ex] at hcell hby
      have EX:=O.mk ex;clear ex;have hyl5:(yb (l0.length:Int)).length≤4:=Nat.le_of_eq hyl.out;go_wp2_with (go_at_call 87;refine(eat_inv HW.out.1 x hby.1 hby.2).mono ?_;rintro e w' ⟨rfl,HN,HO⟩;replace HN:=O.mk HN;replace HO:=O.mk (R_only HW.out.2 HO (by omega)))
      go_roundw
      case rel=>exact⟨k + 1,by omega,by go_num,⟨by rw[take_snoc_rd hlt,← EX.out,dgAll_snoc];exact HN.out,HO.out⟩⟩
      case measure=>simp[intOf];omega
     ·obtain rfl:k=(yb l0.length).length:=by omega
      rw[List.take_length] at HW;clear hlt hk;replace HW:=O.mk HW.out.1;go_wp2
      go_loopw [41] (fun i wr=>∃ k:Nat,k≤8∧i=.int .i64 k∧O (DigInv w wr (dgAll (dgAll (dgAll [11,22,33,44] l0) (yb l0.length)) (List.replicate k 0)))) (fun i _=>8 - (intOf i).toNat)
      case atStart=>exact⟨0,by omega,rfl,⟨by rw[List.replicate_zero,dgAll_nil];exact HW.out⟩⟩
      case round =>
       clear HW;obtain⟨k,hk,rfl,HW⟩:=hrel
       by_cases hlt:k < 8
       ·go_wp2_with (go_at_call 87;refine(eat_inv HW.out 0 (by omega) (by omega)).mono ?_;rintro e w' ⟨rfl,HN,HO⟩;clear HO;replace HN:=O.mk HN)
        go_roundw
        case rel=>exact⟨k + 1,by omega,by go_num,⟨by rw[List.replicate_succ',dgAll_snoc];exact HN.out⟩⟩
        case measure=>simp[intOf];omega
       ·obtain rfl:k=8:=by omega
        rw[show((8:Nat):Int)=8 from rfl];clear hlt hk;replace HW:O (DigInv w wr (dgS l0)):=HW
        obtain⟨b0,b1,b2,b3,eb⟩ : ∃ b0 b1 b2 b3,dgS l0=[b0,b1,b2,b3]:=by
         have:=HW.out.len
         match dgS l0,this with
         | [b0,b1,b2,b3],_=>exact⟨b0,b1,b2,b3,rfl⟩
        have hb0:wr.cell? ⟨w.heap.size,0,none⟩ = some (.int .i64 b0):=by rw[qz HW.out.A,eb];rfl
        have hb1:wr.cell? ⟨w.heap.size,1,none⟩ = some (.int .i64 b1):=by rw[qz HW.out.A,eb];rfl
        have hb2:wr.cell? ⟨w.heap.size,2,none⟩ = some (.int .i64 b2):=by rw[qz HW.out.A,eb];rfl
        have hb3:wr.cell? ⟨w.heap.size,3,none⟩ = some (.int .i64 b3):=by rw[qz HW.out.A,eb];rfl
        replace eb:=O.mk eb;go_wp2;replace HW:=O.mk HW.out.B;clear hb0 hb1 hb2 hb3 hbig
        go_loopw [47,10] (fun i v W=>∃ (k:Nat) (ys:List Int),k≤4∧i=.int .i64 k∧O (ys=([b0,b1,b2,b3].take k).flatMap yb∧ys.length=4 * k∧Kd.R (Kd.int .u8) 5 W w.heap.size (fun _=>True) v ys∧Below w.heap.size w W)) (fun i _ _=>4 - (intOf i).toNat)
        case atStart=>exact⟨0,[],by omega,rfl,⟨rfl,by simp,Kd.R_nil _ _ _ _ _,HW.out⟩⟩
        case round =>
         clear HW;obtain⟨k,ys,hk,rfl,HW⟩:=hrel;obtain⟨A2,c2,rfl⟩:=Kd.R_slice HW.out.2.2.1
         by_cases hlt:k < 4
         ·have hi:=agg4_index b0 b1 b2 b3 k hlt;obtain⟨q,eq⟩ : ∃ q,q=rd [b0,b1,b2,b3] k:=⟨_,rfl⟩;rw[← eq] at hi;replace eq:=O.mk eq;obtain⟨zs,ez⟩ : ∃ zs,zs=yb q:=⟨_,rfl⟩;have hz:O (wk.f q=some zs∧zs.length=4):=⟨by rw[ez];rfl,by rw[ez];rfl⟩;replace ez:=O.mk ez;go_wp2_with (first|(go_at_call 88;refine(wk.calls q zs _ hz.out.1).mono ?_;rintro e w1 ⟨v1,rfl,HV,HB1⟩;obtain⟨A3,c3,rfl,hc3,hC3⟩:=Kd.R_reads HV;have HW2:=O.mk (⟨Kd.R_below HW.out.2.2.1 HB1,zq HW.out.2.2.2 HB1⟩ : _∧_);replace HV:=O.mk hC3;clear hC3 HB1)|((with_reducible refine gate_builtin (b:=.append) (xs:=#[.tmp 50,.tmp 52]) rfl ?_);at_builtin;refine Kd.R_append_row (Value.int .u8) 0 (w0:=w) w.heap.size rfl (.tmp 50) (.tmp 52) 34 5 (.int .u8 0) 1 rfl Tryz.underlying34 info5 rfl (by decide) _ ys zs _ _ _ (fun _=>True) rfl rfl (fun _ _=>trivial) HW2.out.1 HV.out HW2.out.2 HW2.out.2.size ?aL ?_;(case aL=>have h1:=HW.out.2.1;have h2:=hz.out.2;omega);intro v1 w3 hr hb hg hat;replace hr:=O.mk hr;replace hb:=O.mk hb;clear hg hat))
          go_roundw
          case rel=>exact⟨k + 1,ys ++ zs,by omega,by go_num,⟨by rw[take_snoc_rd (by simpa using hlt),← eq.out,List.flatMap_append,← HW.out.1,ez.out];simp,by have h1:=HW.out.2.1;have h2:=hz.out.2;rw[List.length_append];omega,hr.out,hb.out⟩⟩
          case measure=>simp[intOf];omega
         ·obtain rfl:k=4:=by omega
          go_wp2;go_ret
          refine⟨_,rfl,?_,HW.out.2.2.2⟩;have e1:=HW.out.1;rw[List.take_of_length_le (by simp)] at e1;have e2:ys=dg l0:=by rw[e1,dg,eb.out]
          rw[← e2];exact HW.out.2.2.1
end Go.Proofs.YtnbbbjfjkhglhaaGreatDoor.Pr
namespace Go.Proofs.YtnbbbjfjkhglhaaGreatDoor.Pr
open Go.RowKit Go.Proofs.YtnbbbjfjkhglhaaGreatDoorW.PrintWords Go.Proofs.YtnbbbjfjkhglhaaGreatDoorW.PrintLast Go.Proofs.YtnbbbjfjkhglhaaGreatDoorW.PrintMore
attribute [local go_sem] max2_int min2_int max_two min_two max_three min_three max_four min_four
set_option linter.unusedVariables false
set_option linter.unusedSimpArgs false
def wz.j0:Nat→List Int→List Int→Bool→Option (List Int)
 | 0,_,_,_=>none
 | k + 1,x0,x1,x12=>if x12=true then(some ([]:List Int)) else((vw.f x0).bind fun t101=>((vw.f x1).bind fun t104=>(if t101.length + t104.length < 140737488355328 then((vw.f (t101 ++ t104)).bind fun t110=>(some t110)) else(none))))
def wz.f (k:Nat) (l0:List Int) (l1:List Int):Option (List Int):=if (l0.length:Int) > 20000 then(wz.j0 k l0 l1 true) else(wz.j0 k l0 l1 (decide ((l1.length:Int) > 20000)))
theorem wz.calls (k:Nat) (A0:Option Addr) (c0:Nat) (l0:List Int) (A1:Option Addr) (c1:Nat) (l1:List Int) (r:List Int) (w:World) (hr0:Kd.C (Kd.int .u8) w A0 l0.length l0) (hc0:l0.length≤c0) (hr1:Kd.C (Kd.int .u8) w A1 l1.length l1) (hc1:l1.length≤c1) (h:wz.f k l0 l1=some r) :
  Calls Tryz.prog 40 #[.slice A0 l0.length c0,.slice A1 l1.length c1] w fun e w'=>∃ v0_:Value,e=.returned (v0_)∧Kd.R (Kd.int .u8) 5 w' w.heap.size (fun _=>True) v0_ r∧Below w.heap.size w w':=by
 have HR0:=O.mk hr0;have HC0:=O.mk hc0;clear hr0 hc0;have HR1:=O.mk hr1;have HC1:=O.mk hc1;clear hr1 hc1;have HB:=O.mk (Below.refl w.heap.size w);unfold wz.f at h;have H:=h;clear h;have HC3:=O.mk H;clear H;go_enter Tryz.func40,Tryz.ntmps40;go_upto_region 1 with (fail)
 go_cut [12] (fun v12 wc=>∃ (kq:Nat) (x12_2:Bool),v12=.bool x12_2∧O (wz.j0 kq l0 l1 x12_2=some r)∧O (kq≤k)∧O (Below w.heap.size w wc))
 case first =>
  have H:=HC3.out;clear HC3
  by_cases c4:(l0.length:Int) > 20000
  ·rw[if_pos c4] at H;have c4b0:decide (20000 < (l0.length:Int))=true:=decide_eq_true c4;have c4b1:decide (20000 < l0.length)=true:=decide_eq_true (by omega);clear c4
   (first|rw[c4b0]|(simp only[i64_w,i32_w];rw[c4b0])|skip)
   have H':=O.mk H;clear H;go_wp2;go_meet
   case rel=>exact⟨_,(true),(by first|rfl|(simp;done)|(simp[*];done)),H',⟨by first|omega|exact Nat.le_refl _⟩,⟨by solve_by_elim only[HB.out,J,L,I]⟩⟩
  ·rw[if_neg c4] at H;have c4b0:decide (20000 < (l0.length:Int))=false:=decide_eq_false c4;have c4b1:decide (20000 < l0.length)=false:=decide_eq_false (by omega);clear c4
   (first|rw[c4b0]|(simp only[i64_w,i32_w];rw[c4b0])|skip)
   have H':=O.mk H;clear H;go_wp2;go_meet
   case rel=>exact⟨_,(decide ((l1.length:Int) > 20000)),(by first|rfl|(simp;done)|(simp[*];done)),H',⟨by first|omega|exact Nat.le_refl _⟩,⟨by solve_by_elim only[HB.out,J,L,I]⟩⟩
 case rest =>
  clear HC3;try clear c1
  try clear p2
  try clear c4
  try clear c4b0
  try clear c4b1
  obtain⟨kq,x12_2,rfl,HA,HJ2,HB⟩:=hcut
  cases kq with
  | zero=>exact absurd HA.out (by simp[wz.j0])
  | succ kj2 =>
   have H:=HA.out;clear HA;simp only[wz.j0] at H
   by_cases c5:x12_2=true
   ·subst c5;have H1:(some ([]:List Int))=some r:=by rw[if_pos rfl] at H;exact H
    clear H;have H:=H1;clear H1;obtain rfl:=Option.some.inj H;go_wp2;go_ret
    exact⟨_,by first|rfl|(simp[*,zx,zw] <;> rfl),by first|exact Kd.R_nil _ _ _ _ _|exact Kd.N_nil _ _ _ _ _|exact Kd.V_nil _ _ _ _ _|exact Kd.Q_nil _ _ _ _ _|exact Kd.S_nil _ _ _ _ _,by solve_by_elim only[HB.out,J,L,I]⟩
   ·replace c5:=jq9.mpr c5;subst c5;have H1:((vw.f l0).bind fun t101=>((vw.f l1).bind fun t104=>(if t101.length + t104.length < 140737488355328 then((vw.f (t101 ++ t104)).bind fun t110=>(some t110)) else(none))))=some r:=by rw[if_neg (show ¬ (false=true) by decide)] at H;exact H
    clear H;have H:=H1;clear H1;replace H:=jq8.mp H;obtain⟨t101,A60,H⟩:=H;try dsimp only at H
    have A6:=O.mk A60;clear A60;replace H:=jq8.mp H;obtain⟨t104,A70,H⟩:=H;try dsimp only at H
    have A7:=O.mk A70;clear A70
    by_cases c8:t101.length + t104.length < 140737488355328
    ·rw[if_pos c8] at H;have LMc8:=O.mk c8;clear c8;obtain⟨y107,hy107⟩ : ∃ y_:List Int,y_=(t101 ++ t104):=⟨_,rfl⟩;replace H:((vw.f y107).bind fun t110=>(some t110))=some r:=by first|(rw[hy107];with_reducible exact H)|(have H2_:=(Option.bind_some _ _).symm.trans H;rw[hy107];with_reducible exact H2_)|(have H2_:=(Option.bind_some _ _).symm.trans H;with_reducible exact H2_)|with_reducible exact H|(rw[hy107];exact H)|exact H
     have Ny107:=O.mk hy107;clear hy107;replace H:=jq8.mp H;obtain⟨t110,A90,H⟩:=H;replace H:(some t110)=some r:=H;have A9:=O.mk A90;clear A90;obtain rfl:=Option.some.inj H;go_wp2_with (first|((with_reducible refine jq (f:=68) rfl ?_);refine goesL_ (some 14) rfl rfl Tryz.func68 (by kernel_rfl) rfl #[.slice A0 l0.length c0] rfl (by(try simp only[jq0,jq1,jq2]);first|done|rfl|(simp only[jq3,jq4];rfl)) ?_;(with_reducible refine(vw.calls _ _ l0 t101 _ ?side1 ?side2 A6.out).mono ?_);(case side1=>solve_by_elim only[(Kd.C_below HR0.out HB.out),Kd.C_alloc,Kd.C_drewN,Kd.C_drew]);(case side2=>exact HC0.out);rintro e w10 ⟨v102,rfl,ho0,hb⟩;refine⟨_,rfl,?_⟩;have HO103:=O.mk (Kd.R_lower ho0 (zz (by solve_by_elim only[HB.out,J,L,I])));replace HB:=O.mk (zq (by solve_by_elim only[HB.out,J,L,I]) hb);(try clear hb ho0))|((with_reducible refine jq (f:=68) rfl ?_);refine goesL_ (some 16) rfl rfl Tryz.func68 (by kernel_rfl) rfl #[.slice A1 l1.length c1] rfl (by(try simp only[jq0,jq1,jq2]);first|done|rfl|(simp only[jq3,jq4];rfl)) ?_;(with_reducible refine(vw.calls _ _ l1 t104 _ ?side1 ?side2 A7.out).mono ?_);(case side1=>solve_by_elim only[(Kd.C_below HR1.out HB.out),Kd.C_alloc,Kd.C_drewN,Kd.C_drew]);(case side2=>exact HC1.out);rintro e w11 ⟨v105,rfl,ho0,hb⟩;refine⟨_,rfl,?_⟩;have HO106:=O.mk (Kd.R_lower (Kd.R_new' ho0 (Kd.R_lt (by solve_by_elim only[HO103.out,Kd.zk,Kd.zj,Kd.zv]))) (zz (by solve_by_elim only[HB.out,J,L,I])));replace HO103:=O.mk (Kd.R_elder' (by solve_by_elim only[HO103.out,Kd.zk,Kd.zj,Kd.zv]) (Kd.R_base ho0) hb);replace HB:=O.mk (zq (by solve_by_elim only[HB.out,J,L,I]) hb);(try clear hb ho0);obtain⟨Ao13,co13,eo13⟩:=Kd.R_slice HO106.out;subst eo13)|((with_reducible refine gate_builtin (b:=.append) (xs:=#[.tmp 14,.tmp 16]) rfl ?_);(try (refine gate_guard (by rfl) ?_;dsimp only));at_builtin;refine Kd.R_append_rows (Kd.int .u8) (w0:=w) w.heap.size rfl (.tmp 14) (.tmp 16) 34 5 (.int .u8 0) 1 rfl Tryz.underlying34 info5 rfl (by decide) (by omega) v102 t101 t104 _ _ _ (fun k_=>some k_≠(.slice Ao13 t104.length co13:Value).ownBlock) (fun _=>False) rfl rfl ?aO ?aR (fun _ _ h=>h) (fun _ h=>h.elim) ?aF ?aB ?aS ?aL ?_;(case aR=>repeat(first|exact(Kd.R_reads' HO106.out).2.2|(with_reducible refine Kd.C_alloc ?_ _)|(with_reducible refine Kd.C_drewN ?_ _)|(with_reducible refine Kd.C_drew ?_)));(case aB=>exact(by solve_by_elim only[HB.out,J,L,I]));(case aF=>exact(fun k_ hk=>Kd.fresh' (Kd.R_lt (by solve_by_elim only[HO106.out,Kd.zk,Kd.zj,Kd.zv])) k_ hk));(case aO=>exact(by(with_reducible repeat(first|apply Kd.zk|apply Kd.zj|apply Kd.zv));exact Kd.R_mono HO103.out (fun _ hk=>hk.2)));(case aS=>exact(zz (by solve_by_elim only[HB.out,J,L,I])));(case aL=>have:=LMc8.out;omega);intro v108 w12 ho hb hg hat;rw[← Ny107.out] at ho;replace HO106:=O.mk (Kd.R_after (ok:=(fun _=>True)) (by solve_by_elim only[HO106.out,Kd.zk,Kd.zj,Kd.zv]) hg hat);replace HB:=O.mk (hb);have HO109:=O.mk (ho);clear HO103;clear ho hb hg hat;obtain⟨Ao14,co14,eo14⟩:=Kd.R_slice HO109.out;subst eo14)|((with_reducible refine jq (f:=68) rfl ?_);refine goesL_ (some 18) rfl rfl Tryz.func68 (by kernel_rfl) rfl #[.slice Ao14 y107.length co14] rfl (by(try simp only[jq0,jq1,jq2]);first|done|rfl|(simp only[jq3,jq4];rfl)) ?_;(with_reducible refine(vw.calls _ _ y107 t110 _ ?side1 ?side2 A9.out).mono ?_);(case side1=>solve_by_elim only[(Kd.R_reads' HO109.out).2.2,Kd.C_alloc,Kd.C_drewN,Kd.C_drew]);(case side2=>exact(Kd.R_reads' HO109.out).2.1);rintro e w15 ⟨v111,rfl,ho0,hb⟩;refine⟨_,rfl,?_⟩;have HO112:=O.mk (Kd.R_lower (Kd.R_new' (Kd.R_new' ho0 (Kd.R_lt (by solve_by_elim only[HO106.out,Kd.zk,Kd.zj,Kd.zv]))) (Kd.R_lt (by solve_by_elim only[HO109.out,Kd.zk,Kd.zj,Kd.zv]))) (zz (by solve_by_elim only[HB.out,J,L,I])));replace HO106:=O.mk (Kd.R_elder' (by solve_by_elim only[HO106.out,Kd.zk,Kd.zj,Kd.zv]) (Kd.R_base ho0) hb);replace HO109:=O.mk (Kd.R_elder' (by solve_by_elim only[HO109.out,Kd.zk,Kd.zj,Kd.zv]) (Kd.R_base ho0) hb);replace HB:=O.mk (zq (by solve_by_elim only[HB.out,J,L,I]) hb);(try clear hb ho0)))
     go_ret
     exact⟨_,by first|rfl|(simp[*,zx,zw] <;> rfl),by(with_reducible repeat(first|apply Kd.zk|apply Kd.zj|apply Kd.zv));exact Kd.R_mono HO112.out (fun _ hk=>trivial),by solve_by_elim only[HB.out,J,L,I]⟩
    ·rw[if_neg c8] at H;exact absurd H (by simp)
end Go.Proofs.YtnbbbjfjkhglhaaGreatDoor.Pr
namespace Go.Proofs.YtnbbbjfjkhglhaaGreatDoor.Pr
open Go.RowKit Go.Shelf Go.Proofs.YtnbbbjfjkhglhaaGreatDoorW.PrintWords Go.Proofs.YtnbbbjfjkhglhaaGreatDoorW.PrintLast Go.Proofs.YtnbbbjfjkhglhaaGreatDoorW.PrintMore
set_option linter.unusedVariables false
set_option linter.unusedSimpArgs false
def attTail (k:Nat) (id:ByteArray) (l:List S30) (tag:List Int) (x:S30):Option (ByteArray × List S30 × List Int) :=
 (wj.f k x.f0 x.f1 x.f2 x.f3.f0 x.f3.f1 x.f3.f2 x.f3.f3).bind fun s=>if s.size≤1000000000 then(wz.f k tag (bytesOf s)).bind fun m=>some (id,l ++ [x],m) else none
def vk.f (k:Nat) (a0_0:ByteArray) (l0_1:List S30) (l0_2:List Int) (a1_0:ByteArray) (a1_1:Int) (a1_2:ByteArray) (a1_3:Int) (a1_4:Int) (a1_5:ByteArray) (a1_6:ByteArray):Option (ByteArray × List S30 × List Int) :=
 if l0_1.length + 1 < 1000000000 then(ww.f k a0_0 l0_1 l0_2).bind fun g1=>if g1=true then((ww.f k a0_0 (l0_1 ++ [⟨a1_0,a1_1,a1_2,⟨a1_3,a1_4,a1_5,a1_6⟩⟩]) l0_2).bind fun g2=>if g2=true then attTail k a0_0 l0_1 l0_2 ⟨a1_0,a1_1,a1_2,⟨a1_3,a1_4,a1_5,a1_6⟩⟩ else some (⟨#[]⟩,[],[])) else some (⟨#[]⟩,[],[]) else none
theorem pre_ {b:Nat} {w3 W wC:World} (hbC:Below W.heap.size W wC) (h:Below b w3 W):Below b w3 W:=h
theorem keepB {W W':World} (hb:Below W.heap.size W W') (g:Nat) (o:Obj) (h:W.heap[g]? = some o):W'.heap[g]? = some o:=(hb.block g (blk_lt h)).trans h
theorem keepC {W W':World} {x:S30} (hb:Below W.heap.size W W') (A:Option Addr) (h:Kd.C k30 W A 1 [x]):Kd.C k30 W' A 1 [x]:=Kd.C_below h hb
theorem lit_C {x:S30} {a:ByteArray} {b:Int} {c:ByteArray} {d e:Int} {f g:ByteArray} (h:x = ⟨a,b,c,⟨d,e,f,g⟩⟩) (W:World) {q:Nat} (hq:q=W.heap.size):Kd.C k30 (W.alloc (.cells #[.string a,.int .i64 b,.string c,.int .i64 d,.int .i64 e,.string f,.string g] 30 (0,0))) (some ⟨q,0,none⟩) 1 [x]:=by
 subst h;subst hq
 have hr:Kd.R k30 30 (W.alloc (.cells #[.string a,.int .i64 b,.string c,.int .i64 d,.int .i64 e,.string f,.string g] 30 (0,0))) 0 (fun _=>True) (.slice (some ⟨W.heap.size,0,none⟩) 1 1) [(⟨a,b,c,⟨d,e,f,g⟩⟩ : S30)]:=by
  refine⟨fun _ _=>trivial,[.string a,.int .i64 b,.string c,.int .i64 d,.int .i64 e,.string f,.string g],⟨rfl,.inr ⟨W.heap.size,1,_,rfl,Nat.zero_le _,blk_new _ _,Nat.le_refl _,by decide,rfl,rfl⟩⟩,rfl,fun j p hp=>?_⟩
  cases j with
  | zero =>
   obtain rfl:=Option.some.inj hp;exact k30_mkM _ _ _ _
  | succ j=>cases hp
 exact(Kd.R_reads' hr).2.2
theorem C_allocB {W:World} {A:Option Addr} {n:Nat} {xs:List S30} (h:Kd.C k30 W A n xs) (cs:Array Value):Kd.C k30 (W.alloc (.cells cs 41 (0,0))) A n xs:=Kd.C_alloc h _
theorem keepG {Y wA:World} {b:Nat} {ok:Nat→Prop} {v:Value} {xs:List S30} (hg:Y.grownBy wA v.ownBlock) (ho:Kd.R k30 30 Y b ok v xs) (g:Nat) (cs:Array Value) (h:Y.heap[g]? = some (.cells cs 41 (0,0))):wA.heap[g]? = some (.cells cs 41 (0,0)):=blk_grown h hg (Kd.R_ne ho h (by decide))
theorem out_blk {W:World} {g:Nat} {z0 z1 z2:Value} (h:W.heap[g]? = some (.cells #[z0,z1,z2] 41 (0,0))) (a b c:Value):(((W.setCell ⟨g,0,none⟩ a).setCell ⟨g,1,none⟩ b).setCell ⟨g,2,none⟩ c).heap[g]? = some (.cells #[a,b,c] 41 (0,0)):=blk_set (blk_set (blk_set h 0 a) 1 b) 2 c
theorem out_R {α:Type} {d:Kd α} {e:Nat} {W:World} {g:Nat} {z0 z1 z2:Value} {base:Nat} {ok:Nat→Prop} {v:Value} {xs:List α} (ht:∀ q,q ∈ e :: d.E→q≠41) (h:W.heap[g]? = some (.cells #[z0,z1,z2] 41 (0,0))) (hr:d.R e W base ok v xs) (a b c:Value):d.R e (((W.setCell ⟨g,0,none⟩ a).setCell ⟨g,1,none⟩ b).setCell ⟨g,2,none⟩ c) base (fun _=>True) v xs :=
 Kd.R_mono (Kd.R_far (p:=⟨g,2,none⟩) (Kd.R_far (p:=⟨g,1,none⟩) (Kd.R_far (p:=⟨g,0,none⟩) (Kd.R_types hr h ht) (fun _ hk=>hk.2) a) (fun _ hk=>hk.2) b) (fun _ hk=>hk.2) c) (fun _ _=>trivial)
theorem one_R {α:Type} {d:Kd α} {e:Nat} {W:World} {g:Nat} {cs:Array Value} {base:Nat} {ok:Nat→Prop} {v:Value} {xs:List α} (ht:∀ q,q ∈ e :: d.E→q≠41) (h:W.heap[g]? = some (.cells cs 41 (0,0))) (hr:d.R e W base ok v xs) (j:Nat) (a:Value):d.R e (W.setCell ⟨g,j,none⟩ a) base (fun _=>True) v xs :=
 Kd.R_mono (Kd.R_far (p:=⟨g,j,none⟩) (Kd.R_types hr h ht) (fun _ hk=>hk.2) a) (fun _ _=>trivial)
theorem set_B {w W:World} {g:Nat} (h:Below w.heap.size w W) (hg:w.heap.size≤g) (a b c:Value):Below w.heap.size w (((W.setCell ⟨g,0,none⟩ a).setCell ⟨g,1,none⟩ b).setCell ⟨g,2,none⟩ c):=qj (qj (qj h hg) hg) hg
theorem vk.calls (k:Nat) (a0_0:ByteArray) (A0_1:Option Addr) (c0_1:Nat) (l0_1:List (S30)) (A0_2:Option Addr) (c0_2:Nat) (l0_2:List Int) (a1_0:ByteArray) (a1_1:Int) (a1_2:ByteArray) (a1_3:Int) (a1_4:Int) (a1_5:ByteArray) (a1_6:ByteArray) (r1:ByteArray) (r2:List (S30)) (r3:List Int) (w:World) (htab:TabW w) (hr0_1:Kd.C k30 w A0_1 l0_1.length l0_1) (hc0_1:l0_1.length≤c0_1) (hr0_2:Kd.C (Kd.int .u8) w A0_2 l0_2.length l0_2) (hc0_2:l0_2.length≤c0_2) (h:vk.f k a0_0 l0_1 l0_2 a1_0 a1_1 a1_2 a1_3 a1_4 a1_5 a1_6=some (r1,r2,r3)) :
  Calls Tryz.prog 16 #[.agg #[.string a0_0,.slice A0_1 l0_1.length c0_1,.slice A0_2 l0_2.length c0_2],.agg #[.string a1_0,.int .i64 a1_1,.string a1_2,.int .i64 a1_3,.int .i64 a1_4,.string a1_5,.string a1_6]] w fun e w'=>∃ v1_ v2_:Value,e=.returned (.agg #[.string r1,v1_,v2_])∧Kd.R k30 30 w' w.heap.size (fun _=>True) v1_ r2∧Kd.R (Kd.int .u8) 5 w' w.heap.size (fun _=>True) v2_ r3∧Below w.heap.size w w':=by
 unfold vk.f at h
 by_cases hl:l0_1.length + 1 < 1000000000
 case neg=>rw[if_neg hl] at h;cases h
 rw[if_pos hl] at h;obtain⟨x,hx⟩ : ∃ x:S30,x = ⟨a1_0,a1_1,a1_2,⟨a1_3,a1_4,a1_5,a1_6⟩⟩:=⟨_,rfl⟩;rw[← hx] at h;have HH:=O.mk h;have HTAB:=O.mk htab;have HR1:=O.mk hr0_1;have HC1:=O.mk hc0_1;have HR2:=O.mk hr0_2;have HC2:=O.mk hc0_2;have HL:=O.mk hl;have HXE:=O.mk hx;have HCL:O (vv.f l0_1=some l0_1):=⟨by unfold vv.f;rw[if_pos (by omega)]⟩;clear htab hr0_1 hc0_1 hr0_2 hc0_2 h hl hx;have hu41:=Tryz.underlying41;have hu30:=Tryz.underlying30;have hal:=fun (o:Obj)=>J (Below.refl w.heap.size w) o
 go_enter Tryz.func16,Tryz.ntmps16;go_upto_region 1 with (fail)
 have HB3:=O.mk (J (J (hal (.cells #[.string a0_0,.slice A0_1 l0_1.length c0_1,.slice A0_2 l0_2.length c0_2] 41 (0,0))) (.cells #[.string a1_0,.int .i64 a1_1,.string a1_2,.int .i64 a1_3,.int .i64 a1_4,.string a1_5,.string a1_6] 30 (0,0))) (.cells #[.string (⟨#[]⟩ : ByteArray),.slice none 0 0,.slice none 0 0] 41 (0,0)));have HSZ:O ((((w.alloc (.cells #[.string a0_0,.slice A0_1 l0_1.length c0_1,.slice A0_2 l0_2.length c0_2] 41 (0,0))).alloc (.cells #[.string a1_0,.int .i64 a1_1,.string a1_2,.int .i64 a1_3,.int .i64 a1_4,.string a1_5,.string a1_6] 30 (0,0))).alloc (.cells #[.string (⟨#[]⟩ : ByteArray),.slice none 0 0,.slice none 0 0] 41 (0,0))).heap.size=w.heap.size + 3):=⟨by simp only[World.size_alloc]⟩;have HK1:=O.mk (qk (qk (blk_new w (.cells #[.string a0_0,.slice A0_1 l0_1.length c0_1,.slice A0_2 l0_2.length c0_2] 41 (0,0))) (.cells #[.string a1_0,.int .i64 a1_1,.string a1_2,.int .i64 a1_3,.int .i64 a1_4,.string a1_5,.string a1_6] 30 (0,0))) (.cells #[.string (⟨#[]⟩ : ByteArray),.slice none 0 0,.slice none 0 0] 41 (0,0)));have HK2:=O.mk (qk (blk_new (w.alloc (.cells #[.string a0_0,.slice A0_1 l0_1.length c0_1,.slice A0_2 l0_2.length c0_2] 41 (0,0))) (.cells #[.string a1_0,.int .i64 a1_1,.string a1_2,.int .i64 a1_3,.int .i64 a1_4,.string a1_5,.string a1_6] 30 (0,0))) (.cells #[.string (⟨#[]⟩ : ByteArray),.slice none 0 0,.slice none 0 0] 41 (0,0)));have HK3:=O.mk (blk_new ((w.alloc (.cells #[.string a0_0,.slice A0_1 l0_1.length c0_1,.slice A0_2 l0_2.length c0_2] 41 (0,0))).alloc (.cells #[.string a1_0,.int .i64 a1_1,.string a1_2,.int .i64 a1_3,.int .i64 a1_4,.string a1_5,.string a1_6] 30 (0,0))) (.cells #[.string (⟨#[]⟩ : ByteArray),.slice none 0 0,.slice none 0 0] 41 (0,0)));simp only[World.size_alloc] at HK2 HK3;clear hal;generalize ((w.alloc (.cells #[.string a0_0,.slice A0_1 l0_1.length c0_1,.slice A0_2 l0_2.length c0_2] 41 (0,0))).alloc (.cells #[.string a1_0,.int .i64 a1_1,.string a1_2,.int .i64 a1_3,.int .i64 a1_4,.string a1_5,.string a1_6] 30 (0,0))).alloc (.cells #[.string (⟨#[]⟩ : ByteArray),.slice none 0 0,.slice none 0 0] 41 (0,0))=w3 at HB3 HSZ HK1 HK2 HK3 ⊢
 have hK:∀ W',Below w3.heap.size w3 W'→W'.cell? ⟨w.heap.size,0,none⟩ = some (.string a0_0)∧W'.cell? ⟨w.heap.size,1,none⟩ = some (.slice A0_1 l0_1.length c0_1)∧W'.cell? ⟨w.heap.size,2,none⟩ = some (.slice A0_2 l0_2.length c0_2)∧W'.cell? ⟨w.heap.size + 1,0,none⟩ = some (.string a1_0)∧W'.cell? ⟨w.heap.size + 1,1,none⟩ = some (.int .i64 a1_1)∧W'.cell? ⟨w.heap.size + 1,2,none⟩ = some (.string a1_2)∧W'.cell? ⟨w.heap.size + 1,3,none⟩ = some (.int .i64 a1_3)∧W'.cell? ⟨w.heap.size + 1,4,none⟩ = some (.int .i64 a1_4)∧W'.cell? ⟨w.heap.size + 1,5,none⟩ = some (.string a1_5)∧W'.cell? ⟨w.heap.size + 1,6,none⟩ = some (.string a1_6):=fun W' hb=>by
  have b1:=(hb.block _ (blk_lt HK1.out)).trans HK1.out;have b2:=(hb.block _ (blk_lt HK2.out)).trans HK2.out;exact⟨qz b1 0,qz b1 1,qz b1 2,qz b2 0,qz b2 1,qz b2 2,qz b2 3,qz b2 4,qz b2 5,qz b2 6⟩
 have HKS:=O.mk hK;clear hK
 go_cut [5] from 6 (fun v5 W=>∃ (gb:Nat) (Ao:Option Addr) (co:Nat),v5=.pointer (some ⟨gb,0,none⟩)∧O (w3.heap.size≤gb)∧O (Below w3.heap.size w3 W)∧O (W.heap[gb]? = some (.cells #[.string a0_0,.slice Ao (l0_1.length + 1) co,.slice A0_2 l0_2.length c0_2] 41 (0,0)))∧O (Kd.R k30 30 W w3.heap.size (fun _=>True) (.slice Ao (l0_1.length + 1) co) (l0_1 ++ [x])))
 case first =>
  obtain⟨k0,k1,k2,k3,k4,k5,k6,k7,k8,k9⟩:=HKS.out _ (Below.refl _ _)
  go_region_held3 (fun W'=>W'.cell? ⟨w.heap.size,0,none⟩ = some (.string a0_0)∧W'.cell? ⟨w.heap.size,1,none⟩ = some (.slice A0_1 l0_1.length c0_1)∧W'.cell? ⟨w.heap.size,2,none⟩ = some (.slice A0_2 l0_2.length c0_2)∧W'.cell? ⟨w.heap.size + 1,0,none⟩ = some (.string a1_0)∧W'.cell? ⟨w.heap.size + 1,1,none⟩ = some (.int .i64 a1_1)∧W'.cell? ⟨w.heap.size + 1,2,none⟩ = some (.string a1_2)∧W'.cell? ⟨w.heap.size + 1,3,none⟩ = some (.int .i64 a1_3)∧W'.cell? ⟨w.heap.size + 1,4,none⟩ = some (.int .i64 a1_4)∧W'.cell? ⟨w.heap.size + 1,5,none⟩ = some (.string a1_5)∧W'.cell? ⟨w.heap.size + 1,6,none⟩ = some (.string a1_6)) (first|go_keep|exact HKS.out _ (by with_reducible repeat(first|exact HBA.out|exact HBC.out|exact Below.refl _ _|apply J|apply I|refine qj ?_ (by first|(have:=HBA.out.size;have:=HBC.out.size;omega)|(have:=HBA.out.size;omega)|(have:=HBC.out.size;omega)|omega)))) (first
   | (go_at_call 39;(refine(vv.calls A0_1 c0_1 l0_1 l0_1 _ ?hc HC1.out HCL.out).mono ?_;(case hc=>exact Kd.C_below HR1.out (HB3.out.trans (Below.mono (B:=w3.heap.size) (by with_reducible repeat(first | exact HBA.out | exact HBC.out | exact Below.refl _ _ | apply J | apply I)) HB3.out.size)));rintro e wC ⟨vC,rfl,hoC,hbC⟩;have HBX:=O.mk (pre_ hbC (b:=w3.heap.size) (w3:=w3) (by with_reducible repeat(first | exact HBA.out | exact HBC.out | exact Below.refl _ _ | apply J | apply I)));have HOC:=O.mk (Kd.R_lower hoC HBX.out.size);have HBC:=O.mk (HBX.out.trans (hbC.mono HBX.out.size));have HLC:=O.mk (keepC (x:=x) hbC);have HLB:=O.mk (keepB hbC);clear HBX hoC hbC))
   | (refine Kd.R_append_rows_step k30 (w0:=w3) w3.heap.size (by rfl) (.tmp 10) (.tmp 12) 39 30 (.agg #[(.string ⟨#[]⟩),(.int .i64 0),(.string ⟨#[]⟩),(.int .i64 0),(.int .i64 0),(.string ⟨#[]⟩),(.string ⟨#[]⟩)]) 88 rfl Tryz.underlying39 info30 rfl (by decide) (by omega) vC l0_1 [x] _ _ _ (fun _=>True) (fun _=>False) rfl rfl ?aO ?aR (fun _ _ h=>h) (fun _ h=>h.elim) (fun _ _=>trivial) ?aB ?aS ?aL ?_;((case aO=>exact(by solve_by_elim only[HOC.out,Kd.zk,Kd.zj,Kd.zv]));(case aR=>exact(by show Kd.C k30 _ _ 1 [x];(with_reducible repeat(first | refine C_allocB ?_ _ | refine HLC.out _ ?_ | refine Kd.C_drew ?_));exact lit_C HXE.out _ (by first | rfl | (simp only[World.size_alloc];done) | (simp only[World.size_alloc];rfl))));(case aB=>exact(by with_reducible repeat(first | exact HBA.out | exact HBC.out | exact Below.refl _ _ | apply J | apply I)));(case aS=>exact(Below.size (B:=w3.heap.size) (w:=w3) (by with_reducible repeat(first | exact HBA.out | exact HBC.out | exact Below.refl _ _ | apply J | apply I))));(case aL=>have:=HL.out;omega);intro vA wA hoA hbA hgA hatA;obtain⟨Ao,co,eo⟩:=Kd.R_slice hoA;rw[List.length_append,List.length_singleton] at eo;subst eo;have HOA:=O.mk hoA;have HBA:=O.mk hbA;have HLG:=O.mk (keepG hgA (by solve_by_elim only[HOC.out,Kd.zk,Kd.zj,Kd.zv]));(try (with_reducible (first | have kb:=HLG.out _ #[.string (⟨#[]⟩ : ByteArray),.slice none 0 0,.slice none 0 0] (blk_new _ _) | have kb:=HLG.out _ #[.string (⟨#[]⟩ : ByteArray),.slice none 0 0,.slice none 0 0] (qk (blk_new _ _) _) | have kb:=HLG.out _ #[.string (⟨#[]⟩ : ByteArray),.slice none 0 0,.slice none 0 0] (qk (HLB.out _ _ (blk_new _ _)) _) | have kb:=HLG.out _ #[.string (⟨#[]⟩ : ByteArray),.slice none 0 0,.slice none 0 0] (HLB.out _ _ (blk_new _ _)) | have kb:=HLG.out _ #[.string (⟨#[]⟩ : ByteArray),.slice none 0 0,.slice none 0 0] (HLB.out _ _ (qk (blk_new _ _) _)));(try simp only[World.size_alloc] at kb);(try dsimp only[World.drew] at kb);have kb0:wA.cell? ⟨_,0,none⟩ = some (.string (⟨#[]⟩ : ByteArray)):=qz kb 0;have kb1:wA.cell? ⟨_,1,none⟩ = some (.slice none 0 0):=qz kb 1;have kb2:wA.cell? ⟨_,2,none⟩ = some (.slice none 0 0):=qz kb 2;have kf0:=qq kb 0;have kf1:=qq kb 1;have kf2:=qq kb 2;have HKB:=O.mk kb;clear kb));clear hoA hbA hgA hatA)))
  all_goals (go_wp2;go_meet)
  all_goals first
   | with_reducible exact⟨_,Ao,co,rfl,⟨HBA.out.size⟩,⟨J HBA.out _⟩,⟨blk_new _ _⟩,⟨Kd.zk HOA.out _⟩⟩
   | exact⟨_,Ao,co,rfl,⟨(by first | (have:=HBA.out.size;have:=HBC.out.size;omega) | (have:=HBA.out.size;omega) | (have:=HBC.out.size;omega) | omega)⟩,⟨(by with_reducible repeat(first | exact HBA.out | exact HBC.out | exact Below.refl _ _ | apply J | apply I | refine qj ?_ (by first | (have:=HBA.out.size;have:=HBC.out.size;omega) | (have:=HBA.out.size;omega) | (have:=HBC.out.size;omega) | omega)))⟩,⟨out_blk HKB.out _ _ _⟩,⟨out_R (by decide) HKB.out HOA.out _ _ _⟩⟩
 case rest =>
  obtain⟨gb,Ao,co,rfl,HGE,HBW,HKG,HRO⟩:=hcut;have HB0:=O.mk (HB3.out.trans (HBW.out.mono HB3.out.size));have HGW:=HGE
  have HKT:O (∀ W',Below wc.heap.size wc W'→W'.cell? ⟨w.heap.size,2,none⟩ = some (.slice A0_2 l0_2.length c0_2)∧W'.cell? ⟨w.heap.size + 1,0,none⟩ = some (.string a1_0)∧W'.cell? ⟨w.heap.size + 1,1,none⟩ = some (.int .i64 a1_1)∧W'.cell? ⟨w.heap.size + 1,2,none⟩ = some (.string a1_2)∧W'.cell? ⟨w.heap.size + 1,3,none⟩ = some (.int .i64 a1_3)∧W'.cell? ⟨w.heap.size + 1,4,none⟩ = some (.int .i64 a1_4)∧W'.cell? ⟨w.heap.size + 1,5,none⟩ = some (.string a1_5)∧W'.cell? ⟨w.heap.size + 1,6,none⟩ = some (.string a1_6)):=⟨fun W' hb=>by
   obtain⟨a0,a1,a2,a3,a4,a5,a6,a7,a8,a9⟩:=HKS.out W' (HBW.out.trans (hb.mono HBW.out.size));exact⟨a2,a3,a4,a5,a6,a7,a8,a9⟩⟩
  obtain⟨k0,k1,k2,_⟩:=HKS.out wc HBW.out;have HKR0:O (∀ W',Below wc.heap.size wc W'→W'.heap[w.heap.size + 1 + 1]? = some (.cells #[.string (⟨#[]⟩ : ByteArray),.slice none 0 0,.slice none 0 0] 41 (0,0))):=⟨fun W' hb=>(hb.block _ (Nat.lt_of_lt_of_le (blk_lt HK3.out) HBW.out.size)).trans ((HBW.out.block _ (blk_lt HK3.out)).trans HK3.out)⟩;have hlen:(l0_1 ++ [x]).length=l0_1.length + 1:=by rw[List.length_append,List.length_singleton]
  obtain⟨-,hco,hC⟩:=Kd.R_reads' HRO.out;rw[hlen] at hC;have HCO:=O.mk hC;clear hC;obtain⟨v1,hv1,h⟩:=jq8.mp HH.out;have HV1:=O.mk hv1;clear hv1
  cases v1 with
  | false =>
   rw[if_neg (by decide)] at h;have h:=Option.some.inj h;injection h with e1 e2
   injection e2 with e2 e3
   subst e1;subst e2;subst e3
   clear hlen hco;go_wp2_with (first|(go_at_call 32;((with_reducible refine(ww.calls k a0_0 _ _ l0_1 _ _ l0_2 false _ (Kd.C_below HR1.out HB0.out) HC1.out (Kd.C_below HR2.out HB0.out) HC2.out HV1.out).mono ?_);rintro e w5 ⟨rfl,hb5⟩;have HB5:=O.mk hb5;clear hb5;have HKR:=O.mk (HKR0.out _ HB5.out);have r0:w5.cell? ⟨w.heap.size + 1 + 1,0,none⟩ = some (.string (⟨#[]⟩ : ByteArray)):=qz (HKR.out) 0;have rf0:=qq (HKR.out) 0;have r1:w5.cell? ⟨w.heap.size + 1 + 1,1,none⟩ = some (.slice none 0 0):=qz (HKR.out) 1;have rf1:=qq (HKR.out) 1;have r2:w5.cell? ⟨w.heap.size + 1 + 1,2,none⟩ = some (.slice none 0 0):=qz (HKR.out) 2;have rf2:=qq (HKR.out) 2)))
   refine bodyPost_ret (results_cell_row rfl _ _ (w.heap.size + 1 + 1) 41 #[.string (⟨#[]⟩ : ByteArray),.slice none 0 0,.slice none 0 0] (0,0) _ rfl (out_blk HKR.out _ _ _) Tryz.underlying41 rfl (by kernel_rfl)) rfl ?_;exact⟨_,_,rfl,Kd.R_nil _ _ _ _ _,Kd.R_nil _ _ _ _ _,set_B (HB0.out.trans (HB5.out.mono HB0.out.size)) (by omega) _ _ _⟩
  | true =>
   rw[if_pos rfl] at h;obtain⟨v2,hv2,h⟩:=jq8.mp h;have C2:=fun (W:World) (h1:Kd.C k30 W Ao (l0_1 ++ [x]).length (l0_1 ++ [x])) (h2:Kd.C (Kd.int .u8) W A0_2 l0_2.length l0_2)=>ww.calls k a0_0 Ao co (l0_1 ++ [x]) A0_2 c0_2 l0_2 v2 W h1 (by rw[hlen];exact hco) h2 HC2.out hv2
   rw[hlen] at C2;replace C2:=O.mk C2;clear hv2 hlen hco
   cases v2 with
   | false =>
    rw[if_neg (by decide)] at h;have h:=Option.some.inj h;injection h with e1 e2
    injection e2 with e2 e3
    subst e1;subst e2;subst e3
    go_wp2_with (first|(go_at_call 32;((with_reducible refine(C2.out w5 (Kd.C_below HCO.out HB5.out) (Kd.C_below HR2.out (HB0.out.trans (HB5.out.mono HB0.out.size)))).mono ?_);rintro e w6 ⟨rfl,hb6⟩;have HB6:=O.mk (HB5.out.trans (hb6.mono HB5.out.size));clear hb6;have HKR:=O.mk (HKR0.out _ HB6.out);have r0:w6.cell? ⟨w.heap.size + 1 + 1,0,none⟩ = some (.string (⟨#[]⟩ : ByteArray)):=qz (HKR.out) 0;have rf0:=qq (HKR.out) 0;have r1:w6.cell? ⟨w.heap.size + 1 + 1,1,none⟩ = some (.slice none 0 0):=qz (HKR.out) 1;have rf1:=qq (HKR.out) 1;have r2:w6.cell? ⟨w.heap.size + 1 + 1,2,none⟩ = some (.slice none 0 0):=qz (HKR.out) 2;have rf2:=qq (HKR.out) 2))|(go_at_call 32;((with_reducible refine(ww.calls k a0_0 _ _ l0_1 _ _ l0_2 true _ (Kd.C_below HR1.out HB0.out) HC1.out (Kd.C_below HR2.out HB0.out) HC2.out HV1.out).mono ?_);rintro e w5 ⟨rfl,hb5⟩;have HB5:=O.mk hb5;clear hb5;have o0:w5.cell? ⟨gb,0,none⟩ = some (.string a0_0):=qz ((HB5.out.block _ (blk_lt HKG.out)).trans HKG.out) 0;have o1:w5.cell? ⟨gb,1,none⟩ = some (.slice Ao (l0_1.length + 1) co):=qz ((HB5.out.block _ (blk_lt HKG.out)).trans HKG.out) 1;have o2:w5.cell? ⟨gb,2,none⟩ = some (.slice A0_2 l0_2.length c0_2):=qz ((HB5.out.block _ (blk_lt HKG.out)).trans HKG.out) 2)))
    refine bodyPost_ret (results_cell_row rfl _ _ (w.heap.size + 1 + 1) 41 #[.string (⟨#[]⟩ : ByteArray),.slice none 0 0,.slice none 0 0] (0,0) _ rfl (out_blk HKR.out _ _ _) Tryz.underlying41 rfl (by kernel_rfl)) rfl ?_;exact⟨_,_,rfl,Kd.R_nil _ _ _ _ _,Kd.R_nil _ _ _ _ _,set_B (HB0.out.trans (HB6.out.mono HB0.out.size)) (by omega) _ _ _⟩
   | true =>
    rw[if_pos rfl] at h;obtain⟨s,hs,h⟩:=jq8.mp h
    by_cases hsz:s.size≤1000000000
    case neg=>rw[if_neg hsz] at h;cases h
    rw[if_pos hsz] at h;obtain⟨m,hm,h⟩:=jq8.mp h;have h:=Option.some.inj h;injection h with e1 e2
    injection e2 with e2 e3
    have hx:=HXE.out;subst hx;have HS:=O.mk hs;have HSB:O (bytesOfS.f s=some (bytesOf s)):=⟨by unfold bytesOfS.f;rw[if_pos (by omega)]⟩;have HM:=O.mk hm;subst e1;subst e2;subst e3
    clear hs hm hsz;go_wp2_with (first|(go_at_call 32;((with_reducible refine(C2.out w5 (Kd.C_below HCO.out HB5.out) (Kd.C_below HR2.out (HB0.out.trans (HB5.out.mono HB0.out.size)))).mono ?_);rintro e w6 ⟨rfl,hb6⟩;have HB6:=O.mk (HB5.out.trans (hb6.mono HB5.out.size));clear hb6))|(go_at_call 32;((with_reducible refine(ww.calls k a0_0 _ _ l0_1 _ _ l0_2 true _ (Kd.C_below HR1.out HB0.out) HC1.out (Kd.C_below HR2.out HB0.out) HC2.out HV1.out).mono ?_);rintro e w5 ⟨rfl,hb5⟩;have HB5:=O.mk hb5;clear hb5;have o0:w5.cell? ⟨gb,0,none⟩ = some (.string a0_0):=qz ((HB5.out.block _ (blk_lt HKG.out)).trans HKG.out) 0;have o1:w5.cell? ⟨gb,1,none⟩ = some (.slice Ao (l0_1.length + 1) co):=qz ((HB5.out.block _ (blk_lt HKG.out)).trans HKG.out) 1;have o2:w5.cell? ⟨gb,2,none⟩ = some (.slice A0_2 l0_2.length c0_2):=qz ((HB5.out.block _ (blk_lt HKG.out)).trans HKG.out) 2)))
    refine start_ (n:=8) (S:=fun w'=>w'.cell? ⟨w.heap.size,2,none⟩ = some (.slice A0_2 l0_2.length c0_2)∧w'.cell? ⟨w.heap.size + 1,0,none⟩ = some (.string a1_0)∧w'.cell? ⟨w.heap.size + 1,1,none⟩ = some (.int .i64 a1_1)∧w'.cell? ⟨w.heap.size + 1,2,none⟩ = some (.string a1_2)∧w'.cell? ⟨w.heap.size + 1,3,none⟩ = some (.int .i64 a1_3)∧w'.cell? ⟨w.heap.size + 1,4,none⟩ = some (.int .i64 a1_4)∧w'.cell? ⟨w.heap.size + 1,5,none⟩ = some (.string a1_5)∧w'.cell? ⟨w.heap.size + 1,6,none⟩ = some (.string a1_6)) (ds:=[]) #[U,U,U,U,U,U,U,U] (by kernel_rfl) rfl rfl (HKT.out _ HB6.out.drew) (fun hHeld=>?_);have HBd:=O.mk (HB6.out.drew);generalize w6.drew=wd at HBd hHeld ⊢;refine pure_ (i:=0) (N:=some 26) (v:=?_) (a':=?_) #[Z,U,U,U,U,U,U,U] rfl rfl (by kernel_rfl) (fun _ _ _ h=>h) (Or.inl ⟨by rfl,?_⟩) ?_ ?_;rotate_left
    ·intro w'
     go_simp
     with_reducible rfl
    rotate_left
    ·simp only[Act.put,jq5,jq6,jq7,i64_w,i32_w]
     rfl
    refine take_ (i:=1) (N:=some 27) (v:=?_) (a':=?_) #[Z,Z,U,U,U,U,U,U] rfl rfl (by kernel_rfl) (fun _ _ _ h=>h) (Or.inl ⟨by rfl,?_⟩) hHeld ?_ ?_;rotate_left
    ·rintro w' ⟨s0,s1,s2,s3,s4,s5,s6,s7⟩
     go_simp
     with_reducible rfl
    rotate_left
    ·simp only[Act.put,jq5,jq6,jq7,i64_w,i32_w]
     rfl
    refine take_ (i:=2) (N:=some 28) (v:=?_) (a':=?_) #[Z,Z,Z,U,U,U,U,U] rfl rfl (by kernel_rfl) (fun _ _ _ h=>h) (Or.inl ⟨by rfl,?_⟩) hHeld ?_ ?_;rotate_left
    ·rintro w' ⟨s0,s1,s2,s3,s4,s5,s6,s7⟩
     go_simp
     with_reducible rfl
    rotate_left
    ·simp only[Act.put,jq5,jq6,jq7,i64_w,i32_w]
     rfl
    refine one_ (i:=3) (N:=some 29) #[Z,Z,Z,Z,U,U,U,U] rfl rfl (by kernel_rfl) (by decide) (fun K hKK=>?_);refine goes_ Tryz.func9 (by kernel_rfl) rfl #[.agg #[.string a1_0,.int .i64 a1_1,.string a1_2,.int .i64 a1_3,.int .i64 a1_4,.string a1_5,.string a1_6]] (by rfl) rfl rfl (by(try simp only[jq0,jq1,jq2]);first|done|rfl) ?_;refine(wj.calls k a1_0 a1_1 a1_2 a1_3 a1_4 a1_5 a1_6 s _ (TabW_below HTAB.out (HB0.out.trans (HBd.out.mono HB0.out.size))) HS.out).mono ?_
    rintro e w7 ⟨rfl,hb7⟩
    refine⟨_,rfl,?_⟩;have HB7:=O.mk (HBd.out.trans (hb7.mono HBd.out.size));clear hb7;refine hKK.out _ _ (HKT.out _ HB7.out) (fun hHeld=>?_);clear hKK K;refine norm_ (a':=?_) ?_ ?_;rotate_left
    ·show Act.put _ (some 29) _=_
     simp only[Act.put,jq5,jq6,jq7,i64_w,i32_w]
     rfl
    refine one_ (i:=4) (N:=some 30) #[Z,Z,Z,Z,Z,U,U,U] rfl rfl (by kernel_rfl) (by decide) (fun K hKK=>?_);refine bytesGoes_ (s:=s) (by rfl) rfl rfl rfl ?_
    with_reducible refine(bytesOfS.calls s (bytesOf s) _ HSB.out).mono ?_
    rintro e w8 ⟨v8,rfl,ho,hb8⟩
    refine⟨_,rfl,?_⟩;have HO:=O.mk ho;have HB8:=O.mk (HB7.out.trans (hb8.mono HB7.out.size));clear hb8 ho;obtain⟨As,cs,es⟩:=Kd.V_slice HO.out;subst es;refine hKK.out _ _ (HKT.out _ HB8.out) (fun hHeld=>?_);clear hKK K;refine norm_ (a':=?_) ?_ ?_;rotate_left
    ·show Act.put _ (some 30) _=_
     simp only[Act.put,jq5,jq6,jq7,i64_w,i32_w]
     rfl
    refine one_ (i:=5) (N:=some 31) #[Z,Z,Z,Z,Z,Z,U,U] rfl rfl (by kernel_rfl) (by decide) (fun K hKK=>?_);refine goes_ Tryz.func40 (by kernel_rfl) rfl #[.slice A0_2 l0_2.length c0_2,.slice As (bytesOf s).length cs] (by rfl) rfl rfl (by(try simp only[jq0,jq1,jq2]);first|done|rfl) ?_;refine(wz.calls k A0_2 c0_2 l0_2 As cs (bytesOf s) m w8 (Kd.C_below HR2.out (HB0.out.trans (HB8.out.mono HB0.out.size))) HC2.out (Kd.V_reads' HO.out).2.2 (Kd.V_reads' HO.out).2.1 HM.out).mono ?_
    rintro e w9 ⟨v9,rfl,hom,hb9⟩
    refine⟨_,rfl,?_⟩;have HOM:=O.mk (Kd.R_lower hom (Nat.le_trans HB0.out.size HB8.out.size));have HB9:=O.mk (HB8.out.trans (hb9.mono HB8.out.size));clear hb9 hom;obtain⟨Am,cm,em⟩:=Kd.R_slice HOM.out;subst em;refine hKK.out _ _ (HKT.out _ HB9.out) (fun hHeld=>?_);clear hKK K;refine norm_ (a':=?_) ?_ ?_;rotate_left
    ·show Act.put _ (some 31) _=_
     simp only[Act.put,jq5,jq6,jq7,i64_w,i32_w]
     rfl
    refine pure_ (i:=6) (N:=some 32) (v:=?_) (a':=?_) #[Z,Z,Z,Z,Z,Z,Z,U] rfl rfl (by kernel_rfl) (fun _ _ _ h=>h) (Or.inl ⟨by rfl,?_⟩) ?_ ?_;rotate_left
    ·intro w'
     go_simp
     with_reducible rfl
    rotate_left
    ·simp only[Act.put,jq5,jq6,jq7,i64_w,i32_w]
     rfl
    refine one_ (i:=7) (N:=none) #[Z,Z,Z,Z,Z,Z,Z,Z] rfl rfl (by kernel_rfl) (by decide) (fun K hKK=>?_);have HKG9:=O.mk ((HB9.out.block _ (blk_lt HKG.out)).trans HKG.out);have hs2:w9.cell? ⟨gb,2,none⟩ = some (.slice A0_2 l0_2.length c0_2):=qz HKG9.out 2;have hf2:=qq HKG9.out 2;refine skip_ (w1:=?_) (by rfl) rfl ?_ ?_;rotate_left
    ·go_simp
     rfl
    have HKGs:=O.mk (blk_set HKG9.out 2 (.slice Am m.length cm));have hge:w.heap.size + 1 + 1 < gb:=by have:=HGW.out;have:=blk_lt HK3.out;omega
    have HBs:=O.mk (qj (g:=gb) (j:=2) (v:=.slice Am m.length cm) (HB0.out.trans (HB9.out.mono HB0.out.size)) (by omega));have n1:w.heap.size≠gb:=by omega
    have n2:w.heap.size + 1≠gb:=by omega
    have n3:w.heap.size + 1 + 1≠gb:=by omega
    obtain⟨z0,z1,z2,z3,z4,z5,z6,z7⟩:=HKT.out _ HB9.out;refine hKK.out _ _ ⟨(cell_far (p:=⟨gb,_,none⟩) n1 _).trans z0,(cell_far (p:=⟨gb,_,none⟩) n2 _).trans z1,(cell_far (p:=⟨gb,_,none⟩) n2 _).trans z2,(cell_far (p:=⟨gb,_,none⟩) n2 _).trans z3,(cell_far (p:=⟨gb,_,none⟩) n2 _).trans z4,(cell_far (p:=⟨gb,_,none⟩) n2 _).trans z5,(cell_far (p:=⟨gb,_,none⟩) n2 _).trans z6,(cell_far (p:=⟨gb,_,none⟩) n2 _).trans z7⟩ (fun hHeld=>?_);clear hKK K z0 z1 z2 z3 z4 z5 z6 z7 hs2 hf2 hHeld;refine done_ (by kernel_rfl) ?_;have HR1x:=O.mk (one_R (by decide) HKG9.out (Kd.R_lower (Kd.R_below HRO.out HB9.out) HB3.out.size) 2 (.slice Am m.length cm));have HR2x:=O.mk (one_R (by decide) HKG9.out HOM.out 2 (.slice Am m.length cm));have HKR:=O.mk (blk_far (HKR0.out _ HB9.out) n3 (p:=⟨gb,2,none⟩) (.slice Am m.length cm));generalize w9.setCell ⟨gb,2,none⟩ (.slice Am m.length cm)=wf at HKGs HBs HR1x HR2x HKR ⊢;have o0:wf.cell? ⟨gb,0,none⟩ = some (.string a0_0):=qz HKGs.out 0;have o1:wf.cell? ⟨gb,1,none⟩ = some (.slice Ao (l0_1.length + 1) co):=qz HKGs.out 1;have o2:wf.cell? ⟨gb,2,none⟩ = some (.slice Am m.length cm):=qz HKGs.out 2;have r0:wf.cell? ⟨w.heap.size + 1 + 1,0,none⟩ = some (.string (⟨#[]⟩ : ByteArray)):=qz HKR.out 0;have rf0:=qq HKR.out 0;have r1:wf.cell? ⟨w.heap.size + 1 + 1,1,none⟩ = some (.slice none 0 0):=qz HKR.out 1;have rf1:=qq HKR.out 1;have r2:wf.cell? ⟨w.heap.size + 1 + 1,2,none⟩ = some (.slice none 0 0):=qz HKR.out 2;have rf2:=qq HKR.out 2;go_wp2;refine bodyPost_ret (results_cell_row rfl _ _ (w.heap.size + 1 + 1) 41 #[.string a0_0,.slice Ao (l0_1.length + 1) co,.slice Am m.length cm] (0,0) _ rfl (out_blk HKR.out _ _ _) Tryz.underlying41 rfl (by kernel_rfl)) rfl ?_;exact⟨_,_,rfl,out_R (by decide) HKR.out HR1x.out _ _ _,out_R (by decide) HKR.out HR2x.out _ _ _,set_B HBs.out (by omega) _ _ _⟩
end Go.Proofs.YtnbbbjfjkhglhaaGreatDoor.Pr
namespace Go.Proofs.YtnbbbjfjkhglhaaGreatDoor.Pr
open Go.RowKit Go.Proofs.YtnbbbjfjkhglhaaGreatDoorW.PrintWords Go.Proofs.YtnbbbjfjkhglhaaGreatDoorW.PrintLast Go.Proofs.YtnbbbjfjkhglhaaGreatDoorW.PrintMore
attribute [local go_sem] max2_int min2_int max_two min_two max_three min_three max_four min_four
set_option linter.unusedVariables false
set_option linter.unusedSimpArgs false
def qvj.f (a0:Int):Option (Bool):=if a0 ≥ 48 then(some (decide (a0≤57))) else(some false)
theorem qvj.calls (a0:Int) (r:Bool) (w:World) (h:qvj.f a0=some r) :
  Calls Tryz.prog 70 #[.int .u8 a0] w fun e w'=>e=.returned (.bool r)∧Drawn0 w w':=by
 have H:(if a0 ≥ 48 then(some (decide (a0≤57))) else(some false))=some r:=h;clear h
 by_cases c2:a0 ≥ 48
 ·rw[if_pos c2] at H;have c2b0:decide (48≤a0)=true:=decide_eq_true c2;clear c2;obtain rfl:=Option.some.inj H;go_enter Tryz.func70,Tryz.ntmps70;go_wp2;go_ret
  exact⟨by first|rfl|(simp;done)|(simp[*];done),by repeat(first|exact Drawn0.refl _|apply Drawn0.step)⟩
 ·rw[if_neg c2] at H;have c2b0:decide (48≤a0)=false:=decide_eq_false c2;clear c2;obtain rfl:=Option.some.inj H;go_enter Tryz.func70,Tryz.ntmps70;go_wp2;go_ret
  exact⟨by first|rfl|(simp;done)|(simp[*];done),by repeat(first|exact Drawn0.refl _|apply Drawn0.step)⟩
end Go.Proofs.YtnbbbjfjkhglhaaGreatDoor.Pr
namespace Go.Proofs.YtnbbbjfjkhglhaaGreatDoor.Pr
open Go.RowKit Go.Proofs.YtnbbbjfjkhglhaaGreatDoorW.PrintWords Go.Proofs.YtnbbbjfjkhglhaaGreatDoorW.PrintLast Go.Proofs.YtnbbbjfjkhglhaaGreatDoorW.PrintMore
attribute [local go_sem] max2_int min2_int max_two min_two max_three min_three max_four min_four
set_option linter.unusedVariables false
set_option linter.unusedSimpArgs false
def qvk.f (a0:Int):Option (Bool):=if a0 ≥ 97 then(if a0≤122 then(some true) else(if a0 ≥ 65 then(some (decide (a0≤90))) else(some false))) else(if a0 ≥ 65 then(some (decide (a0≤90))) else(some false))
theorem qvk.calls (a0:Int) (r:Bool) (w:World) (h:qvk.f a0=some r) :
  Calls Tryz.prog 71 #[.int .u8 a0] w fun e w'=>e=.returned (.bool r)∧Drawn0 w w':=by
 unfold qvk.f at h;have H:=h;clear h
 by_cases c2:a0 ≥ 97
 ·rw[if_pos c2] at H;have c2b0:decide (97≤a0)=true:=decide_eq_true c2;clear c2
  by_cases c3:a0≤122
  ·rw[if_pos c3] at H;have c3b0:decide (a0≤122)=true:=decide_eq_true c3;clear c3;obtain rfl:=Option.some.inj H;go_enter Tryz.func71,Tryz.ntmps71;go_wp2;go_ret
   exact⟨by first|rfl|(simp;done)|(simp[*];done),by repeat(first|exact Drawn0.refl _|apply Drawn0.step)⟩
  ·rw[if_neg c3] at H;have c3b0:decide (a0≤122)=false:=decide_eq_false c3;clear c3
   by_cases c4:a0 ≥ 65
   ·rw[if_pos c4] at H;have c4b0:decide (65≤a0)=true:=decide_eq_true c4;clear c4;obtain rfl:=Option.some.inj H;go_enter Tryz.func71,Tryz.ntmps71;go_wp2;go_ret
    exact⟨by first|rfl|(simp;done)|(simp[*];done),by repeat(first|exact Drawn0.refl _|apply Drawn0.step)⟩
   ·rw[if_neg c4] at H;have c4b0:decide (65≤a0)=false:=decide_eq_false c4;clear c4;obtain rfl:=Option.some.inj H;go_enter Tryz.func71,Tryz.ntmps71;go_wp2;go_ret
    exact⟨by first|rfl|(simp;done)|(simp[*];done),by repeat(first|exact Drawn0.refl _|apply Drawn0.step)⟩
 ·rw[if_neg c2] at H;have c2b0:decide (97≤a0)=false:=decide_eq_false c2;clear c2
  by_cases c5:a0 ≥ 65
  ·rw[if_pos c5] at H;have c5b0:decide (65≤a0)=true:=decide_eq_true c5;clear c5;obtain rfl:=Option.some.inj H;go_enter Tryz.func71,Tryz.ntmps71;go_wp2;go_ret
   exact⟨by first|rfl|(simp;done)|(simp[*];done),by repeat(first|exact Drawn0.refl _|apply Drawn0.step)⟩
  ·rw[if_neg c5] at H;have c5b0:decide (65≤a0)=false:=decide_eq_false c5;clear c5;obtain rfl:=Option.some.inj H;go_enter Tryz.func71,Tryz.ntmps71;go_wp2;go_ret
   exact⟨by first|rfl|(simp;done)|(simp[*];done),by repeat(first|exact Drawn0.refl _|apply Drawn0.step)⟩
end Go.Proofs.YtnbbbjfjkhglhaaGreatDoor.Pr
namespace Go.Proofs.YtnbbbjfjkhglhaaGreatDoor.Pr
open Go.RowKit Go.Proofs.YtnbbbjfjkhglhaaGreatDoorW.PrintWords Go.Proofs.YtnbbbjfjkhglhaaGreatDoorW.PrintLast Go.Proofs.YtnbbbjfjkhglhaaGreatDoorW.PrintMore
attribute [local go_sem] max2_int min2_int max_two min_two max_three min_three max_four min_four
set_option linter.unusedVariables false
set_option linter.unusedSimpArgs false
mutual
def qkv.j0:Nat→ByteArray→Bool→Option (Bool)
 | 0,_,_=>none
 | k + 1,x0,x16=>if x16=true then(some false) else(qkv.l0 k x0 0)
def qkv.l0:Nat→ByteArray→Int→Option (Bool)
 | 0,_,_=>none
 | k + 1,x0,x3=>if x3 < (x0.size:Int) then(if 0≤x3 then((qvk.f (bt x0 x3)).bind fun t102=>(if t102=true then(qkv.l0 k x0 (wrap64 (x3 + 1))) else((qvj.f (bt x0 x3)).bind fun t103=>(if t103=true then(qkv.l0 k x0 (wrap64 (x3 + 1))) else(if (bt x0 x3)=95 then(qkv.l0 k x0 (wrap64 (x3 + 1))) else(some false)))))) else(none)) else(some true)
end
def qkv.f (k:Nat) (a0:ByteArray):Option (Bool):=if (a0.size:Int) < 1 then(qkv.j0 k a0 true) else(if (a0.size:Int) > 30 then(qkv.j0 k a0 true) else(if 0 < (a0.size:Int) then((qvj.f (bt a0 0)).bind fun t101=>(qkv.j0 k a0 t101)) else(none)))
theorem qkv.calls (k:Nat) (a0:ByteArray) (r:Bool) (w:World) (h:qkv.f k a0=some r) :
  Calls Tryz.prog 45 #[.string a0] w fun e w'=>e=.returned (.bool r)∧Drawn0 w w':=by
 unfold qkv.f at h;have H:=h;clear h;have HC2:=O.mk H;clear H;go_enter Tryz.func45,Tryz.ntmps45;go_upto_region 1 with (fail)
 go_cut [16] (fun v16 wc=>∃ (kq:Nat) (x16_1:Bool),v16=.bool x16_1∧O (qkv.j0 kq a0 x16_1=some r)∧O (kq≤k)∧Drawn0 w wc)
 case first =>
  have H:=HC2.out;clear HC2
  by_cases c3:(a0.size:Int) < 1
  ·rw[if_pos c3] at H;have c3b0:decide ((a0.size:Int) < 1)=true:=decide_eq_true c3;have c3b1:decide (a0.size < 1)=true:=decide_eq_true (by omega);clear c3
   (first|rw[c3b0]|(simp only[i64_w,i32_w];rw[c3b0])|skip)
   have H':=O.mk H;clear H;go_wp2;go_meet
   case rel=>exact⟨_,(true),(by first|rfl|(simp;done)|(simp[*];done)),H',⟨by first|omega|exact Nat.le_refl _⟩,by repeat(first|exact Drawn0.refl _|apply Drawn0.step)⟩
  ·rw[if_neg c3] at H;have c3b0:decide ((a0.size:Int) < 1)=false:=decide_eq_false c3;have c3b1:decide (a0.size < 1)=false:=decide_eq_false (by omega);clear c3
   (first|rw[c3b0]|(simp only[i64_w,i32_w];rw[c3b0])|skip)
   by_cases c4:(a0.size:Int) > 30
   ·rw[if_pos c4] at H;have c4b0:decide (30 < (a0.size:Int))=true:=decide_eq_true c4;have c4b1:decide (30 < a0.size)=true:=decide_eq_true (by omega);clear c4;have H':=O.mk H;clear H;go_wp2;go_meet
    case rel=>exact⟨_,(true),(by first|rfl|(simp;done)|(simp[*];done)),H',⟨by first|omega|exact Nat.le_refl _⟩,by repeat(first|exact Drawn0.refl _|apply Drawn0.step)⟩
   ·rw[if_neg c4] at H;have c4b0:decide (30 < (a0.size:Int))=false:=decide_eq_false c4;have c4b1:decide (30 < a0.size)=false:=decide_eq_false (by omega);clear c4
    by_cases c5 : 0 < (a0.size:Int)
    ·rw[if_pos c5] at H;have c5b0:decide (0 < (a0.size:Int))=true:=decide_eq_true c5;have c5b1:decide (0 < a0.size)=true:=decide_eq_true (by omega);clear c5;replace H:=jq8.mp H;obtain⟨t101,A70,H⟩:=H;replace H:(qkv.j0 k a0 t101)=some r:=H;have A7:=O.mk A70;clear A70;have H':=O.mk H;clear H;have p6 : 0≤(0:Int):=(by omega);have q6 : 0 < a0.size:=(by have:(0:Int) < (a0.size:Int):=of_decide_eq_true (by assumption);omega);have hx6:∀ h : 0 < a0.size,((a0[0]'h).toNat:Int)=bt a0 0:=bt_at a0 0;clear p6;have qi6:(0 < (a0.size:Int))=True:=eq_true (of_decide_eq_true (by assumption));replace q6:=eq_true q6;go_wp2_with (first|(go_at_call 70;(with_reducible refine(qvj.calls (bt a0 0) t101 _ A7.out).mono ?_);rintro e w' ⟨rfl,⟨nd,rfl⟩⟩))
     go_meet
     case rel=>exact⟨_,(t101),(by first|rfl|(simp;done)|(simp[*];done)),H',⟨by first|omega|exact Nat.le_refl _⟩,by repeat(first|exact Drawn0.refl _|apply Drawn0.step)⟩
    ·rw[if_neg c5] at H;exact absurd H (by simp)
 case rest =>
  clear HC2;try clear p2
  try clear c3
  try clear c3b0
  try clear c3b1
  try clear c4
  try clear c4b0
  try clear c4b1
  try clear c5
  try clear c5b0
  try clear c5b1
  try clear p6 p6
  try clear q6 q6
  try clear hx6
  try clear qi6
  obtain⟨kq,x16_1,rfl,HA,HJ1,⟨mc1,rfl⟩⟩:=hcut
  cases kq with
  | zero=>exact absurd HA.out (by simp[qkv.j0])
  | succ kj1 =>
   have H:=HA.out;clear HA;simp only[qkv.j0] at H
   by_cases c8:x16_1=true
   ·subst c8;have H1:(some false)=some r:=by rw[if_pos rfl] at H;exact H
    clear H;have H:=H1;clear H1;obtain rfl:=Option.some.inj H;go_wp2;go_ret
    exact⟨by first|rfl|(simp;done)|(simp[*];done),by repeat(first|exact Drawn0.refl _|apply Drawn0.step)⟩
   ·replace c8:=jq9.mpr c8;subst c8;have H1:(qkv.l0 kj1 a0 0)=some r:=by rw[if_neg (show ¬ (false=true) by decide)] at H;exact H
    clear H;have H:=H1;clear H1;have H':=O.mk H;clear H;go_wp2
    go_loopg [3] kj1 (fun kq v3 w'=>∃ (x3_2:Int),v3=.int .i64 x3_2∧O (qkv.l0 kq a0 x3_2=some r)∧O (kq≤kj1)∧Drawn0 w w')
    case atStart=>exact⟨(0),(by first|rfl|(simp;done)|(simp[*];done)),H',⟨Nat.le_refl _⟩,by repeat(first|exact Drawn0.refl _|apply Drawn0.step)⟩
    case round =>
     clear H';try clear c1
     try clear p2 p2
     try clear c3
     try clear c3b0
     try clear c3b1
     try clear c4
     try clear c4b0
     try clear c4b1
     try clear c5
     try clear c5b0
     try clear c5b1
     try clear p6 p6
     try clear q6 q6
     try clear hx6
     try clear qi6
     try clear c8
     obtain⟨x3_2,rfl,HA,HK2,⟨m2,rfl⟩⟩:=hrel
     cases gk with
     | zero=>exact absurd HA.out (by simp[qkv.l0])
     | succ k2 =>
      have H:=HA.out;clear HA;simp only[qkv.l0] at H
      by_cases c9:x3_2 < (a0.size:Int)
      ·rw[if_pos c9] at H;have c9b0:decide (x3_2 < (a0.size:Int))=true:=decide_eq_true c9;clear c9
       by_cases c10 : 0≤x3_2
       ·rw[if_pos c10] at H;have c10b0:decide (0≤x3_2)=true:=decide_eq_true c10;clear c10;replace H:=jq8.mp H;obtain⟨t102,A120,H⟩:=H;try dsimp only at H
        have A12:=O.mk A120;clear A120
        by_cases c13:t102=true
        ·subst c13;have H1:(qkv.l0 k2 a0 (wrap64 (x3_2 + 1)))=some r:=by rw[if_pos rfl] at H;exact H
         clear H;have H:=H1;clear H1;have H':=O.mk H;clear H;have p11 : 0≤(x3_2:Int):=of_decide_eq_true (by assumption);have q11:x3_2 < (a0.size:Int):=of_decide_eq_true (by assumption);have hx11:=bt_at a0 x3_2;replace p11:=eq_true p11;replace q11:=eq_true q11;go_wp2_with (first|((with_reducible refine jq (f:=71) rfl ?_);refine goesL_ (some 26) rfl rfl Tryz.func71 (by kernel_rfl) rfl #[.int .u8 (bt a0 x3_2)] rfl (by(try simp only[jq0,jq1,jq2]);first|done|rfl|(simp only[jq3,jq4];rfl)) ?_;(with_reducible refine(qvk.calls (bt a0 x3_2) true _ A12.out).mono ?_);rintro e w' ⟨rfl,⟨nd,rfl⟩⟩;refine⟨_,rfl,?_⟩))
         go_roundg k2
         case measure=>have:=HJ1.out;have:=HK2.out;omega
         case rel=>exact⟨(wrap64 (x3_2 + 1)),(by first|rfl|(simp;done)|(simp[*];done)),H',⟨by have:=HJ1.out;have:=HK2.out;omega⟩,by repeat(first|exact Drawn0.refl _|apply Drawn0.step)⟩
        ·replace c13:=jq9.mpr c13;subst c13;have H1:((qvj.f (bt a0 x3_2)).bind fun t103=>(if t103=true then(qkv.l0 k2 a0 (wrap64 (x3_2 + 1))) else(if (bt a0 x3_2)=95 then(qkv.l0 k2 a0 (wrap64 (x3_2 + 1))) else(some false))))=some r:=by rw[if_neg (show ¬ (false=true) by decide)] at H;exact H
         clear H;have H:=H1;clear H1;replace H:=jq8.mp H;obtain⟨t103,A150,H⟩:=H;try dsimp only at H
         have A15:=O.mk A150;clear A150
         by_cases c16:t103=true
         ·subst c16;have H1:(qkv.l0 k2 a0 (wrap64 (x3_2 + 1)))=some r:=by rw[if_pos rfl] at H;exact H
          clear H;have H:=H1;clear H1;have H':=O.mk H;clear H;have p11 : 0≤(x3_2:Int):=of_decide_eq_true (by assumption);have q11:x3_2 < (a0.size:Int):=of_decide_eq_true (by assumption);have hx11:=bt_at a0 x3_2;replace p11:=eq_true p11;replace q11:=eq_true q11;go_wp2_with (first|((with_reducible refine jq (f:=71) rfl ?_);refine goesL_ (some 26) rfl rfl Tryz.func71 (by kernel_rfl) rfl #[.int .u8 (bt a0 x3_2)] rfl (by(try simp only[jq0,jq1,jq2]);first|done|rfl|(simp only[jq3,jq4];rfl)) ?_;(with_reducible refine(qvk.calls (bt a0 x3_2) false _ A12.out).mono ?_);rintro e w' ⟨rfl,⟨nd,rfl⟩⟩;refine⟨_,rfl,?_⟩;have p14 : 0≤(x3_2:Int):=of_decide_eq_true (by assumption);have q14:x3_2 < (a0.size:Int):=of_decide_eq_true (by assumption);have hx14:=bt_at a0 x3_2;replace p14:=eq_true p14;replace q14:=eq_true q14)|(go_at_call 70;(with_reducible refine(qvj.calls (bt a0 x3_2) true _ A15.out).mono ?_);rintro e w' ⟨rfl,⟨nd,rfl⟩⟩))
          go_roundg k2
          case measure=>have:=HJ1.out;have:=HK2.out;omega
          case rel=>exact⟨(wrap64 (x3_2 + 1)),(by first|rfl|(simp;done)|(simp[*];done)),H',⟨by have:=HJ1.out;have:=HK2.out;omega⟩,by repeat(first|exact Drawn0.refl _|apply Drawn0.step)⟩
         ·replace c16:=jq9.mpr c16;subst c16;have H1:(if (bt a0 x3_2)=95 then(qkv.l0 k2 a0 (wrap64 (x3_2 + 1))) else(some false))=some r:=by rw[if_neg (show ¬ (false=true) by decide)] at H;exact H
          clear H;have H:=H1;clear H1
          by_cases c18:(bt a0 x3_2)=95
          ·rw[if_pos c18] at H;have c18b0:((bt a0 x3_2) == 95)=true:=beq_iff_eq.mpr c18;have c18b1:((bt a0 x3_2) != 95)=false:=bne_eq_false_iff_eq.mpr c18;clear c18;have H':=O.mk H;clear H;have p11 : 0≤(x3_2:Int):=of_decide_eq_true (by assumption);have q11:x3_2 < (a0.size:Int):=of_decide_eq_true (by assumption);have hx11:=bt_at a0 x3_2;replace p11:=eq_true p11;replace q11:=eq_true q11;go_wp2_with (first|((with_reducible refine jq (f:=71) rfl ?_);refine goesL_ (some 26) rfl rfl Tryz.func71 (by kernel_rfl) rfl #[.int .u8 (bt a0 x3_2)] rfl (by(try simp only[jq0,jq1,jq2]);first|done|rfl|(simp only[jq3,jq4];rfl)) ?_;(with_reducible refine(qvk.calls (bt a0 x3_2) false _ A12.out).mono ?_);rintro e w' ⟨rfl,⟨nd,rfl⟩⟩;refine⟨_,rfl,?_⟩;have p14 : 0≤(x3_2:Int):=of_decide_eq_true (by assumption);have q14:x3_2 < (a0.size:Int):=of_decide_eq_true (by assumption);have hx14:=bt_at a0 x3_2;replace p14:=eq_true p14;replace q14:=eq_true q14)|(go_at_call 70;(with_reducible refine(qvj.calls (bt a0 x3_2) false _ A15.out).mono ?_);rintro e w' ⟨rfl,⟨nd,rfl⟩⟩;have p17 : 0≤(x3_2:Int):=of_decide_eq_true (by assumption);have q17:x3_2 < (a0.size:Int):=of_decide_eq_true (by assumption);have hx17:=bt_at a0 x3_2;replace p17:=eq_true p17;replace q17:=eq_true q17))
           go_roundg k2
           case measure=>have:=HJ1.out;have:=HK2.out;omega
           case rel=>exact⟨(wrap64 (x3_2 + 1)),(by first|rfl|(simp;done)|(simp[*];done)),H',⟨by have:=HJ1.out;have:=HK2.out;omega⟩,by repeat(first|exact Drawn0.refl _|apply Drawn0.step)⟩
          ·rw[if_neg c18] at H;have c18b0:((bt a0 x3_2) == 95)=false:=beq_eq_false_iff_ne.mpr c18;have c18b1:((bt a0 x3_2) != 95)=true:=bne_iff_ne.mpr c18;obtain rfl:=Option.some.inj H;have p11 : 0≤(x3_2:Int):=of_decide_eq_true (by assumption);have q11:x3_2 < (a0.size:Int):=of_decide_eq_true (by assumption);have hx11:=bt_at a0 x3_2;replace p11:=eq_true p11;replace q11:=eq_true q11;go_wp2_with (first|((with_reducible refine jq (f:=71) rfl ?_);refine goesL_ (some 26) rfl rfl Tryz.func71 (by kernel_rfl) rfl #[.int .u8 (bt a0 x3_2)] rfl (by(try simp only[jq0,jq1,jq2]);first|done|rfl|(simp only[jq3,jq4];rfl)) ?_;(with_reducible refine(qvk.calls (bt a0 x3_2) false _ A12.out).mono ?_);rintro e w' ⟨rfl,⟨nd,rfl⟩⟩;refine⟨_,rfl,?_⟩;have p14 : 0≤(x3_2:Int):=of_decide_eq_true (by assumption);have q14:x3_2 < (a0.size:Int):=of_decide_eq_true (by assumption);have hx14:=bt_at a0 x3_2;replace p14:=eq_true p14;replace q14:=eq_true q14)|(go_at_call 70;(with_reducible refine(qvj.calls (bt a0 x3_2) false _ A15.out).mono ?_);rintro e w' ⟨rfl,⟨nd,rfl⟩⟩;have p17 : 0≤(x3_2:Int):=of_decide_eq_true (by assumption);have q17:x3_2 < (a0.size:Int):=of_decide_eq_true (by assumption);have hx17:=bt_at a0 x3_2;replace p17:=eq_true p17;replace q17:=eq_true q17))
           go_ret
           exact⟨by first|rfl|(simp;done)|(simp[*];done),by repeat(first|exact Drawn0.refl _|apply Drawn0.step)⟩
       ·rw[if_neg c10] at H;exact absurd H (by simp)
      ·rw[if_neg c9] at H;have c9b0:decide (x3_2 < (a0.size:Int))=false:=decide_eq_false c9;clear c9;obtain rfl:=Option.some.inj H;go_wp2;go_ret
       exact⟨by first|rfl|(simp;done)|(simp[*];done),by repeat(first|exact Drawn0.refl _|apply Drawn0.step)⟩
end Go.Proofs.YtnbbbjfjkhglhaaGreatDoor.Pr
namespace Go.Proofs.YtnbbbjfjkhglhaaGreatDoor.Pr
open Go.RowKit Go.Proofs.YtnbbbjfjkhglhaaGreatDoorW.PrintWords Go.Proofs.YtnbbbjfjkhglhaaGreatDoorW.PrintLast Go.Proofs.YtnbbbjfjkhglhaaGreatDoorW.PrintMore
attribute [local go_sem] max2_int min2_int max_two min_two max_three min_three max_four min_four
set_option linter.unusedVariables false
set_option linter.unusedSimpArgs false
def qvw.l0:Nat→Int→Int→Int→Option (Int)
 | 0,_,_,_=>none
 | k + 1,x0,x3,x4=>if x4 < x0 then(qvw.l0 k x0 (wrap64 (x3 * 2)) (wrap64 (x4 + 1))) else(some x3)
def qvw.f (k:Nat) (a0:Int):Option (Int):=qvw.l0 k a0 1 0
theorem qvw.calls (k:Nat) (a0:Int) (r:Int) (w:World) (h:qvw.f k a0=some r) :
  Calls Tryz.prog 73 #[.int .i64 a0] w fun e w'=>e=.returned (.int .i64 r)∧Drawn0 w w':=by
 have H:(qvw.l0 k a0 1 0)=some r:=h;clear h;have H':=O.mk H;clear H;go_enter Tryz.func73,Tryz.ntmps73;go_wp2
 go_loopg [3,4] k (fun kq v3 v4 w'=>∃ (x3_1:Int) (x4_1:Int),v3=.int .i64 x3_1∧v4=.int .i64 x4_1∧O (qvw.l0 kq a0 x3_1 x4_1=some r)∧O (kq≤k)∧Drawn0 w w')
 case atStart=>exact⟨(1),(0),(by first|rfl|(simp;done)|(simp[*];done)),(by first|rfl|(simp;done)|(simp[*];done)),H',⟨Nat.le_refl _⟩,by repeat(first|exact Drawn0.refl _|apply Drawn0.step)⟩
 case round =>
  clear H';obtain⟨x3_1,x4_1,rfl,rfl,HA,HK1,⟨m1,rfl⟩⟩:=hrel
  cases gk with
  | zero=>exact absurd HA.out (by simp[qvw.l0])
  | succ k1 =>
   have H:=HA.out;clear HA;simp only[qvw.l0] at H
   by_cases c2:x4_1 < a0
   ·rw[if_pos c2] at H;have c2b0:decide (x4_1 < a0)=true:=decide_eq_true c2;clear c2;have H':=O.mk H;clear H;go_wp2;go_roundg k1
    case measure=>have:=HK1.out;omega
    case rel=>exact⟨(wrap64 (x3_1 * 2)),(wrap64 (x4_1 + 1)),(by first|rfl|(simp;done)|(simp[*];done)),(by first|rfl|(simp;done)|(simp[*];done)),H',⟨by have:=HK1.out;omega⟩,by repeat(first|exact Drawn0.refl _|apply Drawn0.step)⟩
   ·rw[if_neg c2] at H;have c2b0:decide (x4_1 < a0)=false:=decide_eq_false c2;clear c2;obtain rfl:=Option.some.inj H;go_wp2;go_ret
    exact⟨by first|rfl|(simp;done)|(simp[*];done),by repeat(first|exact Drawn0.refl _|apply Drawn0.step)⟩
end Go.Proofs.YtnbbbjfjkhglhaaGreatDoor.Pr
namespace Go.Proofs.YtnbbbjfjkhglhaaGreatDoor.Pr
open Go.RowKit Go.Proofs.YtnbbbjfjkhglhaaGreatDoorW.PrintWords Go.Proofs.YtnbbbjfjkhglhaaGreatDoorW.PrintLast Go.Proofs.YtnbbbjfjkhglhaaGreatDoorW.PrintMore
attribute [local go_sem] max2_int min2_int max_two min_two max_three min_three max_four min_four
set_option linter.unusedVariables false
set_option linter.unusedSimpArgs false
def qvz.f (k:Nat) (a0_0:Int) (a0_1:Int) (a0_2:ByteArray) (a0_3:ByteArray):Option (Int × Int):=(qvw.f k (wrap64 (32 - (Int.tmod a0_1 64)))).bind fun t102=>(some (wrap64 (Int.tdiv a0_1 64),t102))
theorem qvz.calls (k:Nat) (a0_0:Int) (a0_1:Int) (a0_2:ByteArray) (a0_3:ByteArray) (r1:Int) (r2:Int) (w:World) (h:qvz.f k a0_0 a0_1 a0_2 a0_3=some (r1,r2)) :
  Calls Tryz.prog 50 #[.agg #[.int .i64 a0_0,.int .i64 a0_1,.string a0_2,.string a0_3]] w fun e w'=>e=.returned (.tuple #[.int .i64 r1,.int .i64 r2])∧Below w.heap.size w w':=by
 have hu28:=Tryz.underlying28;have HB:=O.mk (Below.refl w.heap.size w);unfold qvz.f at h;have H:=h;clear h;replace H:=jq8.mp H;obtain⟨t102,A20,H⟩:=H;try dsimp only at H
 have A2:=O.mk A20;clear A20;simp only[Option.some.injEq,Prod.mk.injEq] at H;obtain⟨rfl,rfl⟩:=H;go_enter Tryz.func50,Tryz.ntmps50;go_wp2_with (first|((with_reducible refine gate_dst (N:=1) rfl ?_);refine box_event ?hg (N:=1) ?hd (cs:=#[.int .i64 a0_0,.int .i64 a0_1,.string a0_2,.string a0_3]) (t:=28) ?hr ?_;(case hd=>rfl);(case hg=>rfl);(case hr=>first|(go_simp;done)|(go_simp;rfl));intro gb101 hg w3 hbox hb;have BK101:=O.mk (hbox);have GW101:=O.mk ((by rw[hg];exact(zz (by solve_by_elim only[HB.out,J,L,I])):w.heap.size≤gb101));have GE101:=GW101;replace HB:=O.mk (zq (by solve_by_elim only[HB.out,J,L,I]) hb);clear hb hbox hg;obtain⟨y4_0,y4_1,y4_2,y4_3,z4_0,z4_1,z4_2,z4_3⟩:=bx4f BK101.out)|(go_at_call 73;(with_reducible refine(qvw.calls k (wrap64 (32 - (Int.tmod a0_1 64))) t102 _ A2.out).mono ?_);rintro e w' ⟨rfl,⟨nd,rfl⟩⟩;(try first|exact⟨rfl,_,World.drewN_drewN _ _ _⟩|exact⟨rfl,_,Eq.trans (World.drewN_drewN _ _ _) (congrArg (World.drewN _) (Nat.add_assoc _ _ _))⟩)))
 repeat(go_quiet (first|((with_reducible refine gate_dst (N:=1) rfl ?_);refine box_event ?hg (N:=1) ?hd (cs:=#[.int .i64 a0_0,.int .i64 a0_1,.string a0_2,.string a0_3]) (t:=28) ?hr ?_;(case hd=>rfl);(case hg=>rfl);(case hr=>first|(go_simp;done)|(go_simp;rfl));intro gb101 hg w3 hbox hb;have BK101:=O.mk (hbox);have GW101:=O.mk ((by rw[hg];exact(zz (by solve_by_elim only[HB.out,J,L,I])):w.heap.size≤gb101));have GE101:=GW101;replace HB:=O.mk (zq (by solve_by_elim only[HB.out,J,L,I]) hb);clear hb hbox hg;obtain⟨y4_0,y4_1,y4_2,y4_3,z4_0,z4_1,z4_2,z4_3⟩:=bx4f BK101.out)|(go_at_call 73;(with_reducible refine(qvw.calls k (wrap64 (32 - (Int.tmod a0_1 64))) t102 _ A2.out).mono ?_);rintro e w' ⟨rfl,⟨nd,rfl⟩⟩;(try first|exact⟨rfl,_,World.drewN_drewN _ _ _⟩|exact⟨rfl,_,Eq.trans (World.drewN_drewN _ _ _) (congrArg (World.drewN _) (Nat.add_assoc _ _ _))⟩)));try go_wp2_with (first|((with_reducible refine gate_dst (N:=1) rfl ?_);refine box_event ?hg (N:=1) ?hd (cs:=#[.int .i64 a0_0,.int .i64 a0_1,.string a0_2,.string a0_3]) (t:=28) ?hr ?_;(case hd=>rfl);(case hg=>rfl);(case hr=>first|(go_simp;done)|(go_simp;rfl));intro gb101 hg w3 hbox hb;have n0_:=O.mk (zq (by solve_by_elim only[HB.out,J,L,I]) hb);have n1_:=O.mk (hbox);have n2_:=O.mk ((by rw[hg];exact(zz (by solve_by_elim only[HB.out,J,L,I])):w.heap.size≤gb101));have n3_:=O.mk ((by rw[hg];exact(zz (by solve_by_elim only[HB.out,J,L,I])):w.heap.size≤gb101));clear HB;have HB:=n0_;have BK101:=n1_;have GW101:=n2_;have GE101:=n3_;clear n0_ n1_ n2_ n3_;clear hb hbox hg;obtain⟨y4_0,y4_1,y4_2,y4_3,z4_0,z4_1,z4_2,z4_3⟩:=bx4f BK101.out)|(go_at_call 73;(with_reducible refine(qvw.calls k (wrap64 (32 - (Int.tmod a0_1 64))) t102 _ A2.out).mono ?_);rintro e w' ⟨rfl,⟨nd,rfl⟩⟩;(try first|exact⟨rfl,_,World.drewN_drewN _ _ _⟩|exact⟨rfl,_,Eq.trans (World.drewN_drewN _ _ _) (congrArg (World.drewN _) (Nat.add_assoc _ _ _))⟩))))
 go_ret2
 exact⟨by first|rfl|(simp[*,zx,zw] <;> rfl),by solve_by_elim (maxDepth:=20) only[HB.out,J,L,I,qj,GE101.out]⟩
end Go.Proofs.YtnbbbjfjkhglhaaGreatDoor.Pr
namespace Go.Proofs.YtnbbbjfjkhglhaaGreatDoor.Pr
open Go.RowKit Go.Proofs.YtnbbbjfjkhglhaaGreatDoorW.PrintWords Go.Proofs.YtnbbbjfjkhglhaaGreatDoorW.PrintLast Go.Proofs.YtnbbbjfjkhglhaaGreatDoorW.PrintMore
attribute [local go_sem] max2_int min2_int max_two min_two max_three min_three max_four min_four
set_option linter.unusedVariables false
set_option linter.unusedSimpArgs false
def qvx.l0:Nat→ByteArray→Int→Option (Bool)
 | 0,_,_=>none
 | k + 1,x0,x3=>if x3 < (x0.size:Int) then(if 0≤x3 then(if (bt x0 x3) < 32 then(some false) else(if (bt x0 x3) > 126 then(some false) else(qvx.l0 k x0 (wrap64 (x3 + 1))))) else(none)) else(some true)
def qvx.f (k:Nat) (a0:ByteArray):Option (Bool):=qvx.l0 k a0 0
theorem qvx.calls (k:Nat) (a0:ByteArray) (r:Bool) (w:World) (h:qvx.f k a0=some r) :
  Calls Tryz.prog 72 #[.string a0] w fun e w'=>e=.returned (.bool r)∧Drawn0 w w':=by
 have H:(qvx.l0 k a0 0)=some r:=h;clear h;have H':=O.mk H;clear H;go_enter Tryz.func72,Tryz.ntmps72;go_wp2
 go_loopg [3] k (fun kq v3 w'=>∃ (x3_1:Int),v3=.int .i64 x3_1∧O (qvx.l0 kq a0 x3_1=some r)∧O (kq≤k)∧Drawn0 w w')
 case atStart=>exact⟨(0),(by first|rfl|(simp;done)|(simp[*];done)),H',⟨Nat.le_refl _⟩,by repeat(first|exact Drawn0.refl _|apply Drawn0.step)⟩
 case round =>
  clear H';obtain⟨x3_1,rfl,HA,HK1,⟨m1,rfl⟩⟩:=hrel
  cases gk with
  | zero=>exact absurd HA.out (by simp[qvx.l0])
  | succ k1 =>
   have H:=HA.out;clear HA;simp only[qvx.l0] at H
   by_cases c2:x3_1 < (a0.size:Int)
   ·rw[if_pos c2] at H;have c2b0:decide (x3_1 < (a0.size:Int))=true:=decide_eq_true c2;clear c2
    by_cases c3 : 0≤x3_1
    ·rw[if_pos c3] at H;have c3b0:decide (0≤x3_1)=true:=decide_eq_true c3;clear c3
     by_cases c5:(bt a0 x3_1) < 32
     ·rw[if_pos c5] at H;have c5b0:decide ((bt a0 x3_1) < 32)=true:=decide_eq_true c5;clear c5;obtain rfl:=Option.some.inj H;have p4 : 0≤(x3_1:Int):=of_decide_eq_true (by assumption);have q4:x3_1 < (a0.size:Int):=of_decide_eq_true (by assumption);have hx4:=bt_at a0 x3_1;replace p4:=eq_true p4;replace q4:=eq_true q4;go_wp2;go_ret
      exact⟨by first|rfl|(simp;done)|(simp[*];done),by repeat(first|exact Drawn0.refl _|apply Drawn0.step)⟩
     ·rw[if_neg c5] at H;have c5b0:decide ((bt a0 x3_1) < 32)=false:=decide_eq_false c5;clear c5
      by_cases c7:(bt a0 x3_1) > 126
      ·rw[if_pos c7] at H;have c7b0:decide (126 < (bt a0 x3_1))=true:=decide_eq_true c7;clear c7;obtain rfl:=Option.some.inj H;have p4 : 0≤(x3_1:Int):=of_decide_eq_true (by assumption);have q4:x3_1 < (a0.size:Int):=of_decide_eq_true (by assumption);have hx4:=bt_at a0 x3_1;replace p4:=eq_true p4;replace q4:=eq_true q4;have p6 : 0≤(x3_1:Int):=of_decide_eq_true (by assumption);have q6:x3_1 < (a0.size:Int):=of_decide_eq_true (by assumption);have hx6:=bt_at a0 x3_1;replace p6:=eq_true p6;replace q6:=eq_true q6;go_wp2;go_ret
       exact⟨by first|rfl|(simp;done)|(simp[*];done),by repeat(first|exact Drawn0.refl _|apply Drawn0.step)⟩
      ·rw[if_neg c7] at H;have c7b0:decide (126 < (bt a0 x3_1))=false:=decide_eq_false c7;clear c7;have H':=O.mk H;clear H;have p4 : 0≤(x3_1:Int):=of_decide_eq_true (by assumption);have q4:x3_1 < (a0.size:Int):=of_decide_eq_true (by assumption);have hx4:=bt_at a0 x3_1;replace p4:=eq_true p4;replace q4:=eq_true q4;have p6 : 0≤(x3_1:Int):=of_decide_eq_true (by assumption);have q6:x3_1 < (a0.size:Int):=of_decide_eq_true (by assumption);have hx6:=bt_at a0 x3_1;replace p6:=eq_true p6;replace q6:=eq_true q6;go_wp2;go_roundg k1
       case measure=>have:=HK1.out;omega
       case rel=>exact⟨(wrap64 (x3_1 + 1)),(by first|rfl|(simp;done)|(simp[*];done)),H',⟨by have:=HK1.out;omega⟩,by repeat(first|exact Drawn0.refl _|apply Drawn0.step)⟩
    ·rw[if_neg c3] at H;exact absurd H (by simp)
   ·rw[if_neg c2] at H;have c2b0:decide (x3_1 < (a0.size:Int))=false:=decide_eq_false c2;clear c2;obtain rfl:=Option.some.inj H;go_wp2;go_ret
    exact⟨by first|rfl|(simp;done)|(simp[*];done),by repeat(first|exact Drawn0.refl _|apply Drawn0.step)⟩
end Go.Proofs.YtnbbbjfjkhglhaaGreatDoor.Pr
namespace Go.Proofs.YtnbbbjfjkhglhaaGreatDoor.Pr
open Go.RowKit Go.Proofs.YtnbbbjfjkhglhaaGreatDoorW.PrintWords Go.Proofs.YtnbbbjfjkhglhaaGreatDoorW.PrintLast Go.Proofs.YtnbbbjfjkhglhaaGreatDoorW.PrintMore
attribute [local go_sem] max2_int min2_int max_two min_two max_three min_three max_four min_four
set_option linter.unusedVariables false
set_option linter.unusedSimpArgs false
mutual
def qkk.j0:Nat→Bool→Int→Int→ByteArray→ByteArray→Option (Bool)
 | 0,_,_,_,_,_=>none
 | k + 1,x27,x102000,x102001,x102002,x102003=>if x27=true then(some false) else(if x102000=1 then(if x102001=0 then(some true) else(some (x102001 == 1))) else(if x102000=2 then(qkk.j1 k x102000 (x102000 == 2) x102000 x102001 x102002 x102003) else(qkk.j1 k x102000 (x102000 == 5) x102000 x102001 x102002 x102003)))
def qkk.j1:Nat→Int→Bool→Int→Int→ByteArray→ByteArray→Option (Bool)
 | 0,_,_,_,_,_,_=>none
 | k + 1,x29,x40,x102000,x102001,x102002,x102003=>if x40=true then(some true) else(if x29=3 then(if x102001=0 then(if (x102002.size:Int)≤200 then((qvx.f k x102002).bind fun t102=>(some t102)) else(some false)) else(some false)) else(if x29=4 then(if x102001=0 then((qkv.f k x102003).bind fun t103=>(if t103=true then(if (x102002.size:Int) ≥ 1 then(if (x102002.size:Int)≤200 then((qvx.f k x102002).bind fun t104=>(some t104)) else(some false)) else(some false)) else(some false))) else(some false)) else(if x29=6 then(if x102001 < 0 then(some false) else((qvw.f k 32).bind fun t105=>(if (wrap64 (Int.tdiv x102001 64)) > (wrap64 (t105 - 1)) then(some false) else(if (Int.tmod x102001 64) > 32 then(some false) else((qvz.f k x102000 x102001 x102002 x102003).bind fun bt106=>(if bt106.2=0 then(none) else(some ((Int.tmod bt106.1 bt106.2) == 0)))))))) else(if x29=7 then(if x102001 ≥ (-100000000000) then(some (decide (x102001≤100000000000))) else(some false)) else(some false)))))
end
def qkk.f (k:Nat) (a0_0:Int) (a0_1:Int) (a0_2:ByteArray) (a0_3:ByteArray):Option (Bool):=if a0_0=3 then(if a0_0=4 then(qkk.j0 k false a0_0 a0_1 a0_2 a0_3) else(qkk.j0 k (a0_3.toList != ([]:List UInt8)) a0_0 a0_1 a0_2 a0_3)) else(if a0_0=4 then(qkk.j0 k false a0_0 a0_1 a0_2 a0_3) else(if a0_2.toList=([]:List UInt8) then(qkk.j0 k (a0_3.toList != ([]:List UInt8)) a0_0 a0_1 a0_2 a0_3) else(qkk.j0 k true a0_0 a0_1 a0_2 a0_3)))
theorem qkk.calls (k:Nat) (a0_0:Int) (a0_1:Int) (a0_2:ByteArray) (a0_3:ByteArray) (r:Bool) (w:World) (h:qkk.f k a0_0 a0_1 a0_2 a0_3=some r) :
  Calls Tryz.prog 46 #[.agg #[.int .i64 a0_0,.int .i64 a0_1,.string a0_2,.string a0_3]] w fun e w'=>e=.returned (.bool r)∧Below w.heap.size w w':=by
 have hu28:=Tryz.underlying28;have HB:=O.mk (Below.refl w.heap.size w);unfold qkk.f at h;have H:=h;clear h;have HC2:=O.mk H;clear H;go_enter Tryz.func46,Tryz.ntmps46;go_upto_region 1 with (first|((with_reducible refine gate_dst (N:=1) rfl ?_);(try (refine gate_guard (by rfl) ?_;dsimp only));refine box_event ?hg (N:=1) ?hd (cs:=#[.int .i64 a0_0,.int .i64 a0_1,.string a0_2,.string a0_3]) (t:=28) ?hr ?_;(case hd=>rfl);(case hg=>rfl);(case hr=>first|(go_simp;done)|(go_simp;rfl));intro gb101 hg w3 hbox hb;have BK101:=O.mk (hbox);have GW101:=O.mk ((by rw[hg];exact(zz (by solve_by_elim only[HB.out,J,L,I])):w.heap.size≤gb101));have GE101:=GW101;replace HB:=O.mk (zq (by solve_by_elim only[HB.out,J,L,I]) hb);clear hb hbox hg))
 repeat(go_quiet (first|((with_reducible refine gate_dst (N:=1) rfl ?_);(try (refine gate_guard (by rfl) ?_;dsimp only));refine box_event ?hg (N:=1) ?hd (cs:=#[.int .i64 a0_0,.int .i64 a0_1,.string a0_2,.string a0_3]) (t:=28) ?hr ?_;(case hd=>rfl);(case hg=>rfl);(case hr=>first|(go_simp;done)|(go_simp;rfl));intro gb101 hg w3 hbox hb;have BK101:=O.mk (hbox);have GW101:=O.mk ((by rw[hg];exact(zz (by solve_by_elim only[HB.out,J,L,I])):w.heap.size≤gb101));have GE101:=GW101;replace HB:=O.mk (zq (by solve_by_elim only[HB.out,J,L,I]) hb);clear hb hbox hg));go_upto_region 1 with (first|((with_reducible refine gate_dst (N:=1) rfl ?_);(try (refine gate_guard (by rfl) ?_;dsimp only));refine box_event ?hg (N:=1) ?hd (cs:=#[.int .i64 a0_0,.int .i64 a0_1,.string a0_2,.string a0_3]) (t:=28) ?hr ?_;(case hd=>rfl);(case hg=>rfl);(case hr=>first|(go_simp;done)|(go_simp;rfl));intro gb101 hg w3 hbox hb;have n0_:=O.mk (zq (by solve_by_elim only[HB.out,J,L,I]) hb);have n1_:=O.mk (hbox);have n2_:=O.mk ((by rw[hg];exact(zz (by solve_by_elim only[HB.out,J,L,I])):w.heap.size≤gb101));have n3_:=O.mk ((by rw[hg];exact(zz (by solve_by_elim only[HB.out,J,L,I])):w.heap.size≤gb101));clear HB;have HB:=n0_;have BK101:=n1_;have GW101:=n2_;have GE101:=n3_;clear n0_ n1_ n2_ n3_;clear hb hbox hg)))
 (try simp only[Act.put,jq5,jq6,jq7])
 go_cut [27] (fun v27 wc=>∃ (kq:Nat) (x27_1:Bool),v27=.bool x27_1∧O (qkk.j0 kq x27_1 a0_0 a0_1 a0_2 a0_3=some r)∧O (kq≤k)∧O (wc.heap[gb101]? = some (.cells #[.int .i64 a0_0,.int .i64 a0_1,.string a0_2,.string a0_3] 28 (0,0)))∧O (Below w.heap.size w wc))
 case first =>
  have H:=HC2.out;clear HC2
  by_cases c4:a0_0=3
  ·rw[if_pos c4] at H;have c4b0:(a0_0 == 3)=true:=beq_iff_eq.mpr c4;have c4b1:(a0_0 != 3)=false:=bne_eq_false_iff_eq.mpr c4;clear c4
   (first|rw[c4b0]|(simp only[i64_w,i32_w];rw[c4b0])|skip)
   by_cases c5:a0_0=4
   ·rw[if_pos c5] at H;have c5b0:(a0_0 == 4)=true:=beq_iff_eq.mpr c5;have c5b1:(a0_0 != 4)=false:=bne_eq_false_iff_eq.mpr c5;clear c5;have H':=O.mk H;clear H;obtain⟨y6_0,y6_1,y6_2,y6_3,z6_0,z6_1,z6_2,z6_3⟩:=bx4f BK101.out;go_wp2
    repeat(go_quiet (fail);try go_wp2)
    go_meet
    case rel=>exact⟨_,(false),(by first|rfl|(simp;done)|(simp[*];done)|(generalize ByteArray.toList _=l_;cases l_ <;> first|rfl|(simp;done))),H',⟨by first|omega|exact Nat.le_refl _⟩,⟨by(with_reducible repeat(first|refine qv ?_ _|refine qw ?_|refine qk ?_ _));exact BK101.out⟩,⟨by solve_by_elim (maxDepth:=20) only[HB.out,J,L,I,qj,GE101.out]⟩⟩
   ·rw[if_neg c5] at H;have c5b0:(a0_0 == 4)=false:=beq_eq_false_iff_ne.mpr c5;have c5b1:(a0_0 != 4)=true:=bne_iff_ne.mpr c5;have H':=O.mk H;clear H;obtain⟨y7_0,y7_1,y7_2,y7_3,z7_0,z7_1,z7_2,z7_3⟩:=bx4f BK101.out;go_wp2
    repeat(go_quiet (fail);try go_wp2)
    go_meet
    case rel=>exact⟨_,((a0_3.toList != ([]:List UInt8))),(by first|rfl|(simp;done)|(simp[*];done)|(generalize ByteArray.toList _=l_;cases l_ <;> first|rfl|(simp;done))),H',⟨by first|omega|exact Nat.le_refl _⟩,⟨by(with_reducible repeat(first|refine qv ?_ _|refine qw ?_|refine qk ?_ _));exact BK101.out⟩,⟨by solve_by_elim (maxDepth:=20) only[HB.out,J,L,I,qj,GE101.out]⟩⟩
  ·rw[if_neg c4] at H;have c4b0:(a0_0 == 3)=false:=beq_eq_false_iff_ne.mpr c4;have c4b1:(a0_0 != 3)=true:=bne_iff_ne.mpr c4
   (first|rw[c4b0]|(simp only[i64_w,i32_w];rw[c4b0])|skip)
   by_cases c8:a0_0=4
   ·rw[if_pos c8] at H;have c8b0:(a0_0 == 4)=true:=beq_iff_eq.mpr c8;have c8b1:(a0_0 != 4)=false:=bne_eq_false_iff_eq.mpr c8;clear c8;have H':=O.mk H;clear H;obtain⟨y9_0,y9_1,y9_2,y9_3,z9_0,z9_1,z9_2,z9_3⟩:=bx4f BK101.out;go_wp2
    repeat(go_quiet (fail);try go_wp2)
    go_meet
    case rel=>exact⟨_,(false),(by first|rfl|(simp;done)|(simp[*];done)|(generalize ByteArray.toList _=l_;cases l_ <;> first|rfl|(simp;done))),H',⟨by first|omega|exact Nat.le_refl _⟩,⟨by(with_reducible repeat(first|refine qv ?_ _|refine qw ?_|refine qk ?_ _));exact BK101.out⟩,⟨by solve_by_elim (maxDepth:=20) only[HB.out,J,L,I,qj,GE101.out]⟩⟩
   ·rw[if_neg c8] at H;have c8b0:(a0_0 == 4)=false:=beq_eq_false_iff_ne.mpr c8;have c8b1:(a0_0 != 4)=true:=bne_iff_ne.mpr c8
    by_cases c10:a0_2.toList=([]:List UInt8)
    ·rw[if_pos c10] at H;have c10b0:(a0_2.toList == ([]:List UInt8))=true:=beq_iff_eq.mpr c10;have c10b1:(a0_2.toList != ([]:List UInt8))=false:=bne_eq_false_iff_eq.mpr c10;clear c10;have H':=O.mk H;clear H;obtain⟨y11_0,y11_1,y11_2,y11_3,z11_0,z11_1,z11_2,z11_3⟩:=bx4f BK101.out;go_wp2
     repeat(go_quiet (fail);try go_wp2)
     go_meet
     case rel=>exact⟨_,((a0_3.toList != ([]:List UInt8))),(by first|rfl|(simp;done)|(simp[*];done)|(generalize ByteArray.toList _=l_;cases l_ <;> first|rfl|(simp;done))),H',⟨by first|omega|exact Nat.le_refl _⟩,⟨by(with_reducible repeat(first|refine qv ?_ _|refine qw ?_|refine qk ?_ _));exact BK101.out⟩,⟨by solve_by_elim (maxDepth:=20) only[HB.out,J,L,I,qj,GE101.out]⟩⟩
    ·rw[if_neg c10] at H;have c10b0:(a0_2.toList == ([]:List UInt8))=false:=beq_eq_false_iff_ne.mpr c10;have c10b1:(a0_2.toList != ([]:List UInt8))=true:=bne_iff_ne.mpr c10;have H':=O.mk H;clear H;obtain⟨y12_0,y12_1,y12_2,y12_3,z12_0,z12_1,z12_2,z12_3⟩:=bx4f BK101.out;go_wp2
     repeat(go_quiet (fail);try go_wp2)
     go_meet
     case rel=>exact⟨_,(true),(by first|rfl|(simp;done)|(simp[*];done)|(generalize ByteArray.toList _=l_;cases l_ <;> first|rfl|(simp;done))),H',⟨by first|omega|exact Nat.le_refl _⟩,⟨by(with_reducible repeat(first|refine qv ?_ _|refine qw ?_|refine qk ?_ _));exact BK101.out⟩,⟨by solve_by_elim (maxDepth:=20) only[HB.out,J,L,I,qj,GE101.out]⟩⟩
 case rest =>
  clear HC2;try clear c1
  try clear p2
  try clear c4
  try clear c4b0
  try clear c4b1
  try clear c5
  try clear c5b0
  try clear c5b1
  try clear c8
  try clear c8b0
  try clear c8b1
  try clear c10
  try clear c10b0
  try clear c10b1
  try clear y11_0 y11_1 y11_2 y11_3 z11_0 z11_1 z11_2 z11_3
  try clear y12_0 y12_1 y12_2 y12_3 z12_0 z12_1 z12_2 z12_3
  try clear y6_0 y6_1 y6_2 y6_3 z6_0 z6_1 z6_2 z6_3
  try clear y7_0 y7_1 y7_2 y7_3 z7_0 z7_1 z7_2 z7_3
  try clear y9_0 y9_1 y9_2 y9_3 z9_0 z9_1 z9_2 z9_3
  obtain⟨kq,x27_1,rfl,HA,HJ1,BK101,HB⟩:=hcut
  cases kq with
  | zero=>exact absurd HA.out (by simp[qkk.j0])
  | succ kj1 =>
   have H:=HA.out;clear HA;simp only[qkk.j0] at H
   by_cases c13:x27_1=true
   ·subst c13;have H1:(some false)=some r:=by rw[if_pos rfl] at H;exact H
    clear H;have H:=H1;clear H1;obtain rfl:=Option.some.inj H;go_wp2
    repeat(go_quiet (fail);try go_wp2)
    go_ret
    exact⟨by first|rfl|(simp[*,zx,zw] <;> rfl),by solve_by_elim (maxDepth:=20) only[HB.out,J,L,I,qj,GE101.out]⟩
   ·replace c13:=jq9.mpr c13;subst c13;have H1:(if a0_0=1 then(if a0_1=0 then(some true) else(some (a0_1 == 1))) else(if a0_0=2 then(qkk.j1 kj1 a0_0 (a0_0 == 2) a0_0 a0_1 a0_2 a0_3) else(qkk.j1 kj1 a0_0 (a0_0 == 5) a0_0 a0_1 a0_2 a0_3)))=some r:=by rw[if_neg (show ¬ (false=true) by decide)] at H;exact H
    clear H;have H:=H1;clear H1
    by_cases c14:a0_0=1
    ·rw[if_pos c14] at H;have c14b0:(a0_0 == 1)=true:=beq_iff_eq.mpr c14;have c14b1:(a0_0 != 1)=false:=bne_eq_false_iff_eq.mpr c14;clear c14
     by_cases c15:a0_1=0
     ·rw[if_pos c15] at H;have c15b0:(a0_1 == 0)=true:=beq_iff_eq.mpr c15;have c15b1:(a0_1 != 0)=false:=bne_eq_false_iff_eq.mpr c15;clear c15;obtain rfl:=Option.some.inj H;obtain⟨y16_0,y16_1,y16_2,y16_3,z16_0,z16_1,z16_2,z16_3⟩:=bx4f BK101.out;go_wp2
      repeat(go_quiet (fail);try go_wp2)
      go_ret
      exact⟨by first|rfl|(simp[*,zx,zw] <;> rfl),by solve_by_elim (maxDepth:=20) only[HB.out,J,L,I,qj,GE101.out]⟩
     ·rw[if_neg c15] at H;have c15b0:(a0_1 == 0)=false:=beq_eq_false_iff_ne.mpr c15;have c15b1:(a0_1 != 0)=true:=bne_iff_ne.mpr c15;obtain rfl:=Option.some.inj H;obtain⟨y17_0,y17_1,y17_2,y17_3,z17_0,z17_1,z17_2,z17_3⟩:=bx4f BK101.out;go_wp2
      repeat(go_quiet (fail);try go_wp2)
      go_ret
      exact⟨by first|rfl|(simp[*,zx,zw] <;> rfl),by solve_by_elim (maxDepth:=20) only[HB.out,J,L,I,qj,GE101.out]⟩
    ·rw[if_neg c14] at H;have c14b0:(a0_0 == 1)=false:=beq_eq_false_iff_ne.mpr c14;have c14b1:(a0_0 != 1)=true:=bne_iff_ne.mpr c14;have HC18:=O.mk H;clear H;obtain⟨y19_0,y19_1,y19_2,y19_3,z19_0,z19_1,z19_2,z19_3⟩:=bx4f BK101.out;go_upto_if 40 with (fail)
     repeat(go_quiet (fail);go_upto_if 40 with (fail))
     go_cut [40] (fun v40 wc=>∃ (kq:Nat) (x40_17:Bool),v40=.bool x40_17∧O (qkk.j1 kq a0_0 x40_17 a0_0 a0_1 a0_2 a0_3=some r)∧O (kq≤kj1)∧O (wc.heap[gb101]? = some (.cells #[.int .i64 a0_0,.int .i64 a0_1,.string a0_2,.string a0_3] 28 (0,0)))∧O (Below w.heap.size w wc))
     case first =>
      have H:=HC18.out;clear HC18
      by_cases c20:a0_0=2
      ·rw[if_pos c20] at H;have c20b0:(a0_0 == 2)=true:=beq_iff_eq.mpr c20;have c20b1:(a0_0 != 2)=false:=bne_eq_false_iff_eq.mpr c20;clear c20
       (first|rw[c20b0]|(simp only[i64_w,i32_w];rw[c20b0])|skip)
       have H':=O.mk H;clear H;go_wp2
       repeat(go_quiet (fail);try go_wp2)
       go_meet
       case rel=>exact⟨_,((a0_0 == 2)),(by first|rfl|(simp;done)|(simp[*];done)|(generalize ByteArray.toList _=l_;cases l_ <;> first|rfl|(simp;done))),H',⟨by have:=HJ1.out;first|omega|exact Nat.le_refl _⟩,⟨by(with_reducible repeat(first|refine qv ?_ _|refine qw ?_|refine qk ?_ _));exact BK101.out⟩,⟨by solve_by_elim (maxDepth:=20) only[HB.out,J,L,I,qj,GE101.out]⟩⟩
      ·rw[if_neg c20] at H;have c20b0:(a0_0 == 2)=false:=beq_eq_false_iff_ne.mpr c20;have c20b1:(a0_0 != 2)=true:=bne_iff_ne.mpr c20
       (first|rw[c20b0]|(simp only[i64_w,i32_w];rw[c20b0])|skip)
       have H':=O.mk H;clear H;go_wp2
       repeat(go_quiet (fail);try go_wp2)
       go_meet
       case rel=>exact⟨_,((a0_0 == 5)),(by first|rfl|(simp;done)|(simp[*];done)|(generalize ByteArray.toList _=l_;cases l_ <;> first|rfl|(simp;done))),H',⟨by have:=HJ1.out;first|omega|exact Nat.le_refl _⟩,⟨by(with_reducible repeat(first|refine qv ?_ _|refine qw ?_|refine qk ?_ _));exact BK101.out⟩,⟨by solve_by_elim (maxDepth:=20) only[HB.out,J,L,I,qj,GE101.out]⟩⟩
     case rest =>
      clear HC18;try clear c1
      try clear c2
      try clear p2 p2
      try clear c4
      try clear c4b0
      try clear c4b1
      try clear c5
      try clear c5b0
      try clear c5b1
      try clear c8
      try clear c8b0
      try clear c8b1
      try clear c10
      try clear c10b0
      try clear c10b1
      try clear c13
      try clear c14
      try clear c14b0
      try clear c14b1
      try clear c15
      try clear c15b0
      try clear c15b1
      try clear c20
      try clear c20b0
      try clear c20b1
      try clear y11_0 y11_1 y11_2 y11_3 z11_0 z11_1 z11_2 z11_3
      try clear y12_0 y12_1 y12_2 y12_3 z12_0 z12_1 z12_2 z12_3
      try clear y16_0 y16_1 y16_2 y16_3 z16_0 z16_1 z16_2 z16_3
      try clear y17_0 y17_1 y17_2 y17_3 z17_0 z17_1 z17_2 z17_3
      try clear y19_0 y19_1 y19_2 y19_3 z19_0 z19_1 z19_2 z19_3
      try clear y6_0 y6_1 y6_2 y6_3 z6_0 z6_1 z6_2 z6_3
      try clear y7_0 y7_1 y7_2 y7_3 z7_0 z7_1 z7_2 z7_3
      try clear y9_0 y9_1 y9_2 y9_3 z9_0 z9_1 z9_2 z9_3
      obtain⟨kq,x40_17,rfl,HA,HJ17,BK101,HB⟩:=hcut
      cases kq with
      | zero=>exact absurd HA.out (by simp[qkk.j1])
      | succ kj17 =>
       have H:=HA.out;clear HA;simp only[qkk.j1] at H
       by_cases c21:x40_17=true
       ·subst c21;have H1:(some true)=some r:=by rw[if_pos rfl] at H;exact H
        clear H;have H:=H1;clear H1;obtain rfl:=Option.some.inj H;go_wp2
        repeat(go_quiet (fail);try go_wp2)
        go_ret
        exact⟨by first|rfl|(simp[*,zx,zw] <;> rfl),by solve_by_elim (maxDepth:=20) only[HB.out,J,L,I,qj,GE101.out]⟩
       ·replace c21:=jq9.mpr c21;subst c21;have H1:(if a0_0=3 then(if a0_1=0 then(if (a0_2.size:Int)≤200 then((qvx.f kj17 a0_2).bind fun t102=>(some t102)) else(some false)) else(some false)) else(if a0_0=4 then(if a0_1=0 then((qkv.f kj17 a0_3).bind fun t103=>(if t103=true then(if (a0_2.size:Int) ≥ 1 then(if (a0_2.size:Int)≤200 then((qvx.f kj17 a0_2).bind fun t104=>(some t104)) else(some false)) else(some false)) else(some false))) else(some false)) else(if a0_0=6 then(if a0_1 < 0 then(some false) else((qvw.f kj17 32).bind fun t105=>(if (wrap64 (Int.tdiv a0_1 64)) > (wrap64 (t105 - 1)) then(some false) else(if (Int.tmod a0_1 64) > 32 then(some false) else((qvz.f kj17 a0_0 a0_1 a0_2 a0_3).bind fun bt106=>(if bt106.2=0 then(none) else(some ((Int.tmod bt106.1 bt106.2) == 0)))))))) else(if a0_0=7 then(if a0_1 ≥ (-100000000000) then(some (decide (a0_1≤100000000000))) else(some false)) else(some false)))))=some r:=by rw[if_neg (show ¬ (false=true) by decide)] at H;exact H
        clear H;have H:=H1;clear H1
        by_cases c22:a0_0=3
        ·rw[if_pos c22] at H;have c22b0:(a0_0 == 3)=true:=beq_iff_eq.mpr c22;have c22b1:(a0_0 != 3)=false:=bne_eq_false_iff_eq.mpr c22;clear c22
         by_cases c23:a0_1=0
         ·rw[if_pos c23] at H;have c23b0:(a0_1 == 0)=true:=beq_iff_eq.mpr c23;have c23b1:(a0_1 != 0)=false:=bne_eq_false_iff_eq.mpr c23;clear c23
          by_cases c24:(a0_2.size:Int)≤200
          ·rw[if_pos c24] at H;have c24b0:decide ((a0_2.size:Int)≤200)=true:=decide_eq_true c24;have c24b1:decide (a0_2.size≤200)=true:=decide_eq_true (by omega);clear c24;replace H:=jq8.mp H;obtain⟨t102,A250,H⟩:=H;replace H:(some t102)=some r:=H;have A25:=O.mk A250;clear A250;obtain rfl:=Option.some.inj H;obtain⟨y26_0,y26_1,y26_2,y26_3,z26_0,z26_1,z26_2,z26_3⟩:=bx4f BK101.out;go_wp2_with (first|(go_at_call 72;(with_reducible refine(qvx.calls kj17 a0_2 t102 _ A25.out).mono ?_);rintro e w' ⟨rfl,⟨nd,rfl⟩⟩;(try first|exact⟨rfl,_,World.drewN_drewN _ _ _⟩|exact⟨rfl,_,Eq.trans (World.drewN_drewN _ _ _) (congrArg (World.drewN _) (Nat.add_assoc _ _ _))⟩)))
           repeat(go_quiet (first|(go_at_call 72;(with_reducible refine(qvx.calls kj17 a0_2 t102 _ A25.out).mono ?_);rintro e w' ⟨rfl,⟨nd,rfl⟩⟩;(try first|exact⟨rfl,_,World.drewN_drewN _ _ _⟩|exact⟨rfl,_,Eq.trans (World.drewN_drewN _ _ _) (congrArg (World.drewN _) (Nat.add_assoc _ _ _))⟩)));try go_wp2_with (first|(go_at_call 72;(with_reducible refine(qvx.calls kj17 a0_2 t102 _ A25.out).mono ?_);rintro e w' ⟨rfl,⟨nd,rfl⟩⟩;(try first|exact⟨rfl,_,World.drewN_drewN _ _ _⟩|exact⟨rfl,_,Eq.trans (World.drewN_drewN _ _ _) (congrArg (World.drewN _) (Nat.add_assoc _ _ _))⟩))))
           go_ret
           exact⟨by first|rfl|(simp[*,zx,zw] <;> rfl),by solve_by_elim (maxDepth:=20) only[HB.out,J,L,I,qj,GE101.out]⟩
          ·rw[if_neg c24] at H;have c24b0:decide ((a0_2.size:Int)≤200)=false:=decide_eq_false c24;have c24b1:decide (a0_2.size≤200)=false:=decide_eq_false (by omega);clear c24;obtain rfl:=Option.some.inj H;obtain⟨y27_0,y27_1,y27_2,y27_3,z27_0,z27_1,z27_2,z27_3⟩:=bx4f BK101.out;go_wp2
           repeat(go_quiet (fail);try go_wp2)
           go_ret
           exact⟨by first|rfl|(simp[*,zx,zw] <;> rfl),by solve_by_elim (maxDepth:=20) only[HB.out,J,L,I,qj,GE101.out]⟩
         ·rw[if_neg c23] at H;have c23b0:(a0_1 == 0)=false:=beq_eq_false_iff_ne.mpr c23;have c23b1:(a0_1 != 0)=true:=bne_iff_ne.mpr c23;obtain rfl:=Option.some.inj H;obtain⟨y28_0,y28_1,y28_2,y28_3,z28_0,z28_1,z28_2,z28_3⟩:=bx4f BK101.out;go_wp2
          repeat(go_quiet (fail);try go_wp2)
          go_ret
          exact⟨by first|rfl|(simp[*,zx,zw] <;> rfl),by solve_by_elim (maxDepth:=20) only[HB.out,J,L,I,qj,GE101.out]⟩
        ·rw[if_neg c22] at H;have c22b0:(a0_0 == 3)=false:=beq_eq_false_iff_ne.mpr c22;have c22b1:(a0_0 != 3)=true:=bne_iff_ne.mpr c22
         by_cases c29:a0_0=4
         ·rw[if_pos c29] at H;have c29b0:(a0_0 == 4)=true:=beq_iff_eq.mpr c29;have c29b1:(a0_0 != 4)=false:=bne_eq_false_iff_eq.mpr c29;clear c29
          by_cases c30:a0_1=0
          ·rw[if_pos c30] at H;have c30b0:(a0_1 == 0)=true:=beq_iff_eq.mpr c30;have c30b1:(a0_1 != 0)=false:=bne_eq_false_iff_eq.mpr c30;clear c30;replace H:=jq8.mp H;obtain⟨t103,A310,H⟩:=H;try dsimp only at H
           have A31:=O.mk A310;clear A310
           by_cases c32:t103=true
           ·subst c32;have H1:(if (a0_2.size:Int) ≥ 1 then(if (a0_2.size:Int)≤200 then((qvx.f kj17 a0_2).bind fun t104=>(some t104)) else(some false)) else(some false))=some r:=by rw[if_pos rfl] at H;exact H
            clear H;have H:=H1;clear H1
            by_cases c33:(a0_2.size:Int) ≥ 1
            ·rw[if_pos c33] at H;have c33b0:decide (1≤(a0_2.size:Int))=true:=decide_eq_true c33;have c33b1:decide (1≤a0_2.size)=true:=decide_eq_true (by omega);clear c33
             by_cases c34:(a0_2.size:Int)≤200
             ·rw[if_pos c34] at H;have c34b0:decide ((a0_2.size:Int)≤200)=true:=decide_eq_true c34;have c34b1:decide (a0_2.size≤200)=true:=decide_eq_true (by omega);clear c34;replace H:=jq8.mp H;obtain⟨t104,A350,H⟩:=H;replace H:(some t104)=some r:=H;have A35:=O.mk A350;clear A350;obtain rfl:=Option.some.inj H;obtain⟨y36_0,y36_1,y36_2,y36_3,z36_0,z36_1,z36_2,z36_3⟩:=bx4f BK101.out;go_wp2_with (first|(go_at_call 45;(with_reducible refine(qkv.calls kj17 a0_3 true _ A31.out).mono ?_);rintro e w' ⟨rfl,⟨nd,rfl⟩⟩;(try first|exact⟨rfl,_,World.drewN_drewN _ _ _⟩|exact⟨rfl,_,Eq.trans (World.drewN_drewN _ _ _) (congrArg (World.drewN _) (Nat.add_assoc _ _ _))⟩))|(go_at_call 72;(with_reducible refine(qvx.calls kj17 a0_2 t104 _ A35.out).mono ?_);rintro e w' ⟨rfl,⟨nd,rfl⟩⟩;(try first|exact⟨rfl,_,World.drewN_drewN _ _ _⟩|exact⟨rfl,_,Eq.trans (World.drewN_drewN _ _ _) (congrArg (World.drewN _) (Nat.add_assoc _ _ _))⟩)))
              repeat(go_quiet (first|(go_at_call 45;(with_reducible refine(qkv.calls kj17 a0_3 true _ A31.out).mono ?_);rintro e w' ⟨rfl,⟨nd,rfl⟩⟩;(try first|exact⟨rfl,_,World.drewN_drewN _ _ _⟩|exact⟨rfl,_,Eq.trans (World.drewN_drewN _ _ _) (congrArg (World.drewN _) (Nat.add_assoc _ _ _))⟩))|(go_at_call 72;(with_reducible refine(qvx.calls kj17 a0_2 t104 _ A35.out).mono ?_);rintro e w' ⟨rfl,⟨nd,rfl⟩⟩;(try first|exact⟨rfl,_,World.drewN_drewN _ _ _⟩|exact⟨rfl,_,Eq.trans (World.drewN_drewN _ _ _) (congrArg (World.drewN _) (Nat.add_assoc _ _ _))⟩)));try go_wp2_with (first|(go_at_call 45;(with_reducible refine(qkv.calls kj17 a0_3 true _ A31.out).mono ?_);rintro e w' ⟨rfl,⟨nd,rfl⟩⟩;(try first|exact⟨rfl,_,World.drewN_drewN _ _ _⟩|exact⟨rfl,_,Eq.trans (World.drewN_drewN _ _ _) (congrArg (World.drewN _) (Nat.add_assoc _ _ _))⟩))|(go_at_call 72;(with_reducible refine(qvx.calls kj17 a0_2 t104 _ A35.out).mono ?_);rintro e w' ⟨rfl,⟨nd,rfl⟩⟩;(try first|exact⟨rfl,_,World.drewN_drewN _ _ _⟩|exact⟨rfl,_,Eq.trans (World.drewN_drewN _ _ _) (congrArg (World.drewN _) (Nat.add_assoc _ _ _))⟩))))
              go_ret
              exact⟨by first|rfl|(simp[*,zx,zw] <;> rfl),by solve_by_elim (maxDepth:=20) only[HB.out,J,L,I,qj,GE101.out]⟩
             ·rw[if_neg c34] at H;have c34b0:decide ((a0_2.size:Int)≤200)=false:=decide_eq_false c34;have c34b1:decide (a0_2.size≤200)=false:=decide_eq_false (by omega);clear c34;obtain rfl:=Option.some.inj H;obtain⟨y37_0,y37_1,y37_2,y37_3,z37_0,z37_1,z37_2,z37_3⟩:=bx4f BK101.out;go_wp2_with (first|(go_at_call 45;(with_reducible refine(qkv.calls kj17 a0_3 true _ A31.out).mono ?_);rintro e w' ⟨rfl,⟨nd,rfl⟩⟩;(try first|exact⟨rfl,_,World.drewN_drewN _ _ _⟩|exact⟨rfl,_,Eq.trans (World.drewN_drewN _ _ _) (congrArg (World.drewN _) (Nat.add_assoc _ _ _))⟩)))
              repeat(go_quiet (first|(go_at_call 45;(with_reducible refine(qkv.calls kj17 a0_3 true _ A31.out).mono ?_);rintro e w' ⟨rfl,⟨nd,rfl⟩⟩;(try first|exact⟨rfl,_,World.drewN_drewN _ _ _⟩|exact⟨rfl,_,Eq.trans (World.drewN_drewN _ _ _) (congrArg (World.drewN _) (Nat.add_assoc _ _ _))⟩)));try go_wp2_with (first|(go_at_call 45;(with_reducible refine(qkv.calls kj17 a0_3 true _ A31.out).mono ?_);rintro e w' ⟨rfl,⟨nd,rfl⟩⟩;(try first|exact⟨rfl,_,World.drewN_drewN _ _ _⟩|exact⟨rfl,_,Eq.trans (World.drewN_drewN _ _ _) (congrArg (World.drewN _) (Nat.add_assoc _ _ _))⟩))))
              go_ret
              exact⟨by first|rfl|(simp[*,zx,zw] <;> rfl),by solve_by_elim (maxDepth:=20) only[HB.out,J,L,I,qj,GE101.out]⟩
            ·rw[if_neg c33] at H;have c33b0:decide (1≤(a0_2.size:Int))=false:=decide_eq_false c33;have c33b1:decide (1≤a0_2.size)=false:=decide_eq_false (by omega);clear c33;obtain rfl:=Option.some.inj H;obtain⟨y38_0,y38_1,y38_2,y38_3,z38_0,z38_1,z38_2,z38_3⟩:=bx4f BK101.out;go_wp2_with (first|(go_at_call 45;(with_reducible refine(qkv.calls kj17 a0_3 true _ A31.out).mono ?_);rintro e w' ⟨rfl,⟨nd,rfl⟩⟩;(try first|exact⟨rfl,_,World.drewN_drewN _ _ _⟩|exact⟨rfl,_,Eq.trans (World.drewN_drewN _ _ _) (congrArg (World.drewN _) (Nat.add_assoc _ _ _))⟩)))
             repeat(go_quiet (first|(go_at_call 45;(with_reducible refine(qkv.calls kj17 a0_3 true _ A31.out).mono ?_);rintro e w' ⟨rfl,⟨nd,rfl⟩⟩;(try first|exact⟨rfl,_,World.drewN_drewN _ _ _⟩|exact⟨rfl,_,Eq.trans (World.drewN_drewN _ _ _) (congrArg (World.drewN _) (Nat.add_assoc _ _ _))⟩)));try go_wp2_with (first|(go_at_call 45;(with_reducible refine(qkv.calls kj17 a0_3 true _ A31.out).mono ?_);rintro e w' ⟨rfl,⟨nd,rfl⟩⟩;(try first|exact⟨rfl,_,World.drewN_drewN _ _ _⟩|exact⟨rfl,_,Eq.trans (World.drewN_drewN _ _ _) (congrArg (World.drewN _) (Nat.add_assoc _ _ _))⟩))))
             go_ret
             exact⟨by first|rfl|(simp[*,zx,zw] <;> rfl),by solve_by_elim (maxDepth:=20) only[HB.out,J,L,I,qj,GE101.out]⟩
           ·replace c32:=jq9.mpr c32;subst c32;have H1:(some false)=some r:=by rw[if_neg (show ¬ (false=true) by decide)] at H;exact H
            clear H;have H:=H1;clear H1;obtain rfl:=Option.some.inj H;obtain⟨y39_0,y39_1,y39_2,y39_3,z39_0,z39_1,z39_2,z39_3⟩:=bx4f BK101.out;go_wp2_with (first|(go_at_call 45;(with_reducible refine(qkv.calls kj17 a0_3 false _ A31.out).mono ?_);rintro e w' ⟨rfl,⟨nd,rfl⟩⟩;(try first|exact⟨rfl,_,World.drewN_drewN _ _ _⟩|exact⟨rfl,_,Eq.trans (World.drewN_drewN _ _ _) (congrArg (World.drewN _) (Nat.add_assoc _ _ _))⟩)))
            repeat(go_quiet (first|(go_at_call 45;(with_reducible refine(qkv.calls kj17 a0_3 false _ A31.out).mono ?_);rintro e w' ⟨rfl,⟨nd,rfl⟩⟩;(try first|exact⟨rfl,_,World.drewN_drewN _ _ _⟩|exact⟨rfl,_,Eq.trans (World.drewN_drewN _ _ _) (congrArg (World.drewN _) (Nat.add_assoc _ _ _))⟩)));try go_wp2_with (first|(go_at_call 45;(with_reducible refine(qkv.calls kj17 a0_3 false _ A31.out).mono ?_);rintro e w' ⟨rfl,⟨nd,rfl⟩⟩;(try first|exact⟨rfl,_,World.drewN_drewN _ _ _⟩|exact⟨rfl,_,Eq.trans (World.drewN_drewN _ _ _) (congrArg (World.drewN _) (Nat.add_assoc _ _ _))⟩))))
            go_ret
            exact⟨by first|rfl|(simp[*,zx,zw] <;> rfl),by solve_by_elim (maxDepth:=20) only[HB.out,J,L,I,qj,GE101.out]⟩
          ·rw[if_neg c30] at H;have c30b0:(a0_1 == 0)=false:=beq_eq_false_iff_ne.mpr c30;have c30b1:(a0_1 != 0)=true:=bne_iff_ne.mpr c30;obtain rfl:=Option.some.inj H;obtain⟨y40_0,y40_1,y40_2,y40_3,z40_0,z40_1,z40_2,z40_3⟩:=bx4f BK101.out;go_wp2
           repeat(go_quiet (fail);try go_wp2)
           go_ret
           exact⟨by first|rfl|(simp[*,zx,zw] <;> rfl),by solve_by_elim (maxDepth:=20) only[HB.out,J,L,I,qj,GE101.out]⟩
         ·rw[if_neg c29] at H;have c29b0:(a0_0 == 4)=false:=beq_eq_false_iff_ne.mpr c29;have c29b1:(a0_0 != 4)=true:=bne_iff_ne.mpr c29
          by_cases c41:a0_0=6
          ·rw[if_pos c41] at H;have c41b0:(a0_0 == 6)=true:=beq_iff_eq.mpr c41;have c41b1:(a0_0 != 6)=false:=bne_eq_false_iff_eq.mpr c41;clear c41
           by_cases c42:a0_1 < 0
           ·rw[if_pos c42] at H;have c42b0:decide (a0_1 < 0)=true:=decide_eq_true c42;clear c42;obtain rfl:=Option.some.inj H;obtain⟨y43_0,y43_1,y43_2,y43_3,z43_0,z43_1,z43_2,z43_3⟩:=bx4f BK101.out;go_wp2
            repeat(go_quiet (fail);try go_wp2)
            go_ret
            exact⟨by first|rfl|(simp[*,zx,zw] <;> rfl),by solve_by_elim (maxDepth:=20) only[HB.out,J,L,I,qj,GE101.out]⟩
           ·rw[if_neg c42] at H;have c42b0:decide (a0_1 < 0)=false:=decide_eq_false c42;clear c42;replace H:=jq8.mp H;obtain⟨t105,A440,H⟩:=H;try dsimp only at H
            have A44:=O.mk A440;clear A440
            by_cases c45:(wrap64 (Int.tdiv a0_1 64)) > (wrap64 (t105 - 1))
            ·rw[if_pos c45] at H;have c45b0:decide ((wrap64 (t105 - 1)) < (wrap64 (Int.tdiv a0_1 64)))=true:=decide_eq_true c45;clear c45;obtain rfl:=Option.some.inj H;obtain⟨y46_0,y46_1,y46_2,y46_3,z46_0,z46_1,z46_2,z46_3⟩:=bx4f BK101.out;go_wp2_with (first|(go_at_call 73;(with_reducible refine(qvw.calls kj17 32 t105 _ A44.out).mono ?_);rintro e w' ⟨rfl,⟨nd,rfl⟩⟩;(try first|exact⟨rfl,_,World.drewN_drewN _ _ _⟩|exact⟨rfl,_,Eq.trans (World.drewN_drewN _ _ _) (congrArg (World.drewN _) (Nat.add_assoc _ _ _))⟩)))
             repeat(go_quiet (first|(go_at_call 73;(with_reducible refine(qvw.calls kj17 32 t105 _ A44.out).mono ?_);rintro e w' ⟨rfl,⟨nd,rfl⟩⟩;(try first|exact⟨rfl,_,World.drewN_drewN _ _ _⟩|exact⟨rfl,_,Eq.trans (World.drewN_drewN _ _ _) (congrArg (World.drewN _) (Nat.add_assoc _ _ _))⟩)));try go_wp2_with (first|(go_at_call 73;(with_reducible refine(qvw.calls kj17 32 t105 _ A44.out).mono ?_);rintro e w' ⟨rfl,⟨nd,rfl⟩⟩;(try first|exact⟨rfl,_,World.drewN_drewN _ _ _⟩|exact⟨rfl,_,Eq.trans (World.drewN_drewN _ _ _) (congrArg (World.drewN _) (Nat.add_assoc _ _ _))⟩))))
             go_ret
             exact⟨by first|rfl|(simp[*,zx,zw] <;> rfl),by solve_by_elim (maxDepth:=20) only[HB.out,J,L,I,qj,GE101.out]⟩
            ·rw[if_neg c45] at H;have c45b0:decide ((wrap64 (t105 - 1)) < (wrap64 (Int.tdiv a0_1 64)))=false:=decide_eq_false c45;clear c45
             by_cases c47:(Int.tmod a0_1 64) > 32
             ·rw[if_pos c47] at H;have c47b0:decide (32 < (Int.tmod a0_1 64))=true:=decide_eq_true c47;clear c47;obtain rfl:=Option.some.inj H;obtain⟨y48_0,y48_1,y48_2,y48_3,z48_0,z48_1,z48_2,z48_3⟩:=bx4f BK101.out;go_wp2_with (first|(go_at_call 73;(with_reducible refine(qvw.calls kj17 32 t105 _ A44.out).mono ?_);rintro e w' ⟨rfl,⟨nd,rfl⟩⟩;(try first|exact⟨rfl,_,World.drewN_drewN _ _ _⟩|exact⟨rfl,_,Eq.trans (World.drewN_drewN _ _ _) (congrArg (World.drewN _) (Nat.add_assoc _ _ _))⟩)))
              repeat(go_quiet (first|(go_at_call 73;(with_reducible refine(qvw.calls kj17 32 t105 _ A44.out).mono ?_);rintro e w' ⟨rfl,⟨nd,rfl⟩⟩;(try first|exact⟨rfl,_,World.drewN_drewN _ _ _⟩|exact⟨rfl,_,Eq.trans (World.drewN_drewN _ _ _) (congrArg (World.drewN _) (Nat.add_assoc _ _ _))⟩)));try go_wp2_with (first|(go_at_call 73;(with_reducible refine(qvw.calls kj17 32 t105 _ A44.out).mono ?_);rintro e w' ⟨rfl,⟨nd,rfl⟩⟩;(try first|exact⟨rfl,_,World.drewN_drewN _ _ _⟩|exact⟨rfl,_,Eq.trans (World.drewN_drewN _ _ _) (congrArg (World.drewN _) (Nat.add_assoc _ _ _))⟩))))
              go_ret
              exact⟨by first|rfl|(simp[*,zx,zw] <;> rfl),by solve_by_elim (maxDepth:=20) only[HB.out,J,L,I,qj,GE101.out]⟩
             ·rw[if_neg c47] at H;have c47b0:decide (32 < (Int.tmod a0_1 64))=false:=decide_eq_false c47;clear c47;replace H:=jq8.mp H;obtain⟨⟨t106,t107⟩,A490,H⟩:=H;try dsimp only at H
              have A49:=O.mk A490;clear A490
              by_cases c50:t107=0
              ·rw[if_pos c50] at H;exact absurd H (by simp)
              ·rw[if_neg c50] at H;have c50b0:(t107 == 0)=false:=beq_eq_false_iff_ne.mpr c50;have c50b1:(t107 != 0)=true:=bne_iff_ne.mpr c50;obtain rfl:=Option.some.inj H;obtain⟨y51_0,y51_1,y51_2,y51_3,z51_0,z51_1,z51_2,z51_3⟩:=bx4f BK101.out;go_wp2_with (first|(go_at_call 73;(with_reducible refine(qvw.calls kj17 32 t105 _ A44.out).mono ?_);rintro e w' ⟨rfl,⟨nd,rfl⟩⟩;(try first|exact⟨rfl,_,World.drewN_drewN _ _ _⟩|exact⟨rfl,_,Eq.trans (World.drewN_drewN _ _ _) (congrArg (World.drewN _) (Nat.add_assoc _ _ _))⟩))|(go_at_call 50;(with_reducible refine(qvz.calls kj17 a0_0 a0_1 a0_2 a0_3 t106 t107 _ A49.out).mono ?_);rintro e w52 ⟨rfl,hb⟩;replace BK101:=O.mk (kz (by solve_by_elim only[BK101.out,qv,qw,qk]) hb);replace HB:=O.mk (zq (by solve_by_elim (maxDepth:=20) only[HB.out,J,L,I,qj,GE101.out]) hb);(try clear hb)))
               repeat(go_quiet (first|(go_at_call 73;(with_reducible refine(qvw.calls kj17 32 t105 _ A44.out).mono ?_);rintro e w' ⟨rfl,⟨nd,rfl⟩⟩;(try first|exact⟨rfl,_,World.drewN_drewN _ _ _⟩|exact⟨rfl,_,Eq.trans (World.drewN_drewN _ _ _) (congrArg (World.drewN _) (Nat.add_assoc _ _ _))⟩))|(go_at_call 50;(with_reducible refine(qvz.calls kj17 a0_0 a0_1 a0_2 a0_3 t106 t107 _ A49.out).mono ?_);rintro e w52 ⟨rfl,hb⟩;replace BK101:=O.mk (kz (by solve_by_elim only[BK101.out,qv,qw,qk]) hb);replace HB:=O.mk (zq (by solve_by_elim (maxDepth:=20) only[HB.out,J,L,I,qj,GE101.out]) hb);(try clear hb)));try go_wp2_with (first|(go_at_call 73;(with_reducible refine(qvw.calls kj17 32 t105 _ A44.out).mono ?_);rintro e w' ⟨rfl,⟨nd,rfl⟩⟩;(try first|exact⟨rfl,_,World.drewN_drewN _ _ _⟩|exact⟨rfl,_,Eq.trans (World.drewN_drewN _ _ _) (congrArg (World.drewN _) (Nat.add_assoc _ _ _))⟩))|(go_at_call 50;(with_reducible refine(qvz.calls kj17 a0_0 a0_1 a0_2 a0_3 t106 t107 _ A49.out).mono ?_);rintro e w52 ⟨rfl,hb⟩;have n0_:=O.mk (kz (g:=gb101) (o:=.cells #[.int .i64 a0_0,.int .i64 a0_1,.string a0_2,.string a0_3] 28 (0,0)) (by solve_by_elim only[BK101.out,qv,qw,qk]) hb);have n1_:=O.mk (zq (by solve_by_elim (maxDepth:=20) only[HB.out,J,L,I,qj,GE101.out]) hb);clear BK101;clear HB;have BK101:=n0_;have HB:=n1_;clear n0_ n1_;(try clear hb);(try clear hb2);(try clear hk);(try clear hi))))
               go_ret
               exact⟨by first|rfl|(simp[*,zx,zw] <;> rfl),by solve_by_elim (maxDepth:=20) only[HB.out,J,L,I,qj,GE101.out]⟩
          ·rw[if_neg c41] at H;have c41b0:(a0_0 == 6)=false:=beq_eq_false_iff_ne.mpr c41;have c41b1:(a0_0 != 6)=true:=bne_iff_ne.mpr c41
           by_cases c53:a0_0=7
           ·rw[if_pos c53] at H;have c53b0:(a0_0 == 7)=true:=beq_iff_eq.mpr c53;have c53b1:(a0_0 != 7)=false:=bne_eq_false_iff_eq.mpr c53;clear c53
            by_cases c54:a0_1 ≥ (-100000000000)
            ·rw[if_pos c54] at H;have c54b0:decide ((-100000000000)≤a0_1)=true:=decide_eq_true c54;clear c54;obtain rfl:=Option.some.inj H;obtain⟨y55_0,y55_1,y55_2,y55_3,z55_0,z55_1,z55_2,z55_3⟩:=bx4f BK101.out;go_wp2
             repeat(go_quiet (fail);try go_wp2)
             go_ret
             exact⟨by first|rfl|(simp[*,zx,zw] <;> rfl),by solve_by_elim (maxDepth:=20) only[HB.out,J,L,I,qj,GE101.out]⟩
            ·rw[if_neg c54] at H;have c54b0:decide ((-100000000000)≤a0_1)=false:=decide_eq_false c54;clear c54;obtain rfl:=Option.some.inj H;obtain⟨y56_0,y56_1,y56_2,y56_3,z56_0,z56_1,z56_2,z56_3⟩:=bx4f BK101.out;go_wp2
             repeat(go_quiet (fail);try go_wp2)
             go_ret
             exact⟨by first|rfl|(simp[*,zx,zw] <;> rfl),by solve_by_elim (maxDepth:=20) only[HB.out,J,L,I,qj,GE101.out]⟩
           ·rw[if_neg c53] at H;have c53b0:(a0_0 == 7)=false:=beq_eq_false_iff_ne.mpr c53;have c53b1:(a0_0 != 7)=true:=bne_iff_ne.mpr c53;obtain rfl:=Option.some.inj H;go_wp2
            repeat(go_quiet (fail);try go_wp2)
            go_ret
            exact⟨by first|rfl|(simp[*,zx,zw] <;> rfl),by solve_by_elim (maxDepth:=20) only[HB.out,J,L,I,qj,GE101.out]⟩
end Go.Proofs.YtnbbbjfjkhglhaaGreatDoor.Pr
namespace Go.Proofs.YtnbbbjfjkhglhaaGreatDoor.Pr
open Go.RowKit Go.Proofs.YtnbbbjfjkhglhaaGreatDoorW.PrintWords Go.Proofs.YtnbbbjfjkhglhaaGreatDoorW.PrintLast Go.Proofs.YtnbbbjfjkhglhaaGreatDoorW.PrintMore
attribute [local go_sem] max2_int min2_int max_two min_two max_three min_three max_four min_four
set_option linter.unusedVariables false
set_option linter.unusedSimpArgs false
def qvq.j0:Nat→Bool→ByteArray→Int→ByteArray→Int→Int→ByteArray→ByteArray→Option (Bool)
 | 0,_,_,_,_,_,_,_,_=>none
 | k + 1,x18,x102000,x102001,x102002,x102003,x102004,x102005,x102006=>if x18=true then(some false) else(if x102001=1 then(if x102003=2 then(some true) else(if x102003=3 then(some true) else(if x102003=5 then(some true) else(some (x102003 == 7))))) else(if x102001=2 then(if x102003=2 then(some true) else(if x102003=3 then(some true) else(if x102003=5 then(some true) else(some (x102003 == 7))))) else(if x102001=3 then(if x102003=2 then(some true) else(if x102003=3 then(some true) else(if x102003=5 then(some true) else(some (x102003 == 7))))) else(if x102001=4 then(some (x102003 == 6)) else(some false)))))
def qvq.f (k:Nat) (a0_0:ByteArray) (a0_1:Int) (a0_2:ByteArray) (a0_3:Int) (a0_4:Int) (a0_5:ByteArray) (a0_6:ByteArray):Option (Bool):=(qkv.f k a0_0).bind fun t102=>(if t102=true then(if a0_2.toList=([]:List UInt8) then((qkk.f k a0_3 a0_4 a0_5 a0_6).bind fun t103=>(qvq.j0 k (!t103) a0_0 a0_1 a0_2 a0_3 a0_4 a0_5 a0_6)) else(qvq.j0 k true a0_0 a0_1 a0_2 a0_3 a0_4 a0_5 a0_6)) else(qvq.j0 k true a0_0 a0_1 a0_2 a0_3 a0_4 a0_5 a0_6))
theorem qvq.calls (k:Nat) (a0_0:ByteArray) (a0_1:Int) (a0_2:ByteArray) (a0_3:Int) (a0_4:Int) (a0_5:ByteArray) (a0_6:ByteArray) (r:Bool) (w:World) (h:qvq.f k a0_0 a0_1 a0_2 a0_3 a0_4 a0_5 a0_6=some r) :
  Calls Tryz.prog 20 #[.agg #[.string a0_0,.int .i64 a0_1,.string a0_2,.int .i64 a0_3,.int .i64 a0_4,.string a0_5,.string a0_6]] w fun e w'=>e=.returned (.bool r)∧Below w.heap.size w w':=by
 have hu30:=Tryz.underlying30;have hu28:=Tryz.underlying28;have HB:=O.mk (Below.refl w.heap.size w);unfold qvq.f at h;have H:=h;clear h;have HC2:=O.mk H;clear H;go_enter Tryz.func20,Tryz.ntmps20;go_upto_region 1 with (first|((with_reducible refine gate_dst (N:=1) rfl ?_);refine box_event ?hg (N:=1) ?hd (cs:=#[.string a0_0,.int .i64 a0_1,.string a0_2,.int .i64 a0_3,.int .i64 a0_4,.string a0_5,.string a0_6]) (t:=30) ?hr ?_;(case hd=>rfl);(case hg=>rfl);(case hr=>first|(go_simp;done)|(go_simp;rfl));intro gb101 hg w3 hbox hb;have BK101:=O.mk (hbox);have GW101:=O.mk ((by rw[hg];exact(zz (by solve_by_elim only[HB.out,J,L,I])):w.heap.size≤gb101));have GE101:=GW101;replace HB:=O.mk (zq (by solve_by_elim only[HB.out,J,L,I]) hb);clear hb hbox hg))
 (try simp only[Act.put,jq5,jq6,jq7])
 go_cut [18] (fun v18 wc=>∃ (kq:Nat) (x18_1:Bool),v18=.bool x18_1∧O (qvq.j0 kq x18_1 a0_0 a0_1 a0_2 a0_3 a0_4 a0_5 a0_6=some r)∧O (kq≤k)∧O (wc.heap[gb101]? = some (.cells #[.string a0_0,.int .i64 a0_1,.string a0_2,.int .i64 a0_3,.int .i64 a0_4,.string a0_5,.string a0_6] 30 (0,0)))∧O (Below w.heap.size w wc))
 case first =>
  have H:=HC2.out;clear HC2;replace H:=jq8.mp H;obtain⟨t102,A40,H⟩:=H;try dsimp only at H
  have A4:=O.mk A40;clear A40
  by_cases c5:t102=true
  ·subst c5;have H1:(if a0_2.toList=([]:List UInt8) then((qkk.f k a0_3 a0_4 a0_5 a0_6).bind fun t103=>(qvq.j0 k (!t103) a0_0 a0_1 a0_2 a0_3 a0_4 a0_5 a0_6)) else(qvq.j0 k true a0_0 a0_1 a0_2 a0_3 a0_4 a0_5 a0_6))=some r:=by rw[if_pos rfl] at H;exact H
   clear H;have H:=H1;clear H1
   by_cases c6:a0_2.toList=([]:List UInt8)
   ·rw[if_pos c6] at H;have c6b0:(a0_2.toList == ([]:List UInt8))=true:=beq_iff_eq.mpr c6;have c6b1:(a0_2.toList != ([]:List UInt8))=false:=bne_eq_false_iff_eq.mpr c6;clear c6
    (first|rw[c6b0]|(simp only[i64_w,i32_w];rw[c6b0])|skip)
    replace H:=jq8.mp H;obtain⟨t103,A70,H⟩:=H;try dsimp only at H
    have A7:=O.mk A70;clear A70;have H':=O.mk H;clear H;obtain⟨y8_0,y8_1,y8_2,y8_3,y8_4,y8_5,y8_6,z8_0,z8_1,z8_2,z8_3,z8_4,z8_5,z8_6⟩:=bx7f BK101.out;go_wp2_with (first|((with_reducible refine jq (f:=45) rfl ?_);refine goesL_ (some 6) rfl rfl Tryz.func45 (by kernel_rfl) rfl #[.string a0_0] rfl (by(try simp only[jq0,jq1,jq2]);first|done|rfl|(simp only[jq3,jq4];rfl)) ?_;(with_reducible refine(qkv.calls k a0_0 true _ A4.out).mono ?_);rintro e w' ⟨rfl,⟨nd,rfl⟩⟩;refine⟨_,rfl,?_⟩)|(go_at_call 46;(with_reducible refine(qkk.calls k a0_3 a0_4 a0_5 a0_6 t103 _ A7.out).mono ?_);rintro e w9 ⟨rfl,hb⟩;replace BK101:=O.mk (kz (by solve_by_elim only[BK101.out,qv,qw,qk]) hb);replace HB:=O.mk (zq (by solve_by_elim (maxDepth:=20) only[HB.out,J,L,I,qj,GE101.out]) hb);(try clear hb)))
    go_meet
    case rel=>exact⟨_,(!t103),(by first|rfl|(simp;done)|(simp[*];done)|(generalize ByteArray.toList _=l_;cases l_ <;> first|rfl|(simp;done))),H',⟨by first|omega|exact Nat.le_refl _⟩,⟨by(with_reducible repeat(first|refine qv ?_ _|refine qw ?_|refine qk ?_ _));exact BK101.out⟩,⟨by solve_by_elim (maxDepth:=20) only[HB.out,J,L,I,qj,GE101.out]⟩⟩
   ·rw[if_neg c6] at H;have c6b0:(a0_2.toList == ([]:List UInt8))=false:=beq_eq_false_iff_ne.mpr c6;have c6b1:(a0_2.toList != ([]:List UInt8))=true:=bne_iff_ne.mpr c6
    (first|rw[c6b0]|(simp only[i64_w,i32_w];rw[c6b0])|skip)
    have H':=O.mk H;clear H;obtain⟨y10_0,y10_1,y10_2,y10_3,y10_4,y10_5,y10_6,z10_0,z10_1,z10_2,z10_3,z10_4,z10_5,z10_6⟩:=bx7f BK101.out;go_wp2_with (first|((with_reducible refine jq (f:=45) rfl ?_);refine goesL_ (some 6) rfl rfl Tryz.func45 (by kernel_rfl) rfl #[.string a0_0] rfl (by(try simp only[jq0,jq1,jq2]);first|done|rfl|(simp only[jq3,jq4];rfl)) ?_;(with_reducible refine(qkv.calls k a0_0 true _ A4.out).mono ?_);rintro e w' ⟨rfl,⟨nd,rfl⟩⟩;refine⟨_,rfl,?_⟩))
    go_meet
    case rel=>exact⟨_,(true),(by first|rfl|(simp;done)|(simp[*];done)|(generalize ByteArray.toList _=l_;cases l_ <;> first|rfl|(simp;done))),H',⟨by first|omega|exact Nat.le_refl _⟩,⟨by(with_reducible repeat(first|refine qv ?_ _|refine qw ?_|refine qk ?_ _));exact BK101.out⟩,⟨by solve_by_elim (maxDepth:=20) only[HB.out,J,L,I,qj,GE101.out]⟩⟩
  ·replace c5:=jq9.mpr c5;subst c5;have H1:(qvq.j0 k true a0_0 a0_1 a0_2 a0_3 a0_4 a0_5 a0_6)=some r:=by rw[if_neg (show ¬ (false=true) by decide)] at H;exact H
   clear H;have H:=H1;clear H1;have H':=O.mk H;clear H;obtain⟨y11_0,y11_1,y11_2,y11_3,y11_4,y11_5,y11_6,z11_0,z11_1,z11_2,z11_3,z11_4,z11_5,z11_6⟩:=bx7f BK101.out;go_wp2_with (first|((with_reducible refine jq (f:=45) rfl ?_);refine goesL_ (some 6) rfl rfl Tryz.func45 (by kernel_rfl) rfl #[.string a0_0] rfl (by(try simp only[jq0,jq1,jq2]);first|done|rfl|(simp only[jq3,jq4];rfl)) ?_;(with_reducible refine(qkv.calls k a0_0 false _ A4.out).mono ?_);rintro e w' ⟨rfl,⟨nd,rfl⟩⟩;refine⟨_,rfl,?_⟩))
   go_meet
   case rel=>exact⟨_,(true),(by first|rfl|(simp;done)|(simp[*];done)|(generalize ByteArray.toList _=l_;cases l_ <;> first|rfl|(simp;done))),H',⟨by first|omega|exact Nat.le_refl _⟩,⟨by(with_reducible repeat(first|refine qv ?_ _|refine qw ?_|refine qk ?_ _));exact BK101.out⟩,⟨by solve_by_elim (maxDepth:=20) only[HB.out,J,L,I,qj,GE101.out]⟩⟩
 case rest =>
  clear HC2;try clear c2
  try clear p2
  try clear c4
  try clear c5
  try clear c6
  try clear c6b0
  try clear c6b1
  try clear y10_0 y10_1 y10_2 y10_3 y10_4 y10_5 y10_6 z10_0 z10_1 z10_2 z10_3 z10_4 z10_5 z10_6
  try clear y11_0 y11_1 y11_2 y11_3 y11_4 y11_5 y11_6 z11_0 z11_1 z11_2 z11_3 z11_4 z11_5 z11_6
  try clear y8_0 y8_1 y8_2 y8_3 y8_4 y8_5 y8_6 z8_0 z8_1 z8_2 z8_3 z8_4 z8_5 z8_6
  obtain⟨kq,x18_1,rfl,HA,HJ1,BK101,HB⟩:=hcut
  cases kq with
  | zero=>exact absurd HA.out (by simp[qvq.j0])
  | succ kj1 =>
   have H:=HA.out;clear HA;simp only[qvq.j0] at H
   by_cases c12:x18_1=true
   ·subst c12;have H1:(some false)=some r:=by rw[if_pos rfl] at H;exact H
    clear H;have H:=H1;clear H1;obtain rfl:=Option.some.inj H;go_wp2;go_ret
    exact⟨by first|rfl|(simp[*,zx,zw] <;> rfl),by solve_by_elim (maxDepth:=20) only[HB.out,J,L,I,qj,GE101.out]⟩
   ·replace c12:=jq9.mpr c12;subst c12;have H1:(if a0_1=1 then(if a0_3=2 then(some true) else(if a0_3=3 then(some true) else(if a0_3=5 then(some true) else(some (a0_3 == 7))))) else(if a0_1=2 then(if a0_3=2 then(some true) else(if a0_3=3 then(some true) else(if a0_3=5 then(some true) else(some (a0_3 == 7))))) else(if a0_1=3 then(if a0_3=2 then(some true) else(if a0_3=3 then(some true) else(if a0_3=5 then(some true) else(some (a0_3 == 7))))) else(if a0_1=4 then(some (a0_3 == 6)) else(some false)))))=some r:=by rw[if_neg (show ¬ (false=true) by decide)] at H;exact H
    clear H;have H:=H1;clear H1
    by_cases c13:a0_1=1
    ·rw[if_pos c13] at H;have c13b0:(a0_1 == 1)=true:=beq_iff_eq.mpr c13;have c13b1:(a0_1 != 1)=false:=bne_eq_false_iff_eq.mpr c13;clear c13
     by_cases c14:a0_3=2
     ·rw[if_pos c14] at H;have c14b0:(a0_3 == 2)=true:=beq_iff_eq.mpr c14;have c14b1:(a0_3 != 2)=false:=bne_eq_false_iff_eq.mpr c14;clear c14;obtain rfl:=Option.some.inj H;obtain⟨y15_0,y15_1,y15_2,y15_3,y15_4,y15_5,y15_6,z15_0,z15_1,z15_2,z15_3,z15_4,z15_5,z15_6⟩:=bx7f BK101.out;go_wp2;go_ret
      exact⟨by first|rfl|(simp[*,zx,zw] <;> rfl),by solve_by_elim (maxDepth:=20) only[HB.out,J,L,I,qj,GE101.out]⟩
     ·rw[if_neg c14] at H;have c14b0:(a0_3 == 2)=false:=beq_eq_false_iff_ne.mpr c14;have c14b1:(a0_3 != 2)=true:=bne_iff_ne.mpr c14
      by_cases c16:a0_3=3
      ·rw[if_pos c16] at H;have c16b0:(a0_3 == 3)=true:=beq_iff_eq.mpr c16;have c16b1:(a0_3 != 3)=false:=bne_eq_false_iff_eq.mpr c16;clear c16;obtain rfl:=Option.some.inj H;obtain⟨y17_0,y17_1,y17_2,y17_3,y17_4,y17_5,y17_6,z17_0,z17_1,z17_2,z17_3,z17_4,z17_5,z17_6⟩:=bx7f BK101.out;go_wp2;go_ret
       exact⟨by first|rfl|(simp[*,zx,zw] <;> rfl),by solve_by_elim (maxDepth:=20) only[HB.out,J,L,I,qj,GE101.out]⟩
      ·rw[if_neg c16] at H;have c16b0:(a0_3 == 3)=false:=beq_eq_false_iff_ne.mpr c16;have c16b1:(a0_3 != 3)=true:=bne_iff_ne.mpr c16
       by_cases c18:a0_3=5
       ·rw[if_pos c18] at H;have c18b0:(a0_3 == 5)=true:=beq_iff_eq.mpr c18;have c18b1:(a0_3 != 5)=false:=bne_eq_false_iff_eq.mpr c18;clear c18;obtain rfl:=Option.some.inj H;obtain⟨y19_0,y19_1,y19_2,y19_3,y19_4,y19_5,y19_6,z19_0,z19_1,z19_2,z19_3,z19_4,z19_5,z19_6⟩:=bx7f BK101.out;go_wp2;go_ret
        exact⟨by first|rfl|(simp[*,zx,zw] <;> rfl),by solve_by_elim (maxDepth:=20) only[HB.out,J,L,I,qj,GE101.out]⟩
       ·rw[if_neg c18] at H;have c18b0:(a0_3 == 5)=false:=beq_eq_false_iff_ne.mpr c18;have c18b1:(a0_3 != 5)=true:=bne_iff_ne.mpr c18;obtain rfl:=Option.some.inj H;obtain⟨y20_0,y20_1,y20_2,y20_3,y20_4,y20_5,y20_6,z20_0,z20_1,z20_2,z20_3,z20_4,z20_5,z20_6⟩:=bx7f BK101.out;go_wp2;go_ret
        exact⟨by first|rfl|(simp[*,zx,zw] <;> rfl),by solve_by_elim (maxDepth:=20) only[HB.out,J,L,I,qj,GE101.out]⟩
    ·rw[if_neg c13] at H;have c13b0:(a0_1 == 1)=false:=beq_eq_false_iff_ne.mpr c13;have c13b1:(a0_1 != 1)=true:=bne_iff_ne.mpr c13
     by_cases c21:a0_1=2
     ·rw[if_pos c21] at H;have c21b0:(a0_1 == 2)=true:=beq_iff_eq.mpr c21;have c21b1:(a0_1 != 2)=false:=bne_eq_false_iff_eq.mpr c21;clear c21
      by_cases c22:a0_3=2
      ·rw[if_pos c22] at H;have c22b0:(a0_3 == 2)=true:=beq_iff_eq.mpr c22;have c22b1:(a0_3 != 2)=false:=bne_eq_false_iff_eq.mpr c22;clear c22;obtain rfl:=Option.some.inj H;obtain⟨y23_0,y23_1,y23_2,y23_3,y23_4,y23_5,y23_6,z23_0,z23_1,z23_2,z23_3,z23_4,z23_5,z23_6⟩:=bx7f BK101.out;go_wp2;go_ret
       exact⟨by first|rfl|(simp[*,zx,zw] <;> rfl),by solve_by_elim (maxDepth:=20) only[HB.out,J,L,I,qj,GE101.out]⟩
      ·rw[if_neg c22] at H;have c22b0:(a0_3 == 2)=false:=beq_eq_false_iff_ne.mpr c22;have c22b1:(a0_3 != 2)=true:=bne_iff_ne.mpr c22
       by_cases c24:a0_3=3
       ·rw[if_pos c24] at H;have c24b0:(a0_3 == 3)=true:=beq_iff_eq.mpr c24;have c24b1:(a0_3 != 3)=false:=bne_eq_false_iff_eq.mpr c24;clear c24;obtain rfl:=Option.some.inj H;obtain⟨y25_0,y25_1,y25_2,y25_3,y25_4,y25_5,y25_6,z25_0,z25_1,z25_2,z25_3,z25_4,z25_5,z25_6⟩:=bx7f BK101.out;go_wp2;go_ret
        exact⟨by first|rfl|(simp[*,zx,zw] <;> rfl),by solve_by_elim (maxDepth:=20) only[HB.out,J,L,I,qj,GE101.out]⟩
       ·rw[if_neg c24] at H;have c24b0:(a0_3 == 3)=false:=beq_eq_false_iff_ne.mpr c24;have c24b1:(a0_3 != 3)=true:=bne_iff_ne.mpr c24
        by_cases c26:a0_3=5
        ·rw[if_pos c26] at H;have c26b0:(a0_3 == 5)=true:=beq_iff_eq.mpr c26;have c26b1:(a0_3 != 5)=false:=bne_eq_false_iff_eq.mpr c26;clear c26;obtain rfl:=Option.some.inj H;obtain⟨y27_0,y27_1,y27_2,y27_3,y27_4,y27_5,y27_6,z27_0,z27_1,z27_2,z27_3,z27_4,z27_5,z27_6⟩:=bx7f BK101.out;go_wp2;go_ret
         exact⟨by first|rfl|(simp[*,zx,zw] <;> rfl),by solve_by_elim (maxDepth:=20) only[HB.out,J,L,I,qj,GE101.out]⟩
        ·rw[if_neg c26] at H;have c26b0:(a0_3 == 5)=false:=beq_eq_false_iff_ne.mpr c26;have c26b1:(a0_3 != 5)=true:=bne_iff_ne.mpr c26;obtain rfl:=Option.some.inj H;obtain⟨y28_0,y28_1,y28_2,y28_3,y28_4,y28_5,y28_6,z28_0,z28_1,z28_2,z28_3,z28_4,z28_5,z28_6⟩:=bx7f BK101.out;go_wp2;go_ret
         exact⟨by first|rfl|(simp[*,zx,zw] <;> rfl),by solve_by_elim (maxDepth:=20) only[HB.out,J,L,I,qj,GE101.out]⟩
     ·rw[if_neg c21] at H;have c21b0:(a0_1 == 2)=false:=beq_eq_false_iff_ne.mpr c21;have c21b1:(a0_1 != 2)=true:=bne_iff_ne.mpr c21
      by_cases c29:a0_1=3
      ·rw[if_pos c29] at H;have c29b0:(a0_1 == 3)=true:=beq_iff_eq.mpr c29;have c29b1:(a0_1 != 3)=false:=bne_eq_false_iff_eq.mpr c29;clear c29
       by_cases c30:a0_3=2
       ·rw[if_pos c30] at H;have c30b0:(a0_3 == 2)=true:=beq_iff_eq.mpr c30;have c30b1:(a0_3 != 2)=false:=bne_eq_false_iff_eq.mpr c30;clear c30;obtain rfl:=Option.some.inj H;obtain⟨y31_0,y31_1,y31_2,y31_3,y31_4,y31_5,y31_6,z31_0,z31_1,z31_2,z31_3,z31_4,z31_5,z31_6⟩:=bx7f BK101.out;go_wp2;go_ret
        exact⟨by first|rfl|(simp[*,zx,zw] <;> rfl),by solve_by_elim (maxDepth:=20) only[HB.out,J,L,I,qj,GE101.out]⟩
       ·rw[if_neg c30] at H;have c30b0:(a0_3 == 2)=false:=beq_eq_false_iff_ne.mpr c30;have c30b1:(a0_3 != 2)=true:=bne_iff_ne.mpr c30
        by_cases c32:a0_3=3
        ·rw[if_pos c32] at H;have c32b0:(a0_3 == 3)=true:=beq_iff_eq.mpr c32;have c32b1:(a0_3 != 3)=false:=bne_eq_false_iff_eq.mpr c32;clear c32;obtain rfl:=Option.some.inj H;obtain⟨y33_0,y33_1,y33_2,y33_3,y33_4,y33_5,y33_6,z33_0,z33_1,z33_2,z33_3,z33_4,z33_5,z33_6⟩:=bx7f BK101.out;go_wp2;go_ret
         exact⟨by first|rfl|(simp[*,zx,zw] <;> rfl),by solve_by_elim (maxDepth:=20) only[HB.out,J,L,I,qj,GE101.out]⟩
        ·rw[if_neg c32] at H;have c32b0:(a0_3 == 3)=false:=beq_eq_false_iff_ne.mpr c32;have c32b1:(a0_3 != 3)=true:=bne_iff_ne.mpr c32
         by_cases c34:a0_3=5
         ·rw[if_pos c34] at H;have c34b0:(a0_3 == 5)=true:=beq_iff_eq.mpr c34;have c34b1:(a0_3 != 5)=false:=bne_eq_false_iff_eq.mpr c34;clear c34;obtain rfl:=Option.some.inj H;obtain⟨y35_0,y35_1,y35_2,y35_3,y35_4,y35_5,y35_6,z35_0,z35_1,z35_2,z35_3,z35_4,z35_5,z35_6⟩:=bx7f BK101.out;go_wp2;go_ret
          exact⟨by first|rfl|(simp[*,zx,zw] <;> rfl),by solve_by_elim (maxDepth:=20) only[HB.out,J,L,I,qj,GE101.out]⟩
         ·rw[if_neg c34] at H;have c34b0:(a0_3 == 5)=false:=beq_eq_false_iff_ne.mpr c34;have c34b1:(a0_3 != 5)=true:=bne_iff_ne.mpr c34;obtain rfl:=Option.some.inj H;obtain⟨y36_0,y36_1,y36_2,y36_3,y36_4,y36_5,y36_6,z36_0,z36_1,z36_2,z36_3,z36_4,z36_5,z36_6⟩:=bx7f BK101.out;go_wp2;go_ret
          exact⟨by first|rfl|(simp[*,zx,zw] <;> rfl),by solve_by_elim (maxDepth:=20) only[HB.out,J,L,I,qj,GE101.out]⟩
      ·rw[if_neg c29] at H;have c29b0:(a0_1 == 3)=false:=beq_eq_false_iff_ne.mpr c29;have c29b1:(a0_1 != 3)=true:=bne_iff_ne.mpr c29
       by_cases c37:a0_1=4
       ·rw[if_pos c37] at H;have c37b0:(a0_1 == 4)=true:=beq_iff_eq.mpr c37;have c37b1:(a0_1 != 4)=false:=bne_eq_false_iff_eq.mpr c37;clear c37;obtain rfl:=Option.some.inj H;obtain⟨y38_0,y38_1,y38_2,y38_3,y38_4,y38_5,y38_6,z38_0,z38_1,z38_2,z38_3,z38_4,z38_5,z38_6⟩:=bx7f BK101.out;go_wp2;go_ret
        exact⟨by first|rfl|(simp[*,zx,zw] <;> rfl),by solve_by_elim (maxDepth:=20) only[HB.out,J,L,I,qj,GE101.out]⟩
       ·rw[if_neg c37] at H;have c37b0:(a0_1 == 4)=false:=beq_eq_false_iff_ne.mpr c37;have c37b1:(a0_1 != 4)=true:=bne_iff_ne.mpr c37;obtain rfl:=Option.some.inj H;obtain⟨y39_0,y39_1,y39_2,y39_3,y39_4,y39_5,y39_6,z39_0,z39_1,z39_2,z39_3,z39_4,z39_5,z39_6⟩:=bx7f BK101.out;go_wp2;go_ret
        exact⟨by first|rfl|(simp[*,zx,zw] <;> rfl),by solve_by_elim (maxDepth:=20) only[HB.out,J,L,I,qj,GE101.out]⟩
end Go.Proofs.YtnbbbjfjkhglhaaGreatDoor.Pr
namespace Go.Proofs.YtnbbbjfjkhglhaaGreatDoor.Pr
open Go.RowKit Go.Proofs.YtnbbbjfjkhglhaaGreatDoorW.PrintWords Go.Proofs.YtnbbbjfjkhglhaaGreatDoorW.PrintLast Go.Proofs.YtnbbbjfjkhglhaaGreatDoorW.PrintMore
attribute [local go_sem] max2_int min2_int max_two min_two max_three min_three max_four min_four
set_option linter.unusedVariables false
set_option linter.unusedSimpArgs false
def qxj.l0:Nat→ByteArray→Int→Option (Bool)
 | 0,_,_=>none
 | k + 1,x0,x3=>if x3 < (x0.size:Int) then(if 0≤x3 then((qvk.f (bt x0 x3)).bind fun t101=>(if t101=true then(qxj.l0 k x0 (wrap64 (x3 + 1))) else((qvj.f (bt x0 x3)).bind fun t102=>(if t102=true then(qxj.l0 k x0 (wrap64 (x3 + 1))) else(if (bt x0 x3)=95 then(qxj.l0 k x0 (wrap64 (x3 + 1))) else(if (bt x0 x3)=45 then(qxj.l0 k x0 (wrap64 (x3 + 1))) else(if (bt x0 x3)=46 then(qxj.l0 k x0 (wrap64 (x3 + 1))) else(some false)))))))) else(none)) else(if (x0.size:Int) ≥ 1 then(some (decide ((x0.size:Int)≤40))) else(some false))
def qxj.f (k:Nat) (a0:ByteArray):Option (Bool):=qxj.l0 k a0 0
theorem qxj.calls (k:Nat) (a0:ByteArray) (r:Bool) (w:World) (h:qxj.f k a0=some r) :
  Calls Tryz.prog 58 #[.string a0] w fun e w'=>e=.returned (.bool r)∧Drawn0 w w':=by
 have H:(qxj.l0 k a0 0)=some r:=h;clear h;have H':=O.mk H;clear H;go_enter Tryz.func58,Tryz.ntmps58;go_wp2
 go_loopg [3] k (fun kq v3 w'=>∃ (x3_1:Int),v3=.int .i64 x3_1∧O (qxj.l0 kq a0 x3_1=some r)∧O (kq≤k)∧Drawn0 w w')
 case atStart=>exact⟨(0),(by first|rfl|(simp;done)|(simp[*];done)),H',⟨Nat.le_refl _⟩,by repeat(first|exact Drawn0.refl _|apply Drawn0.step)⟩
 case round =>
  clear H';obtain⟨x3_1,rfl,HA,HK1,⟨m1,rfl⟩⟩:=hrel
  cases gk with
  | zero=>exact absurd HA.out (by simp[qxj.l0])
  | succ k1 =>
   have H:=HA.out;clear HA;simp only[qxj.l0] at H
   by_cases c2:x3_1 < (a0.size:Int)
   ·rw[if_pos c2] at H;have c2b0:decide (x3_1 < (a0.size:Int))=true:=decide_eq_true c2;clear c2
    by_cases c3 : 0≤x3_1
    ·rw[if_pos c3] at H;have c3b0:decide (0≤x3_1)=true:=decide_eq_true c3;clear c3;replace H:=jq8.mp H;obtain⟨t101,A50,H⟩:=H;try dsimp only at H
     have A5:=O.mk A50;clear A50
     by_cases c6:t101=true
     ·subst c6;have H1:(qxj.l0 k1 a0 (wrap64 (x3_1 + 1)))=some r:=by rw[if_pos rfl] at H;exact H
      clear H;have H:=H1;clear H1;have H':=O.mk H;clear H;have p4 : 0≤(x3_1:Int):=of_decide_eq_true (by assumption);have q4:x3_1 < (a0.size:Int):=of_decide_eq_true (by assumption);have hx4:=bt_at a0 x3_1;replace p4:=eq_true p4;replace q4:=eq_true q4;go_wp2_with (first|((with_reducible refine jq (f:=71) rfl ?_);refine goesL_ (some 13) rfl rfl Tryz.func71 (by kernel_rfl) rfl #[.int .u8 (bt a0 x3_1)] rfl (by(try simp only[jq0,jq1,jq2]);first|done|rfl|(simp only[jq3,jq4];rfl)) ?_;(with_reducible refine(qvk.calls (bt a0 x3_1) true _ A5.out).mono ?_);rintro e w' ⟨rfl,⟨nd,rfl⟩⟩;refine⟨_,rfl,?_⟩))
      go_roundg k1
      case measure=>have:=HK1.out;omega
      case rel=>exact⟨(wrap64 (x3_1 + 1)),(by first|rfl|(simp;done)|(simp[*];done)),H',⟨by have:=HK1.out;omega⟩,by repeat(first|exact Drawn0.refl _|apply Drawn0.step)⟩
     ·replace c6:=jq9.mpr c6;subst c6;have H1:((qvj.f (bt a0 x3_1)).bind fun t102=>(if t102=true then(qxj.l0 k1 a0 (wrap64 (x3_1 + 1))) else(if (bt a0 x3_1)=95 then(qxj.l0 k1 a0 (wrap64 (x3_1 + 1))) else(if (bt a0 x3_1)=45 then(qxj.l0 k1 a0 (wrap64 (x3_1 + 1))) else(if (bt a0 x3_1)=46 then(qxj.l0 k1 a0 (wrap64 (x3_1 + 1))) else(some false))))))=some r:=by rw[if_neg (show ¬ (false=true) by decide)] at H;exact H
      clear H;have H:=H1;clear H1;replace H:=jq8.mp H;obtain⟨t102,A80,H⟩:=H;try dsimp only at H
      have A8:=O.mk A80;clear A80
      by_cases c9:t102=true
      ·subst c9;have H1:(qxj.l0 k1 a0 (wrap64 (x3_1 + 1)))=some r:=by rw[if_pos rfl] at H;exact H
       clear H;have H:=H1;clear H1;have H':=O.mk H;clear H;have p4 : 0≤(x3_1:Int):=of_decide_eq_true (by assumption);have q4:x3_1 < (a0.size:Int):=of_decide_eq_true (by assumption);have hx4:=bt_at a0 x3_1;replace p4:=eq_true p4;replace q4:=eq_true q4;go_wp2_with (first|((with_reducible refine jq (f:=71) rfl ?_);refine goesL_ (some 13) rfl rfl Tryz.func71 (by kernel_rfl) rfl #[.int .u8 (bt a0 x3_1)] rfl (by(try simp only[jq0,jq1,jq2]);first|done|rfl|(simp only[jq3,jq4];rfl)) ?_;(with_reducible refine(qvk.calls (bt a0 x3_1) false _ A5.out).mono ?_);rintro e w' ⟨rfl,⟨nd,rfl⟩⟩;refine⟨_,rfl,?_⟩;have p7 : 0≤(x3_1:Int):=of_decide_eq_true (by assumption);have q7:x3_1 < (a0.size:Int):=of_decide_eq_true (by assumption);have hx7:=bt_at a0 x3_1;replace p7:=eq_true p7;replace q7:=eq_true q7)|(go_at_call 70;(with_reducible refine(qvj.calls (bt a0 x3_1) true _ A8.out).mono ?_);rintro e w' ⟨rfl,⟨nd,rfl⟩⟩))
       go_roundg k1
       case measure=>have:=HK1.out;omega
       case rel=>exact⟨(wrap64 (x3_1 + 1)),(by first|rfl|(simp;done)|(simp[*];done)),H',⟨by have:=HK1.out;omega⟩,by repeat(first|exact Drawn0.refl _|apply Drawn0.step)⟩
      ·replace c9:=jq9.mpr c9;subst c9;have H1:(if (bt a0 x3_1)=95 then(qxj.l0 k1 a0 (wrap64 (x3_1 + 1))) else(if (bt a0 x3_1)=45 then(qxj.l0 k1 a0 (wrap64 (x3_1 + 1))) else(if (bt a0 x3_1)=46 then(qxj.l0 k1 a0 (wrap64 (x3_1 + 1))) else(some false))))=some r:=by rw[if_neg (show ¬ (false=true) by decide)] at H;exact H
       clear H;have H:=H1;clear H1
       by_cases c11:(bt a0 x3_1)=95
       ·rw[if_pos c11] at H;have c11b0:((bt a0 x3_1) == 95)=true:=beq_iff_eq.mpr c11;have c11b1:((bt a0 x3_1) != 95)=false:=bne_eq_false_iff_eq.mpr c11;clear c11;have H':=O.mk H;clear H;have p4 : 0≤(x3_1:Int):=of_decide_eq_true (by assumption);have q4:x3_1 < (a0.size:Int):=of_decide_eq_true (by assumption);have hx4:=bt_at a0 x3_1;replace p4:=eq_true p4;replace q4:=eq_true q4;go_wp2_with (first|((with_reducible refine jq (f:=71) rfl ?_);refine goesL_ (some 13) rfl rfl Tryz.func71 (by kernel_rfl) rfl #[.int .u8 (bt a0 x3_1)] rfl (by(try simp only[jq0,jq1,jq2]);first|done|rfl|(simp only[jq3,jq4];rfl)) ?_;(with_reducible refine(qvk.calls (bt a0 x3_1) false _ A5.out).mono ?_);rintro e w' ⟨rfl,⟨nd,rfl⟩⟩;refine⟨_,rfl,?_⟩;have p7 : 0≤(x3_1:Int):=of_decide_eq_true (by assumption);have q7:x3_1 < (a0.size:Int):=of_decide_eq_true (by assumption);have hx7:=bt_at a0 x3_1;replace p7:=eq_true p7;replace q7:=eq_true q7)|(go_at_call 70;(with_reducible refine(qvj.calls (bt a0 x3_1) false _ A8.out).mono ?_);rintro e w' ⟨rfl,⟨nd,rfl⟩⟩;have p10 : 0≤(x3_1:Int):=of_decide_eq_true (by assumption);have q10:x3_1 < (a0.size:Int):=of_decide_eq_true (by assumption);have hx10:=bt_at a0 x3_1;replace p10:=eq_true p10;replace q10:=eq_true q10))
        go_roundg k1
        case measure=>have:=HK1.out;omega
        case rel=>exact⟨(wrap64 (x3_1 + 1)),(by first|rfl|(simp;done)|(simp[*];done)),H',⟨by have:=HK1.out;omega⟩,by repeat(first|exact Drawn0.refl _|apply Drawn0.step)⟩
       ·rw[if_neg c11] at H;have c11b0:((bt a0 x3_1) == 95)=false:=beq_eq_false_iff_ne.mpr c11;have c11b1:((bt a0 x3_1) != 95)=true:=bne_iff_ne.mpr c11
        by_cases c13:(bt a0 x3_1)=45
        ·rw[if_pos c13] at H;have c13b0:((bt a0 x3_1) == 45)=true:=beq_iff_eq.mpr c13;have c13b1:((bt a0 x3_1) != 45)=false:=bne_eq_false_iff_eq.mpr c13;clear c13;have H':=O.mk H;clear H;have p4 : 0≤(x3_1:Int):=of_decide_eq_true (by assumption);have q4:x3_1 < (a0.size:Int):=of_decide_eq_true (by assumption);have hx4:=bt_at a0 x3_1;replace p4:=eq_true p4;replace q4:=eq_true q4;go_wp2_with (first|((with_reducible refine jq (f:=71) rfl ?_);refine goesL_ (some 13) rfl rfl Tryz.func71 (by kernel_rfl) rfl #[.int .u8 (bt a0 x3_1)] rfl (by(try simp only[jq0,jq1,jq2]);first|done|rfl|(simp only[jq3,jq4];rfl)) ?_;(with_reducible refine(qvk.calls (bt a0 x3_1) false _ A5.out).mono ?_);rintro e w' ⟨rfl,⟨nd,rfl⟩⟩;refine⟨_,rfl,?_⟩;have p7 : 0≤(x3_1:Int):=of_decide_eq_true (by assumption);have q7:x3_1 < (a0.size:Int):=of_decide_eq_true (by assumption);have hx7:=bt_at a0 x3_1;replace p7:=eq_true p7;replace q7:=eq_true q7)|(go_at_call 70;(with_reducible refine(qvj.calls (bt a0 x3_1) false _ A8.out).mono ?_);rintro e w' ⟨rfl,⟨nd,rfl⟩⟩;have p10 : 0≤(x3_1:Int):=of_decide_eq_true (by assumption);have q10:x3_1 < (a0.size:Int):=of_decide_eq_true (by assumption);have hx10:=bt_at a0 x3_1;replace p10:=eq_true p10;replace q10:=eq_true q10;have p12 : 0≤(x3_1:Int):=of_decide_eq_true (by assumption);have q12:x3_1 < (a0.size:Int):=of_decide_eq_true (by assumption);have hx12:=bt_at a0 x3_1;replace p12:=eq_true p12;replace q12:=eq_true q12))
         go_roundg k1
         case measure=>have:=HK1.out;omega
         case rel=>exact⟨(wrap64 (x3_1 + 1)),(by first|rfl|(simp;done)|(simp[*];done)),H',⟨by have:=HK1.out;omega⟩,by repeat(first|exact Drawn0.refl _|apply Drawn0.step)⟩
        ·rw[if_neg c13] at H;have c13b0:((bt a0 x3_1) == 45)=false:=beq_eq_false_iff_ne.mpr c13;have c13b1:((bt a0 x3_1) != 45)=true:=bne_iff_ne.mpr c13
         by_cases c15:(bt a0 x3_1)=46
         ·rw[if_pos c15] at H;have c15b0:((bt a0 x3_1) == 46)=true:=beq_iff_eq.mpr c15;have c15b1:((bt a0 x3_1) != 46)=false:=bne_eq_false_iff_eq.mpr c15;clear c15;have H':=O.mk H;clear H;have p4 : 0≤(x3_1:Int):=of_decide_eq_true (by assumption);have q4:x3_1 < (a0.size:Int):=of_decide_eq_true (by assumption);have hx4:=bt_at a0 x3_1;replace p4:=eq_true p4;replace q4:=eq_true q4;go_wp2_with (first|((with_reducible refine jq (f:=71) rfl ?_);refine goesL_ (some 13) rfl rfl Tryz.func71 (by kernel_rfl) rfl #[.int .u8 (bt a0 x3_1)] rfl (by(try simp only[jq0,jq1,jq2]);first|done|rfl|(simp only[jq3,jq4];rfl)) ?_;(with_reducible refine(qvk.calls (bt a0 x3_1) false _ A5.out).mono ?_);rintro e w' ⟨rfl,⟨nd,rfl⟩⟩;refine⟨_,rfl,?_⟩;have p7 : 0≤(x3_1:Int):=of_decide_eq_true (by assumption);have q7:x3_1 < (a0.size:Int):=of_decide_eq_true (by assumption);have hx7:=bt_at a0 x3_1;replace p7:=eq_true p7;replace q7:=eq_true q7)|(go_at_call 70;(with_reducible refine(qvj.calls (bt a0 x3_1) false _ A8.out).mono ?_);rintro e w' ⟨rfl,⟨nd,rfl⟩⟩;have p10 : 0≤(x3_1:Int):=of_decide_eq_true (by assumption);have q10:x3_1 < (a0.size:Int):=of_decide_eq_true (by assumption);have hx10:=bt_at a0 x3_1;replace p10:=eq_true p10;replace q10:=eq_true q10;have p12 : 0≤(x3_1:Int):=of_decide_eq_true (by assumption);have q12:x3_1 < (a0.size:Int):=of_decide_eq_true (by assumption);have hx12:=bt_at a0 x3_1;replace p12:=eq_true p12;replace q12:=eq_true q12;have p14 : 0≤(x3_1:Int):=of_decide_eq_true (by assumption);have q14:x3_1 < (a0.size:Int):=of_decide_eq_true (by assumption);have hx14:=bt_at a0 x3_1;replace p14:=eq_true p14;replace q14:=eq_true q14))
          go_roundg k1
          case measure=>have:=HK1.out;omega
          case rel=>exact⟨(wrap64 (x3_1 + 1)),(by first|rfl|(simp;done)|(simp[*];done)),H',⟨by have:=HK1.out;omega⟩,by repeat(first|exact Drawn0.refl _|apply Drawn0.step)⟩
         ·rw[if_neg c15] at H;have c15b0:((bt a0 x3_1) == 46)=false:=beq_eq_false_iff_ne.mpr c15;have c15b1:((bt a0 x3_1) != 46)=true:=bne_iff_ne.mpr c15;obtain rfl:=Option.some.inj H;have p4 : 0≤(x3_1:Int):=of_decide_eq_true (by assumption);have q4:x3_1 < (a0.size:Int):=of_decide_eq_true (by assumption);have hx4:=bt_at a0 x3_1;replace p4:=eq_true p4;replace q4:=eq_true q4;go_wp2_with (first|((with_reducible refine jq (f:=71) rfl ?_);refine goesL_ (some 13) rfl rfl Tryz.func71 (by kernel_rfl) rfl #[.int .u8 (bt a0 x3_1)] rfl (by(try simp only[jq0,jq1,jq2]);first|done|rfl|(simp only[jq3,jq4];rfl)) ?_;(with_reducible refine(qvk.calls (bt a0 x3_1) false _ A5.out).mono ?_);rintro e w' ⟨rfl,⟨nd,rfl⟩⟩;refine⟨_,rfl,?_⟩;have p7 : 0≤(x3_1:Int):=of_decide_eq_true (by assumption);have q7:x3_1 < (a0.size:Int):=of_decide_eq_true (by assumption);have hx7:=bt_at a0 x3_1;replace p7:=eq_true p7;replace q7:=eq_true q7)|(go_at_call 70;(with_reducible refine(qvj.calls (bt a0 x3_1) false _ A8.out).mono ?_);rintro e w' ⟨rfl,⟨nd,rfl⟩⟩;have p10 : 0≤(x3_1:Int):=of_decide_eq_true (by assumption);have q10:x3_1 < (a0.size:Int):=of_decide_eq_true (by assumption);have hx10:=bt_at a0 x3_1;replace p10:=eq_true p10;replace q10:=eq_true q10;have p12 : 0≤(x3_1:Int):=of_decide_eq_true (by assumption);have q12:x3_1 < (a0.size:Int):=of_decide_eq_true (by assumption);have hx12:=bt_at a0 x3_1;replace p12:=eq_true p12;replace q12:=eq_true q12;have p14 : 0≤(x3_1:Int):=of_decide_eq_true (by assumption);have q14:x3_1 < (a0.size:Int):=of_decide_eq_true (by assumption);have hx14:=bt_at a0 x3_1;replace p14:=eq_true p14;replace q14:=eq_true q14))
          go_ret
          exact⟨by first|rfl|(simp;done)|(simp[*];done),by repeat(first|exact Drawn0.refl _|apply Drawn0.step)⟩
    ·rw[if_neg c3] at H;exact absurd H (by simp)
   ·rw[if_neg c2] at H;have c2b0:decide (x3_1 < (a0.size:Int))=false:=decide_eq_false c2;clear c2
    by_cases c16:(a0.size:Int) ≥ 1
    ·rw[if_pos c16] at H;have c16b0:decide (1≤(a0.size:Int))=true:=decide_eq_true c16;have c16b1:decide (1≤a0.size)=true:=decide_eq_true (by omega);clear c16;obtain rfl:=Option.some.inj H;go_wp2;go_ret
     exact⟨by first|rfl|(simp;done)|(simp[*];done),by repeat(first|exact Drawn0.refl _|apply Drawn0.step)⟩
    ·rw[if_neg c16] at H;have c16b0:decide (1≤(a0.size:Int))=false:=decide_eq_false c16;have c16b1:decide (1≤a0.size)=false:=decide_eq_false (by omega);clear c16;obtain rfl:=Option.some.inj H;go_wp2;go_ret
     exact⟨by first|rfl|(simp;done)|(simp[*];done),by repeat(first|exact Drawn0.refl _|apply Drawn0.step)⟩
end Go.Proofs.YtnbbbjfjkhglhaaGreatDoor.Pr
namespace Go.Proofs.YtnbbbjfjkhglhaaGreatDoor.Pr
open Go.RowKit Go.Proofs.YtnbbbjfjkhglhaaGreatDoorW.PrintWords Go.Proofs.YtnbbbjfjkhglhaaGreatDoorW.PrintLast Go.Proofs.YtnbbbjfjkhglhaaGreatDoorW.PrintMore
attribute [local go_sem] max2_int min2_int max_two min_two max_three min_three max_four min_four
set_option linter.unusedVariables false
set_option linter.unusedSimpArgs false
def qkx.l0:Nat→List (S30)→Int→Int→ByteArray→List (S30)→List Int→Option (Bool)
 | 0,_,_,_,_,_,_=>none
 | k + 1,x6,x7,x8,x102000,x102001,x102002=>if x8 < x7 then(if 0≤x8 then(if x8 < (x6.length:Int) then((qvq.f k ((kw x6 x8).f0) ((kw x6 x8).f1) ((kw x6 x8).f2) ((kw x6 x8).f3.f0) ((kw x6 x8).f3.f1) ((kw x6 x8).f3.f2) ((kw x6 x8).f3.f3)).bind fun t104=>(if t104=true then(qkx.l0 k x6 x7 (wrap64 (x8 + 1)) x102000 x102001 x102002) else(some false))) else(none)) else(none)) else((qxj.f k x102000).bind fun t105=>(if t105=true then(if (x102001.length:Int)≤20 then(some ((x102002.length:Int) == 16)) else(some false)) else(some false)))
def qkx.f (k:Nat) (a0_0:ByteArray) (l0_1:List (S30)) (l0_2:List Int):Option (Bool):=qkx.l0 k l0_1 (l0_1.length:Int) 0 a0_0 l0_1 l0_2
theorem qkx.calls (k:Nat) (a0_0:ByteArray) (A0_1:Option Addr) (c0_1:Nat) (l0_1:List (S30)) (A0_2:Option Addr) (c0_2:Nat) (l0_2:List Int) (r:Bool) (w:World) (hr0_1:Kd.C k30 w A0_1 l0_1.length l0_1) (hc0_1:l0_1.length≤c0_1) (hr0_2:Kd.C (Kd.int .u8) w A0_2 l0_2.length l0_2) (hc0_2:l0_2.length≤c0_2) (h:qkx.f k a0_0 l0_1 l0_2=some r) :
  Calls Tryz.prog 28 #[.agg #[.string a0_0,.slice A0_1 l0_1.length c0_1,.slice A0_2 l0_2.length c0_2]] w fun e w'=>e=.returned (.bool r)∧Below w.heap.size w w':=by
 have hu41:=Tryz.underlying41;have hu30:=Tryz.underlying30;have HR0_1:=O.mk hr0_1;have HC0_1:=O.mk hc0_1;clear hr0_1 hc0_1;have HR0_2:=O.mk hr0_2;have HC0_2:=O.mk hc0_2;clear hr0_2 hc0_2;have HB:=O.mk (Below.refl w.heap.size w);have H:(qkx.l0 k l0_1 (l0_1.length:Int) 0 a0_0 l0_1 l0_2)=some r:=h;clear h;have H':=O.mk H;clear H;go_enter Tryz.func28,Tryz.ntmps28;go_wp2_with (first|((with_reducible refine gate_dst (N:=1) rfl ?_);(try (refine gate_guard (by rfl) ?_;dsimp only));refine box_event ?hg (N:=1) ?hd (cs:=#[.string a0_0,.slice A0_1 l0_1.length c0_1,.slice A0_2 l0_2.length c0_2]) (t:=41) ?hr ?_;(case hd=>rfl);(case hg=>rfl);(case hr=>first|(go_simp;done)|(go_simp;rfl));intro gb101 hg w2 hbox hb;have BK101:=O.mk (hbox);have GW101:=O.mk ((by rw[hg];exact(zz (by solve_by_elim only[HB.out,J,L,I])):w.heap.size≤gb101));have GE101:=GW101;replace HB:=O.mk (zq (by solve_by_elim only[HB.out,J,L,I]) hb);clear hb hbox hg;obtain⟨y3_0,y3_1,y3_2,z3_0,z3_1,z3_2⟩:=bx3f BK101.out))
 go_loopg [8] k (fun kq v8 w'=>∃ (x8_1:Int),v8=.int .i64 x8_1∧O (qkx.l0 kq l0_1 (l0_1.length:Int) x8_1 a0_0 l0_1 l0_2=some r)∧O (kq≤k)∧O (w'.heap[gb101]? = some (.cells #[.string a0_0,(.slice A0_1 l0_1.length c0_1),(.slice A0_2 l0_2.length c0_2)] 41 (0,0)))∧O (Below w.heap.size w w'))
 case atStart=>exact⟨(0),(by first|rfl|(simp;done)|(simp[*];done)),H',⟨Nat.le_refl _⟩,⟨by(with_reducible repeat(first|refine qv ?_ _|refine qw ?_|refine qk ?_ _));exact BK101.out⟩,⟨by solve_by_elim (maxDepth:=20) only[HB.out,J,L,I,qj,GE101.out]⟩⟩
 case round =>
  clear H';try clear c2
  try clear p2
  try clear y3_0 y3_1 y3_2 z3_0 z3_1 z3_2
  obtain⟨x8_1,rfl,HA,HK1,BK101,HB⟩:=hrel
  cases gk with
  | zero=>exact absurd HA.out (by simp[qkx.l0])
  | succ k1 =>
   have H:=HA.out;clear HA;simp only[qkx.l0] at H
   by_cases c4:x8_1 < (l0_1.length:Int)
   ·rw[if_pos c4] at H;have c4b0:decide (x8_1 < (l0_1.length:Int))=true:=decide_eq_true c4;clear c4
    by_cases c5 : 0≤x8_1
    ·rw[if_pos c5] at H;have c5b0:decide (0≤x8_1)=true:=decide_eq_true c5;clear c5
     by_cases c6:x8_1 < (l0_1.length:Int)
     ·rw[if_pos c6] at H;have c6b0:decide (x8_1 < (l0_1.length:Int))=true:=decide_eq_true c6;clear c6;replace H:=jq8.mp H;obtain⟨t104,A70,H⟩:=H;try dsimp only at H
      have A7:=O.mk A70;clear A70
      by_cases c8:t104=true
      ·subst c8;have H1:(qkx.l0 k1 l0_1 (l0_1.length:Int) (wrap64 (x8_1 + 1)) a0_0 l0_1 l0_2)=some r:=by rw[if_pos rfl] at H;exact H
       clear H;have H:=H1;clear H1;have H':=O.mk H;clear H;have p102 : 0≤(x8_1:Int):=of_decide_eq_true (by assumption);have q102:x8_1 < (l0_1.length:Int):=of_decide_eq_true (by assumption);obtain⟨ad102,e102,hx102_0,hx102_1,hx102_2,hx102_3,hx102_4,hx102_5,hx102_6⟩:=at_T30 HR0_1.out x8_1 p102 q102
       cases e102
       replace hx102_0:=(HB.out.cell (World.block_lt_of_cell? w _ hx102_0)).trans hx102_0;replace hx102_1:=(HB.out.cell (World.block_lt_of_cell? w _ hx102_1)).trans hx102_1;replace hx102_2:=(HB.out.cell (World.block_lt_of_cell? w _ hx102_2)).trans hx102_2;replace hx102_3:=(HB.out.cell (World.block_lt_of_cell? w _ hx102_3)).trans hx102_3;replace hx102_4:=(HB.out.cell (World.block_lt_of_cell? w _ hx102_4)).trans hx102_4;replace hx102_5:=(HB.out.cell (World.block_lt_of_cell? w _ hx102_5)).trans hx102_5;replace hx102_6:=(HB.out.cell (World.block_lt_of_cell? w _ hx102_6)).trans hx102_6;replace p102:=eq_true p102;replace q102:=eq_true q102;go_wp2_with (first|((with_reducible refine gate_dst (N:=4) rfl ?_);(try (refine gate_guard (by rfl) ?_;dsimp only));refine box_event ?hg (N:=4) ?hd (cs:=#[.string (⟨#[]⟩ : ByteArray),.int .i64 0,.string (⟨#[]⟩ : ByteArray),.int .i64 0,.int .i64 0,.string (⟨#[]⟩ : ByteArray),.string (⟨#[]⟩ : ByteArray)]) (t:=30) ?hr ?_;(case hd=>rfl);(case hg=>rfl);(case hr=>first|(go_simp;done)|(go_simp;rfl));intro gb103 hg w9 hbox hb;have BK103:=O.mk (hbox);have GW103:=O.mk ((by rw[hg];exact(zz (by solve_by_elim (maxDepth:=20) only[HB.out,J,L,I,qj,GE101.out])):w.heap.size≤gb103));have GE103:=GW103;replace HB:=O.mk (zq (by solve_by_elim (maxDepth:=20) only[HB.out,J,L,I,qj,GE101.out]) hb);have NB101_103:=O.mk ((by rw[hg];exact Nat.ne_of_lt (blk_lt (by solve_by_elim only[BK101.out,qv,qw,qk])):gb101≠gb103));have NB103_101:=O.mk ((by rw[hg];exact Nat.ne_of_gt (blk_lt (by solve_by_elim only[BK101.out,qv,qw,qk])):gb103≠gb101));replace BK101:=O.mk (kz (by solve_by_elim only[BK101.out,qv,qw,qk]) hb);clear hb hbox hg;have hnb10:=NB103_101.out;have hnc10:=NB101_103.out;obtain⟨y11_0,y11_1,y11_2,y11_3,y11_4,y11_5,y11_6,z11_0,z11_1,z11_2,z11_3,z11_4,z11_5,z11_6⟩:=bx7f BK103.out)|((with_reducible refine jq (f:=20) rfl ?_);refine goesL_ (some 13) rfl rfl Tryz.func20 (by kernel_rfl) rfl #[.agg #[.string ((kw l0_1 x8_1).f0),.int .i64 ((kw l0_1 x8_1).f1),.string ((kw l0_1 x8_1).f2),.int .i64 ((kw l0_1 x8_1).f3.f0),.int .i64 ((kw l0_1 x8_1).f3.f1),.string ((kw l0_1 x8_1).f3.f2),.string ((kw l0_1 x8_1).f3.f3)]] rfl (by(try simp only[jq0,jq1,jq2]);first|done|rfl|(simp only[jq3,jq4];rfl)) ?_;(with_reducible refine(qvq.calls k1 ((kw l0_1 x8_1).f0) ((kw l0_1 x8_1).f1) ((kw l0_1 x8_1).f2) ((kw l0_1 x8_1).f3.f0) ((kw l0_1 x8_1).f3.f1) ((kw l0_1 x8_1).f3.f2) ((kw l0_1 x8_1).f3.f3) true _ A7.out).mono ?_);rintro e w12 ⟨rfl,hb⟩;refine⟨_,rfl,?_⟩;replace BK101:=O.mk (kz (g:=gb101) (o:=.cells #[.string a0_0,.slice (some ad102) l0_1.length c0_1,.slice A0_2 l0_2.length c0_2] 41 (0,0)) (by(with_reducible repeat(first|refine qv ?_ _|refine qw ?_|refine qk ?_ _));refine blk_far ?_ NB101_103.out _;(with_reducible repeat(first|refine qv ?_ _|refine qw ?_|refine qk ?_ _));refine blk_far ?_ NB101_103.out _;(with_reducible repeat(first|refine qv ?_ _|refine qw ?_|refine qk ?_ _));refine blk_far ?_ NB101_103.out _;(with_reducible repeat(first|refine qv ?_ _|refine qw ?_|refine qk ?_ _));refine blk_far ?_ NB101_103.out _;(with_reducible repeat(first|refine qv ?_ _|refine qw ?_|refine qk ?_ _));refine blk_far ?_ NB101_103.out _;(with_reducible repeat(first|refine qv ?_ _|refine qw ?_|refine qk ?_ _));refine blk_far ?_ NB101_103.out _;(with_reducible repeat(first|refine qv ?_ _|refine qw ?_|refine qk ?_ _));refine blk_far ?_ NB101_103.out _;(with_reducible repeat(first|refine qv ?_ _|refine qw ?_|refine qk ?_ _));exact BK101.out) hb);replace BK103:=O.mk (kz (g:=gb103) (o:=.cells #[.string ((kw l0_1 x8_1).f0),.int .i64 ((kw l0_1 x8_1).f1),.string ((kw l0_1 x8_1).f2),.int .i64 ((kw l0_1 x8_1).f3.f0),.int .i64 ((kw l0_1 x8_1).f3.f1),.string ((kw l0_1 x8_1).f3.f2),.string ((kw l0_1 x8_1).f3.f3)] 30 (0,0)) (by(with_reducible repeat(first|refine qv ?_ _|refine qw ?_|refine qk ?_ _));refine blk_put (cs:=#[.string ((kw l0_1 x8_1).f0),.int .i64 ((kw l0_1 x8_1).f1),.string ((kw l0_1 x8_1).f2),.int .i64 ((kw l0_1 x8_1).f3.f0),.int .i64 ((kw l0_1 x8_1).f3.f1),.string ((kw l0_1 x8_1).f3.f2),.string (⟨#[]⟩ : ByteArray)]) ?_ 6 _ rfl;(with_reducible repeat(first|refine qv ?_ _|refine qw ?_|refine qk ?_ _));refine blk_put (cs:=#[.string ((kw l0_1 x8_1).f0),.int .i64 ((kw l0_1 x8_1).f1),.string ((kw l0_1 x8_1).f2),.int .i64 ((kw l0_1 x8_1).f3.f0),.int .i64 ((kw l0_1 x8_1).f3.f1),.string (⟨#[]⟩ : ByteArray),.string (⟨#[]⟩ : ByteArray)]) ?_ 5 _ rfl;(with_reducible repeat(first|refine qv ?_ _|refine qw ?_|refine qk ?_ _));refine blk_put (cs:=#[.string ((kw l0_1 x8_1).f0),.int .i64 ((kw l0_1 x8_1).f1),.string ((kw l0_1 x8_1).f2),.int .i64 ((kw l0_1 x8_1).f3.f0),.int .i64 0,.string (⟨#[]⟩ : ByteArray),.string (⟨#[]⟩ : ByteArray)]) ?_ 4 _ rfl;(with_reducible repeat(first|refine qv ?_ _|refine qw ?_|refine qk ?_ _));refine blk_put (cs:=#[.string ((kw l0_1 x8_1).f0),.int .i64 ((kw l0_1 x8_1).f1),.string ((kw l0_1 x8_1).f2),.int .i64 0,.int .i64 0,.string (⟨#[]⟩ : ByteArray),.string (⟨#[]⟩ : ByteArray)]) ?_ 3 _ rfl;(with_reducible repeat(first|refine qv ?_ _|refine qw ?_|refine qk ?_ _));refine blk_put (cs:=#[.string ((kw l0_1 x8_1).f0),.int .i64 ((kw l0_1 x8_1).f1),.string (⟨#[]⟩ : ByteArray),.int .i64 0,.int .i64 0,.string (⟨#[]⟩ : ByteArray),.string (⟨#[]⟩ : ByteArray)]) ?_ 2 _ rfl;(with_reducible repeat(first|refine qv ?_ _|refine qw ?_|refine qk ?_ _));refine blk_put (cs:=#[.string ((kw l0_1 x8_1).f0),.int .i64 0,.string (⟨#[]⟩ : ByteArray),.int .i64 0,.int .i64 0,.string (⟨#[]⟩ : ByteArray),.string (⟨#[]⟩ : ByteArray)]) ?_ 1 _ rfl;(with_reducible repeat(first|refine qv ?_ _|refine qw ?_|refine qk ?_ _));refine blk_put (cs:=#[.string (⟨#[]⟩ : ByteArray),.int .i64 0,.string (⟨#[]⟩ : ByteArray),.int .i64 0,.int .i64 0,.string (⟨#[]⟩ : ByteArray),.string (⟨#[]⟩ : ByteArray)]) ?_ 0 _ rfl;(with_reducible repeat(first|refine qv ?_ _|refine qw ?_|refine qk ?_ _));exact BK103.out) hb);replace HB:=O.mk (zq (by repeat(first|(with_reducible first|exact HB.out|apply J|apply L|apply I|refine qj ?_ GE101.out|refine qj ?_ GE103.out)|exact HB.out)) hb);(try clear hb)))
       go_roundg k1
       case measure=>have:=HK1.out;omega
       case rel=>exact⟨(wrap64 (x8_1 + 1)),(by first|rfl|(simp;done)|(simp[*];done)),H',⟨by have:=HK1.out;omega⟩,⟨by(with_reducible repeat(first|refine qv ?_ _|refine qw ?_|refine qk ?_ _));exact BK101.out⟩,⟨by repeat(first|(with_reducible first|exact HB.out|apply J|apply L|apply I|refine qj ?_ GE101.out|refine qj ?_ GE103.out)|exact HB.out)⟩⟩
      ·replace c8:=jq9.mpr c8;subst c8;have H1:(some false)=some r:=by rw[if_neg (show ¬ (false=true) by decide)] at H;exact H
       clear H;have H:=H1;clear H1;obtain rfl:=Option.some.inj H;have p102 : 0≤(x8_1:Int):=of_decide_eq_true (by assumption);have q102:x8_1 < (l0_1.length:Int):=of_decide_eq_true (by assumption);obtain⟨ad102,e102,hx102_0,hx102_1,hx102_2,hx102_3,hx102_4,hx102_5,hx102_6⟩:=at_T30 HR0_1.out x8_1 p102 q102
       cases e102
       replace hx102_0:=(HB.out.cell (World.block_lt_of_cell? w _ hx102_0)).trans hx102_0;replace hx102_1:=(HB.out.cell (World.block_lt_of_cell? w _ hx102_1)).trans hx102_1;replace hx102_2:=(HB.out.cell (World.block_lt_of_cell? w _ hx102_2)).trans hx102_2;replace hx102_3:=(HB.out.cell (World.block_lt_of_cell? w _ hx102_3)).trans hx102_3;replace hx102_4:=(HB.out.cell (World.block_lt_of_cell? w _ hx102_4)).trans hx102_4;replace hx102_5:=(HB.out.cell (World.block_lt_of_cell? w _ hx102_5)).trans hx102_5;replace hx102_6:=(HB.out.cell (World.block_lt_of_cell? w _ hx102_6)).trans hx102_6;replace p102:=eq_true p102;replace q102:=eq_true q102;go_wp2_with (first|((with_reducible refine gate_dst (N:=4) rfl ?_);(try (refine gate_guard (by rfl) ?_;dsimp only));refine box_event ?hg (N:=4) ?hd (cs:=#[.string (⟨#[]⟩ : ByteArray),.int .i64 0,.string (⟨#[]⟩ : ByteArray),.int .i64 0,.int .i64 0,.string (⟨#[]⟩ : ByteArray),.string (⟨#[]⟩ : ByteArray)]) (t:=30) ?hr ?_;(case hd=>rfl);(case hg=>rfl);(case hr=>first|(go_simp;done)|(go_simp;rfl));intro gb103 hg w13 hbox hb;have BK103:=O.mk (hbox);have GW103:=O.mk ((by rw[hg];exact(zz (by solve_by_elim (maxDepth:=20) only[HB.out,J,L,I,qj,GE101.out])):w.heap.size≤gb103));have GE103:=GW103;replace HB:=O.mk (zq (by solve_by_elim (maxDepth:=20) only[HB.out,J,L,I,qj,GE101.out]) hb);have NB101_103:=O.mk ((by rw[hg];exact Nat.ne_of_lt (blk_lt (by solve_by_elim only[BK101.out,qv,qw,qk])):gb101≠gb103));have NB103_101:=O.mk ((by rw[hg];exact Nat.ne_of_gt (blk_lt (by solve_by_elim only[BK101.out,qv,qw,qk])):gb103≠gb101));replace BK101:=O.mk (kz (by solve_by_elim only[BK101.out,qv,qw,qk]) hb);clear hb hbox hg;have hnb14:=NB103_101.out;have hnc14:=NB101_103.out;obtain⟨y15_0,y15_1,y15_2,y15_3,y15_4,y15_5,y15_6,z15_0,z15_1,z15_2,z15_3,z15_4,z15_5,z15_6⟩:=bx7f BK103.out)|((with_reducible refine jq (f:=20) rfl ?_);refine goesL_ (some 13) rfl rfl Tryz.func20 (by kernel_rfl) rfl #[.agg #[.string ((kw l0_1 x8_1).f0),.int .i64 ((kw l0_1 x8_1).f1),.string ((kw l0_1 x8_1).f2),.int .i64 ((kw l0_1 x8_1).f3.f0),.int .i64 ((kw l0_1 x8_1).f3.f1),.string ((kw l0_1 x8_1).f3.f2),.string ((kw l0_1 x8_1).f3.f3)]] rfl (by(try simp only[jq0,jq1,jq2]);first|done|rfl|(simp only[jq3,jq4];rfl)) ?_;(with_reducible refine(qvq.calls k1 ((kw l0_1 x8_1).f0) ((kw l0_1 x8_1).f1) ((kw l0_1 x8_1).f2) ((kw l0_1 x8_1).f3.f0) ((kw l0_1 x8_1).f3.f1) ((kw l0_1 x8_1).f3.f2) ((kw l0_1 x8_1).f3.f3) false _ A7.out).mono ?_);rintro e w16 ⟨rfl,hb⟩;refine⟨_,rfl,?_⟩;replace BK101:=O.mk (kz (g:=gb101) (o:=.cells #[.string a0_0,.slice (some ad102) l0_1.length c0_1,.slice A0_2 l0_2.length c0_2] 41 (0,0)) (by(with_reducible repeat(first|refine qv ?_ _|refine qw ?_|refine qk ?_ _));refine blk_far ?_ NB101_103.out _;(with_reducible repeat(first|refine qv ?_ _|refine qw ?_|refine qk ?_ _));refine blk_far ?_ NB101_103.out _;(with_reducible repeat(first|refine qv ?_ _|refine qw ?_|refine qk ?_ _));refine blk_far ?_ NB101_103.out _;(with_reducible repeat(first|refine qv ?_ _|refine qw ?_|refine qk ?_ _));refine blk_far ?_ NB101_103.out _;(with_reducible repeat(first|refine qv ?_ _|refine qw ?_|refine qk ?_ _));refine blk_far ?_ NB101_103.out _;(with_reducible repeat(first|refine qv ?_ _|refine qw ?_|refine qk ?_ _));refine blk_far ?_ NB101_103.out _;(with_reducible repeat(first|refine qv ?_ _|refine qw ?_|refine qk ?_ _));refine blk_far ?_ NB101_103.out _;(with_reducible repeat(first|refine qv ?_ _|refine qw ?_|refine qk ?_ _));exact BK101.out) hb);replace BK103:=O.mk (kz (g:=gb103) (o:=.cells #[.string ((kw l0_1 x8_1).f0),.int .i64 ((kw l0_1 x8_1).f1),.string ((kw l0_1 x8_1).f2),.int .i64 ((kw l0_1 x8_1).f3.f0),.int .i64 ((kw l0_1 x8_1).f3.f1),.string ((kw l0_1 x8_1).f3.f2),.string ((kw l0_1 x8_1).f3.f3)] 30 (0,0)) (by(with_reducible repeat(first|refine qv ?_ _|refine qw ?_|refine qk ?_ _));refine blk_put (cs:=#[.string ((kw l0_1 x8_1).f0),.int .i64 ((kw l0_1 x8_1).f1),.string ((kw l0_1 x8_1).f2),.int .i64 ((kw l0_1 x8_1).f3.f0),.int .i64 ((kw l0_1 x8_1).f3.f1),.string ((kw l0_1 x8_1).f3.f2),.string (⟨#[]⟩ : ByteArray)]) ?_ 6 _ rfl;(with_reducible repeat(first|refine qv ?_ _|refine qw ?_|refine qk ?_ _));refine blk_put (cs:=#[.string ((kw l0_1 x8_1).f0),.int .i64 ((kw l0_1 x8_1).f1),.string ((kw l0_1 x8_1).f2),.int .i64 ((kw l0_1 x8_1).f3.f0),.int .i64 ((kw l0_1 x8_1).f3.f1),.string (⟨#[]⟩ : ByteArray),.string (⟨#[]⟩ : ByteArray)]) ?_ 5 _ rfl;(with_reducible repeat(first|refine qv ?_ _|refine qw ?_|refine qk ?_ _));refine blk_put (cs:=#[.string ((kw l0_1 x8_1).f0),.int .i64 ((kw l0_1 x8_1).f1),.string ((kw l0_1 x8_1).f2),.int .i64 ((kw l0_1 x8_1).f3.f0),.int .i64 0,.string (⟨#[]⟩ : ByteArray),.string (⟨#[]⟩ : ByteArray)]) ?_ 4 _ rfl;(with_reducible repeat(first|refine qv ?_ _|refine qw ?_|refine qk ?_ _));refine blk_put (cs:=#[.string ((kw l0_1 x8_1).f0),.int .i64 ((kw l0_1 x8_1).f1),.string ((kw l0_1 x8_1).f2),.int .i64 0,.int .i64 0,.string (⟨#[]⟩ : ByteArray),.string (⟨#[]⟩ : ByteArray)]) ?_ 3 _ rfl;(with_reducible repeat(first|refine qv ?_ _|refine qw ?_|refine qk ?_ _));refine blk_put (cs:=#[.string ((kw l0_1 x8_1).f0),.int .i64 ((kw l0_1 x8_1).f1),.string (⟨#[]⟩ : ByteArray),.int .i64 0,.int .i64 0,.string (⟨#[]⟩ : ByteArray),.string (⟨#[]⟩ : ByteArray)]) ?_ 2 _ rfl;(with_reducible repeat(first|refine qv ?_ _|refine qw ?_|refine qk ?_ _));refine blk_put (cs:=#[.string ((kw l0_1 x8_1).f0),.int .i64 0,.string (⟨#[]⟩ : ByteArray),.int .i64 0,.int .i64 0,.string (⟨#[]⟩ : ByteArray),.string (⟨#[]⟩ : ByteArray)]) ?_ 1 _ rfl;(with_reducible repeat(first|refine qv ?_ _|refine qw ?_|refine qk ?_ _));refine blk_put (cs:=#[.string (⟨#[]⟩ : ByteArray),.int .i64 0,.string (⟨#[]⟩ : ByteArray),.int .i64 0,.int .i64 0,.string (⟨#[]⟩ : ByteArray),.string (⟨#[]⟩ : ByteArray)]) ?_ 0 _ rfl;(with_reducible repeat(first|refine qv ?_ _|refine qw ?_|refine qk ?_ _));exact BK103.out) hb);replace HB:=O.mk (zq (by repeat(first|(with_reducible first|exact HB.out|apply J|apply L|apply I|refine qj ?_ GE101.out|refine qj ?_ GE103.out)|exact HB.out)) hb);(try clear hb)))
       go_ret
       exact⟨by first|rfl|(simp[*,zx,zw] <;> rfl),by repeat(first|(with_reducible first|exact HB.out|apply J|apply L|apply I|refine qj ?_ GE101.out|refine qj ?_ GE103.out)|exact HB.out)⟩
     ·rw[if_neg c6] at H;exact absurd H (by simp)
    ·rw[if_neg c5] at H;exact absurd H (by simp)
   ·rw[if_neg c4] at H;have c4b0:decide (x8_1 < (l0_1.length:Int))=false:=decide_eq_false c4;clear c4;replace H:=jq8.mp H;obtain⟨t105,A170,H⟩:=H;try dsimp only at H
    have A17:=O.mk A170;clear A170
    by_cases c18:t105=true
    ·subst c18;have H1:(if (l0_1.length:Int)≤20 then(some ((l0_2.length:Int) == 16)) else(some false))=some r:=by rw[if_pos rfl] at H;exact H
     clear H;have H:=H1;clear H1
     by_cases c19:(l0_1.length:Int)≤20
     ·rw[if_pos c19] at H;have c19b0:decide ((l0_1.length:Int)≤20)=true:=decide_eq_true c19;have c19b1:decide (l0_1.length≤20)=true:=decide_eq_true (by omega);clear c19;obtain rfl:=Option.some.inj H;obtain⟨y20_0,y20_1,y20_2,z20_0,z20_1,z20_2⟩:=bx3f BK101.out;go_wp2_with (first|((with_reducible refine jq (f:=58) rfl ?_);refine goesL_ (some 18) rfl rfl Tryz.func58 (by kernel_rfl) rfl #[.string a0_0] rfl (by(try simp only[jq0,jq1,jq2]);first|done|rfl|(simp only[jq3,jq4];rfl)) ?_;(with_reducible refine(qxj.calls k1 a0_0 true _ A17.out).mono ?_);rintro e w' ⟨rfl,⟨nd,rfl⟩⟩;refine⟨_,rfl,?_⟩))
      go_ret
      exact⟨by first|rfl|(simp[*,zx,zw] <;> rfl),by solve_by_elim (maxDepth:=20) only[HB.out,J,L,I,qj,GE101.out]⟩
     ·rw[if_neg c19] at H;have c19b0:decide ((l0_1.length:Int)≤20)=false:=decide_eq_false c19;have c19b1:decide (l0_1.length≤20)=false:=decide_eq_false (by omega);clear c19;obtain rfl:=Option.some.inj H;obtain⟨y21_0,y21_1,y21_2,z21_0,z21_1,z21_2⟩:=bx3f BK101.out;go_wp2_with (first|((with_reducible refine jq (f:=58) rfl ?_);refine goesL_ (some 18) rfl rfl Tryz.func58 (by kernel_rfl) rfl #[.string a0_0] rfl (by(try simp only[jq0,jq1,jq2]);first|done|rfl|(simp only[jq3,jq4];rfl)) ?_;(with_reducible refine(qxj.calls k1 a0_0 true _ A17.out).mono ?_);rintro e w' ⟨rfl,⟨nd,rfl⟩⟩;refine⟨_,rfl,?_⟩))
      go_ret
      exact⟨by first|rfl|(simp[*,zx,zw] <;> rfl),by solve_by_elim (maxDepth:=20) only[HB.out,J,L,I,qj,GE101.out]⟩
    ·replace c18:=jq9.mpr c18;subst c18;have H1:(some false)=some r:=by rw[if_neg (show ¬ (false=true) by decide)] at H;exact H
     clear H;have H:=H1;clear H1;obtain rfl:=Option.some.inj H;obtain⟨y22_0,y22_1,y22_2,z22_0,z22_1,z22_2⟩:=bx3f BK101.out;go_wp2_with (first|((with_reducible refine jq (f:=58) rfl ?_);refine goesL_ (some 18) rfl rfl Tryz.func58 (by kernel_rfl) rfl #[.string a0_0] rfl (by(try simp only[jq0,jq1,jq2]);first|done|rfl|(simp only[jq3,jq4];rfl)) ?_;(with_reducible refine(qxj.calls k1 a0_0 false _ A17.out).mono ?_);rintro e w' ⟨rfl,⟨nd,rfl⟩⟩;refine⟨_,rfl,?_⟩))
     go_ret
     exact⟨by first|rfl|(simp[*,zx,zw] <;> rfl),by solve_by_elim (maxDepth:=20) only[HB.out,J,L,I,qj,GE101.out]⟩
end Go.Proofs.YtnbbbjfjkhglhaaGreatDoor.Pr
namespace Go.Proofs.YtnbbbjfjkhglhaaGreatDoor.Pr
open Go.RowKit Go.Proofs.YtnbbbjfjkhglhaaGreatDoorW.PrintWords Go.Proofs.YtnbbbjfjkhglhaaGreatDoorW.PrintLast Go.Proofs.YtnbbbjfjkhglhaaGreatDoorW.PrintMore
attribute [local go_sem] max2_int min2_int max_two min_two max_three min_three max_four min_four
set_option linter.unusedVariables false
set_option linter.unusedSimpArgs false
def qxz.f  : Option (List ByteArray):=some (([(⟨#[]⟩ : ByteArray),(⟨#[61,61]⟩ : ByteArray),(⟨#[60]⟩ : ByteArray),(⟨#[60,61]⟩ : ByteArray),(⟨#[105,110]⟩ : ByteArray)]:List ByteArray))
theorem qxz.calls  (r:List ByteArray) (w:World) (h:qxz.f  = some r) :
  Calls Tryz.prog 21 #[] w fun e w'=>∃ v0_:Value,e=.returned (v0_)∧Kd.R Kd.string 9 w' w.heap.size (fun _=>True) v0_ r∧Below w.heap.size w w':=by
 have HB:=O.mk (Below.refl w.heap.size w);unfold qxz.f at h;have H:=h;clear h;obtain⟨y101,hy101⟩ : ∃ y_:List ByteArray,y_=(([(⟨#[]⟩ : ByteArray),(⟨#[61,61]⟩ : ByteArray),(⟨#[60]⟩ : ByteArray),(⟨#[60,61]⟩ : ByteArray),(⟨#[105,110]⟩ : ByteArray)]:List ByteArray)):=⟨_,rfl⟩;replace H:(some y101)=some r:=by first|(rw[hy101];with_reducible exact H)|(have H2_:=(Option.bind_some _ _).symm.trans H;rw[hy101];with_reducible exact H2_)|(have H2_:=(Option.bind_some _ _).symm.trans H;with_reducible exact H2_)|with_reducible exact H|(rw[hy101];exact H)|exact H
 have Ny101:=O.mk hy101;clear hy101;obtain rfl:=Option.some.inj H;go_enter Tryz.func21,Tryz.ntmps21;go_wp2_with (first|((with_reducible refine gate_dst (N:=1) rfl ?_);refine Kd.R_lit Kd.string _ 9 ?hg (N:=1) ?hd (xs:=([(⟨#[]⟩ : ByteArray),(⟨#[61,61]⟩ : ByteArray),(⟨#[60]⟩ : ByteArray),(⟨#[60,61]⟩ : ByteArray),(⟨#[105,110]⟩ : ByteArray)]:List ByteArray)) (inner:=[.string (⟨#[]⟩ : ByteArray),.string (⟨#[61,61]⟩ : ByteArray),.string (⟨#[60]⟩ : ByteArray),.string (⟨#[60,61]⟩ : ByteArray),.string (⟨#[105,110]⟩ : ByteArray)]) (ok:=fun _=>True) (okp:=fun _=>True) ?hr ?hp (fun _ hk=>hk) trivial (Below.refl _ _) (Nat.le_refl _) (by simp) ?_;(case hd=>rfl);(case hg=>rfl);(case hr=>first|(go_simp;done)|(go_simp;rfl));(case hp=>exact(Reps.one (show Kd.M Kd.string _ _ _ (⟨#[]⟩ : ByteArray) [.string (⟨#[]⟩ : ByteArray)] from rfl) (Reps.one (show Kd.M Kd.string _ _ _ (⟨#[61,61]⟩ : ByteArray) [.string (⟨#[61,61]⟩ : ByteArray)] from rfl) (Reps.one (show Kd.M Kd.string _ _ _ (⟨#[60]⟩ : ByteArray) [.string (⟨#[60]⟩ : ByteArray)] from rfl) (Reps.one (show Kd.M Kd.string _ _ _ (⟨#[60,61]⟩ : ByteArray) [.string (⟨#[60,61]⟩ : ByteArray)] from rfl) (Reps.one (show Kd.M Kd.string _ _ _ (⟨#[105,110]⟩ : ByteArray) [.string (⟨#[105,110]⟩ : ByteArray)] from rfl) (Reps.none _ _)))))));intro v102 w1 ho2 hb hg_ hnew_;clear hg_ hnew_;(first|rw[← Ny101.out] at ho2|(simp only[Int.reduceToNat] at ho2;rw[← Ny101.out] at ho2));have HO103:=O.mk (Kd.R_lower ho2 (zz (by solve_by_elim only[HB.out,J,L,I])));replace HB:=O.mk (zq (by solve_by_elim only[HB.out,J,L,I]) hb);clear hb ho2))
 go_ret
 exact⟨_,by first|rfl|(simp[*,zx,zw] <;> rfl),by(with_reducible repeat(first|apply Kd.zk|apply Kd.zj|apply Kd.zv));exact HO103.out,by solve_by_elim only[HB.out,J,L,I]⟩
end Go.Proofs.YtnbbbjfjkhglhaaGreatDoor.Pr
namespace Go.Proofs.YtnbbbjfjkhglhaaGreatDoor.Pr
open Go.RowKit Go.Proofs.YtnbbbjfjkhglhaaGreatDoorW.PrintWords Go.Proofs.YtnbbbjfjkhglhaaGreatDoorW.PrintLast Go.Proofs.YtnbbbjfjkhglhaaGreatDoorW.PrintMore
attribute [local go_sem] max2_int min2_int max_two min_two max_three min_three max_four min_four
set_option linter.unusedVariables false
set_option linter.unusedSimpArgs false
def qwz.l0:Nat→Int→ByteArray→Option (ByteArray)
 | 0,_,_=>none
 | k + 1,x0,x3=>if x0=0 then(some x3) else(if (Int.tmod x0 10) < 0 then((some (([(wrap64 (48 + (wrap64 (-(Int.tmod x0 10))))) % 256]:List Int):List Int)).bind fun y101=>(if (strOfNums y101).size + x3.size≤9223372036854775807 then(qwz.l0 k (wrap64 (Int.tdiv x0 10)) ((strOfNums y101) ++ x3)) else(none))) else((some (([(wrap64 (48 + (Int.tmod x0 10))) % 256]:List Int):List Int)).bind fun y104=>(if (strOfNums y104).size + x3.size≤9223372036854775807 then(qwz.l0 k (wrap64 (Int.tdiv x0 10)) ((strOfNums y104) ++ x3)) else(none))))
def qwz.f (k:Nat) (a0:Int):Option (ByteArray):=if a0=0 then(some (⟨#[48]⟩ : ByteArray)) else(qwz.l0 k a0 (⟨#[]⟩ : ByteArray))
theorem qwz.calls (k:Nat) (a0:Int) (r:ByteArray) (w:World) (h:qwz.f k a0=some r) :
  Calls Tryz.prog 49 #[.int .i64 a0] w fun e w'=>e=.returned (.string r)∧Below w.heap.size w w':=by
 have HB:=O.mk (Below.refl w.heap.size w);unfold qwz.f at h;have H:=h;clear h
 by_cases c2:a0=0
 ·rw[if_pos c2] at H;have c2b0:(a0 == 0)=true:=beq_iff_eq.mpr c2;have c2b1:(a0 != 0)=false:=bne_eq_false_iff_eq.mpr c2;clear c2;obtain rfl:=Option.some.inj H;go_enter Tryz.func49,Tryz.ntmps49;go_wp2;go_ret
  exact⟨by first|rfl|(simp[*,zx,zw] <;> rfl),by solve_by_elim only[HB.out,J,L,I]⟩
 ·rw[if_neg c2] at H;have c2b0:(a0 == 0)=false:=beq_eq_false_iff_ne.mpr c2;have c2b1:(a0 != 0)=true:=bne_iff_ne.mpr c2;have H':=O.mk H;clear H;go_enter Tryz.func49,Tryz.ntmps49;go_wp2
  go_loopg [0,3] k (fun kq v0 v3 w'=>∃ (x0_1:Int) (x3_1:ByteArray),v0=.int .i64 x0_1∧v3=.string x3_1∧O (qwz.l0 kq x0_1 x3_1=some r)∧O (kq≤k)∧O (Below w.heap.size w w'))
  case atStart=>exact⟨(a0),((⟨#[]⟩ : ByteArray)),(by first|rfl|(simp;done)|(simp[*];done)),(by first|rfl|(simp;done)|(simp[*];done)),H',⟨Nat.le_refl _⟩,⟨by solve_by_elim only[HB.out,J,L,I]⟩⟩
  case round =>
   clear H';try clear c2
   try clear c2b0
   try clear c2b1
   try clear p2
   obtain⟨x0_1,x3_1,rfl,rfl,HA,HK1,HB⟩:=hrel
   cases gk with
   | zero=>exact absurd HA.out (by simp[qwz.l0])
   | succ k1 =>
    have H:=HA.out;clear HA;simp only[qwz.l0] at H
    by_cases c3:x0_1=0
    ·rw[if_pos c3] at H;have c3b0:(x0_1 == 0)=true:=beq_iff_eq.mpr c3;have c3b1:(x0_1 != 0)=false:=bne_eq_false_iff_eq.mpr c3;clear c3;obtain rfl:=Option.some.inj H;go_wp2;go_ret
     exact⟨by first|rfl|(simp[*,zx,zw] <;> rfl),by solve_by_elim only[HB.out,J,L,I]⟩
    ·rw[if_neg c3] at H;have c3b0:(x0_1 == 0)=false:=beq_eq_false_iff_ne.mpr c3;have c3b1:(x0_1 != 0)=true:=bne_iff_ne.mpr c3
     by_cases c4:(Int.tmod x0_1 10) < 0
     ·rw[if_pos c4] at H;have c4b0:decide ((Int.tmod x0_1 10) < 0)=true:=decide_eq_true c4;clear c4;obtain⟨y101,hy101⟩ : ∃ y_:List Int,y_=(([(wrap64 (48 + (wrap64 (-(Int.tmod x0_1 10))))) % 256]:List Int)):=⟨_,rfl⟩;replace H:(if (strOfNums y101).size + x3_1.size≤9223372036854775807 then(qwz.l0 k1 (wrap64 (Int.tdiv x0_1 10)) ((strOfNums y101) ++ x3_1)) else(none))=some r:=by first|(rw[hy101];with_reducible exact H)|(have H2_:=(Option.bind_some _ _).symm.trans H;rw[hy101];with_reducible exact H2_)|(have H2_:=(Option.bind_some _ _).symm.trans H;with_reducible exact H2_)|with_reducible exact H|(rw[hy101];exact H)|exact H
      have Ny101:=O.mk hy101;clear hy101
      by_cases c5:(strOfNums y101).size + x3_1.size≤9223372036854775807
      ·rw[if_pos c5] at H;have c5b0:=eq_true c5;have c5b1:decide ((strOfNums y101).size + x3_1.size≤9223372036854775807)=true:=decide_eq_true c5;try have c5b2:(9223372036854775807 < (strOfNums y101).size + x3_1.size)=False:=eq_false (Nat.not_lt.2 c5)
       have H':=O.mk H;clear H;go_wp2_with (first|((with_reducible refine gate_dst (N:=18) rfl ?_);refine Kd.R_lit (Kd.int .u8) _ 5 ?hg (N:=18) ?hd (xs:=([(wrap64 (48 + (wrap64 (-(Int.tmod x0_1 10))))) % 256]:List Int)) (inner:=[.int .u8 ((wrap64 (48 + (wrap64 (-(Int.tmod x0_1 10))))) % 256)]) (ok:=fun _=>True) (okp:=fun _=>True) ?hr ?hp (fun _ hk=>hk) trivial (Below.refl _ _) (Nat.le_refl _) (by simp) ?_;(case hd=>rfl);(case hg=>rfl);(case hr=>first|(go_simp;done)|(go_simp;rfl));(case hp=>exact(Reps.one (show Kd.M (Kd.int .u8) _ _ _ ((wrap64 (48 + (wrap64 (-(Int.tmod x0_1 10))))) % 256) [.int .u8 ((wrap64 (48 + (wrap64 (-(Int.tmod x0_1 10))))) % 256)] from rfl) (Reps.none _ _)));intro v102 w6 ho7 hb hg_ hnew_;clear hg_ hnew_;(first|rw[← Ny101.out] at ho7|(simp only[Int.reduceToNat] at ho7;rw[← Ny101.out] at ho7));have HO103:=O.mk (Kd.R_lower ho7 (zz (by solve_by_elim only[HB.out,J,L,I])));replace HB:=O.mk (zq (by solve_by_elim only[HB.out,J,L,I]) hb);clear hb ho7;have hcv8:=own_string (P:=Tryz.prog) Tryz.underlying34 Tryz.underlying5 Tryz.underlying9 (Kd.own_of_R HO103.out)))
       go_roundg k1
       case measure=>have:=HK1.out;omega
       case rel=>exact⟨(wrap64 (Int.tdiv x0_1 10)),((strOfNums y101) ++ x3_1),(by first|rfl|(simp;done)|(simp[*];done)),(by first|rfl|(simp;done)|(simp[*];done)),H',⟨by have:=HK1.out;omega⟩,⟨by solve_by_elim only[HB.out,J,L,I]⟩⟩
      ·rw[if_neg c5] at H;exact absurd H (by simp)
     ·rw[if_neg c4] at H;have c4b0:decide ((Int.tmod x0_1 10) < 0)=false:=decide_eq_false c4;clear c4;obtain⟨y104,hy104⟩ : ∃ y_:List Int,y_=(([(wrap64 (48 + (Int.tmod x0_1 10))) % 256]:List Int)):=⟨_,rfl⟩;replace H:(if (strOfNums y104).size + x3_1.size≤9223372036854775807 then(qwz.l0 k1 (wrap64 (Int.tdiv x0_1 10)) ((strOfNums y104) ++ x3_1)) else(none))=some r:=by first|(rw[hy104];with_reducible exact H)|(have H2_:=(Option.bind_some _ _).symm.trans H;rw[hy104];with_reducible exact H2_)|(have H2_:=(Option.bind_some _ _).symm.trans H;with_reducible exact H2_)|with_reducible exact H|(rw[hy104];exact H)|exact H
      have Ny104:=O.mk hy104;clear hy104
      by_cases c9:(strOfNums y104).size + x3_1.size≤9223372036854775807
      ·rw[if_pos c9] at H;have c9b0:=eq_true c9;have c9b1:decide ((strOfNums y104).size + x3_1.size≤9223372036854775807)=true:=decide_eq_true c9;try have c9b2:(9223372036854775807 < (strOfNums y104).size + x3_1.size)=False:=eq_false (Nat.not_lt.2 c9)
       have H':=O.mk H;clear H;go_wp2_with (first|((with_reducible refine gate_dst (N:=18) rfl ?_);refine Kd.R_lit (Kd.int .u8) _ 5 ?hg (N:=18) ?hd (xs:=([(wrap64 (48 + (Int.tmod x0_1 10))) % 256]:List Int)) (inner:=[.int .u8 ((wrap64 (48 + (Int.tmod x0_1 10))) % 256)]) (ok:=fun _=>True) (okp:=fun _=>True) ?hr ?hp (fun _ hk=>hk) trivial (Below.refl _ _) (Nat.le_refl _) (by simp) ?_;(case hd=>rfl);(case hg=>rfl);(case hr=>first|(go_simp;done)|(go_simp;rfl));(case hp=>exact(Reps.one (show Kd.M (Kd.int .u8) _ _ _ ((wrap64 (48 + (Int.tmod x0_1 10))) % 256) [.int .u8 ((wrap64 (48 + (Int.tmod x0_1 10))) % 256)] from rfl) (Reps.none _ _)));intro v105 w10 ho11 hb hg_ hnew_;clear hg_ hnew_;(first|rw[← Ny104.out] at ho11|(simp only[Int.reduceToNat] at ho11;rw[← Ny104.out] at ho11));have HO106:=O.mk (Kd.R_lower ho11 (zz (by solve_by_elim only[HB.out,J,L,I])));replace HB:=O.mk (zq (by solve_by_elim only[HB.out,J,L,I]) hb);clear hb ho11;have hcv12:=own_string (P:=Tryz.prog) Tryz.underlying34 Tryz.underlying5 Tryz.underlying9 (Kd.own_of_R HO106.out)))
       go_roundg k1
       case measure=>have:=HK1.out;omega
       case rel=>exact⟨(wrap64 (Int.tdiv x0_1 10)),((strOfNums y104) ++ x3_1),(by first|rfl|(simp;done)|(simp[*];done)),(by first|rfl|(simp;done)|(simp[*];done)),H',⟨by have:=HK1.out;omega⟩,⟨by solve_by_elim only[HB.out,J,L,I]⟩⟩
      ·rw[if_neg c9] at H;exact absurd H (by simp)
end Go.Proofs.YtnbbbjfjkhglhaaGreatDoor.Pr
namespace Go.Proofs.YtnbbbjfjkhglhaaGreatDoor.Pr
open Go.RowKit Go.Proofs.YtnbbbjfjkhglhaaGreatDoorW.PrintWords Go.Proofs.YtnbbbjfjkhglhaaGreatDoorW.PrintLast Go.Proofs.YtnbbbjfjkhglhaaGreatDoorW.PrintMore
attribute [local go_sem] max2_int min2_int max_two min_two max_three min_three max_four min_four
set_option linter.unusedVariables false
set_option linter.unusedSimpArgs false
def qvv.f (k:Nat) (a0:Int):Option (ByteArray):=if a0 < 0 then((qwz.f k a0).bind fun t101=>(if 1 + t101.size≤9223372036854775807 then(some ((⟨#[45]⟩ : ByteArray) ++ t101)) else(none))) else((qwz.f k a0).bind fun t102=>(some t102))
theorem qvv.calls (k:Nat) (a0:Int) (r:ByteArray) (w:World) (h:qvv.f k a0=some r) :
  Calls Tryz.prog 47 #[.int .i64 a0] w fun e w'=>e=.returned (.string r)∧Below w.heap.size w w':=by
 have HB:=O.mk (Below.refl w.heap.size w);unfold qvv.f at h;have H:=h;clear h
 by_cases c2:a0 < 0
 ·rw[if_pos c2] at H;have c2b0:decide (a0 < 0)=true:=decide_eq_true c2;clear c2;replace H:=jq8.mp H;obtain⟨t101,A30,H⟩:=H;try dsimp only at H
  have A3:=O.mk A30;clear A30
  by_cases c4 : 1 + t101.size≤9223372036854775807
  ·rw[if_pos c4] at H;have c4b0:=eq_true c4;have c4b1:decide (1 + t101.size≤9223372036854775807)=true:=decide_eq_true c4;try have c4b2:(9223372036854775807 < 1 + t101.size)=False:=eq_false (Nat.not_lt.2 c4)
   obtain rfl:=Option.some.inj H;go_enter Tryz.func47,Tryz.ntmps47;go_wp2_with (first|((with_reducible refine jq (f:=49) rfl ?_);refine goesL_ (some 6) rfl rfl Tryz.func49 (by kernel_rfl) rfl #[.int .i64 a0] rfl (by(try simp only[jq0,jq1,jq2]);first|done|rfl|(simp only[jq3,jq4];rfl)) ?_;(with_reducible refine(qwz.calls k a0 t101 _ A3.out).mono ?_);rintro e w5 ⟨rfl,hb⟩;refine⟨_,rfl,?_⟩;replace HB:=O.mk (zq (by solve_by_elim only[HB.out,J,L,I]) hb);(try clear hb)))
   go_ret
   exact⟨by first|rfl|(simp[*,zx,zw] <;> rfl),by solve_by_elim only[HB.out,J,L,I]⟩
  ·rw[if_neg c4] at H;exact absurd H (by simp)
 ·rw[if_neg c2] at H;have c2b0:decide (a0 < 0)=false:=decide_eq_false c2;clear c2;replace H:=jq8.mp H;obtain⟨t102,A60,H⟩:=H;replace H:(some t102)=some r:=H;have A6:=O.mk A60;clear A60;obtain rfl:=Option.some.inj H;go_enter Tryz.func47,Tryz.ntmps47;go_wp2_with (first|((with_reducible refine jq (f:=49) rfl ?_);refine goesL_ (some 9) rfl rfl Tryz.func49 (by kernel_rfl) rfl #[.int .i64 a0] rfl (by(try simp only[jq0,jq1,jq2]);first|done|rfl|(simp only[jq3,jq4];rfl)) ?_;(with_reducible refine(qwz.calls k a0 t102 _ A6.out).mono ?_);rintro e w7 ⟨rfl,hb⟩;refine⟨_,rfl,?_⟩;replace HB:=O.mk (zq (by solve_by_elim only[HB.out,J,L,I]) hb);(try clear hb)))
  go_ret
  exact⟨by first|rfl|(simp[*,zx,zw] <;> rfl),by solve_by_elim only[HB.out,J,L,I]⟩
end Go.Proofs.YtnbbbjfjkhglhaaGreatDoor.Pr
namespace Go.Proofs.YtnbbbjfjkhglhaaGreatDoor.Pr
open Go.RowKit Go.Proofs.YtnbbbjfjkhglhaaGreatDoorW.PrintWords Go.Proofs.YtnbbbjfjkhglhaaGreatDoorW.PrintLast Go.Proofs.YtnbbbjfjkhglhaaGreatDoorW.PrintMore
attribute [local go_sem] max2_int min2_int max_two min_two max_three min_three max_four min_four
set_option linter.unusedVariables false
set_option linter.unusedSimpArgs false
def qwq.l0:Nat→ByteArray→List Int→Int→Option (ByteArray)
 | 0,_,_,_=>none
 | k + 1,x0,x3,x4=>if x4 < (x0.size:Int) then(if 0≤x4 then(if (bt x0 x4)=34 then(if x3.length < 140737488355328 then((some (x3 ++ [92]:List Int)).bind fun y104=>(if y104.length < 140737488355328 then(qwq.l0 k x0 (y104 ++ [bt x0 x4]) (wrap64 (x4 + 1))) else(none))) else(none)) else(if (bt x0 x4)=92 then(if x3.length < 140737488355328 then((some (x3 ++ [92]:List Int)).bind fun y110=>(if y110.length < 140737488355328 then(qwq.l0 k x0 (y110 ++ [bt x0 x4]) (wrap64 (x4 + 1))) else(none))) else(none)) else(if x3.length < 140737488355328 then(qwq.l0 k x0 (x3 ++ [bt x0 x4]) (wrap64 (x4 + 1))) else(none)))) else(none)) else(if x3.length < 140737488355328 then(some (strOfNums (x3 ++ [34]))) else(none))
def qwq.f (k:Nat) (a0:ByteArray):Option (ByteArray):=qwq.l0 k a0 (([34]:List Int)) 0
theorem qwq.calls (k:Nat) (a0:ByteArray) (r:ByteArray) (w:World) (h:qwq.f k a0=some r) :
  Calls Tryz.prog 48 #[.string a0] w fun e w'=>e=.returned (.string r)∧Below w.heap.size w w':=by
 have HB:=O.mk (Below.refl w.heap.size w);have H:(qwq.l0 k a0 (([34]:List Int)) 0)=some r:=h;clear h;obtain⟨y101,hy101⟩ : ∃ y_:List Int,y_=(([34]:List Int)):=⟨_,rfl⟩;replace H:(qwq.l0 k a0 y101 0)=some r:=by first|(rw[hy101];with_reducible exact H)|(have H2_:=(Option.bind_some _ _).symm.trans H;rw[hy101];with_reducible exact H2_)|(have H2_:=(Option.bind_some _ _).symm.trans H;with_reducible exact H2_)|with_reducible exact H|(rw[hy101];exact H)|exact H
 have Ny101:=O.mk hy101;clear hy101;have H':=O.mk H;clear H;go_enter Tryz.func48,Tryz.ntmps48;go_wp2_with (first|((with_reducible refine gate_dst (N:=5) rfl ?_);refine Kd.R_lit (Kd.int .u8) _ 5 ?hg (N:=5) ?hd (xs:=([34]:List Int)) (inner:=[.int .u8 34]) (ok:=fun _=>True) (okp:=fun _=>True) ?hr ?hp (fun _ hk=>hk) trivial (Below.refl _ _) (Nat.le_refl _) (by simp) ?_;(case hd=>rfl);(case hg=>rfl);(case hr=>first|(go_simp;done)|(go_simp;rfl));(case hp=>exact(Reps.one (show Kd.M (Kd.int .u8) _ _ _ 34 [.int .u8 34] from rfl) (Reps.none _ _)));intro v102 w2 ho3 hb hg_ hnew_;clear hg_ hnew_;(first|rw[← Ny101.out] at ho3|(simp only[Int.reduceToNat] at ho3;rw[← Ny101.out] at ho3));have HO103:=O.mk (Kd.R_lower ho3 (zz (by solve_by_elim only[HB.out,J,L,I])));replace HB:=O.mk (zq (by solve_by_elim only[HB.out,J,L,I]) hb);clear hb ho3))
 go_loopg [3,4] k (fun kq v3 v4 w'=>∃ (x3_1:List Int) (x4_1:Int),v4=.int .i64 x4_1∧O (qwq.l0 kq a0 x3_1 x4_1=some r)∧O (kq≤k)∧O (Kd.R (Kd.int .u8) 5 w' w.heap.size (fun _=>True) v3 x3_1)∧O (Below w.heap.size w w'))
 case atStart=>exact⟨(y101),(0),(by first|rfl|(simp;done)|(simp[*];done)),H',⟨Nat.le_refl _⟩,⟨by(with_reducible repeat(first|apply Kd.zk|apply Kd.zj|apply Kd.zv));exact HO103.out⟩,⟨by solve_by_elim only[HB.out,J,L,I]⟩⟩
 case round =>
  clear H';try clear p2
  obtain⟨x3_1,x4_1,rfl,HA,HK1,HO_3,HB⟩:=hrel
  cases gk with
  | zero=>exact absurd HA.out (by simp[qwq.l0])
  | succ k1 =>
   have H:=HA.out;clear HA;simp only[qwq.l0] at H
   by_cases c4:x4_1 < (a0.size:Int)
   ·rw[if_pos c4] at H;have c4b0:decide (x4_1 < (a0.size:Int))=true:=decide_eq_true c4;clear c4
    by_cases c5 : 0≤x4_1
    ·rw[if_pos c5] at H;have c5b0:decide (0≤x4_1)=true:=decide_eq_true c5;clear c5
     by_cases c7:(bt a0 x4_1)=34
     ·rw[if_pos c7] at H;have c7b0:((bt a0 x4_1) == 34)=true:=beq_iff_eq.mpr c7;have c7b1:((bt a0 x4_1) != 34)=false:=bne_eq_false_iff_eq.mpr c7;clear c7
      by_cases c8:x3_1.length < 140737488355328
      ·rw[if_pos c8] at H;have LMc8:=O.mk c8;clear c8;obtain⟨y104,hy104⟩ : ∃ y_:List Int,y_=(x3_1 ++ [92]):=⟨_,rfl⟩;replace H:(if y104.length < 140737488355328 then(qwq.l0 k1 a0 (y104 ++ [bt a0 x4_1]) (wrap64 (x4_1 + 1))) else(none))=some r:=by first|(rw[hy104];with_reducible exact H)|(have H2_:=(Option.bind_some _ _).symm.trans H;rw[hy104];with_reducible exact H2_)|(have H2_:=(Option.bind_some _ _).symm.trans H;with_reducible exact H2_)|with_reducible exact H|(rw[hy104];exact H)|exact H
       have Ny104:=O.mk hy104;clear hy104
       by_cases c10:y104.length < 140737488355328
       ·rw[if_pos c10] at H;have LMc10:=O.mk c10;clear c10;obtain⟨y107,hy107⟩ : ∃ y_:List Int,y_=(y104 ++ [bt a0 x4_1]):=⟨_,rfl⟩;replace H:(qwq.l0 k1 a0 y107 (wrap64 (x4_1 + 1)))=some r:=by first|(rw[hy107];with_reducible exact H)|(have H2_:=(Option.bind_some _ _).symm.trans H;rw[hy107];with_reducible exact H2_)|(have H2_:=(Option.bind_some _ _).symm.trans H;with_reducible exact H2_)|with_reducible exact H|(rw[hy107];exact H)|exact H
        have Ny107:=O.mk hy107;clear hy107;have H':=O.mk H;clear H;have p6 : 0≤(x4_1:Int):=of_decide_eq_true (by assumption);have q6:x4_1 < (a0.size:Int):=of_decide_eq_true (by assumption);have hx6:=bt_at a0 x4_1;replace p6:=eq_true p6;replace q6:=eq_true q6;go_wp2_with (first|((with_reducible refine gate_builtin (b:=.append) (xs:=#[.tmp 22,.tmp 23]) rfl ?_);at_builtin;refine Kd.R_append (Kd.int .u8) (w0:=w) w.heap.size rfl (.tmp 22) (.tmp 23) 34 5 (.int .u8 0) 1 rfl Tryz.underlying34 info5 rfl (by decide) (by omega) u3 x3_1 92 [.int .u8 92] (fun _=>True) (fun _=>False) rfl rfl ?aP (fun _ hk=>hk.elim) ?aF ?aO ?aB ?aS ?aL ?_;(case aP=>exact rfl);(case aB=>exact(by solve_by_elim only[HB.out,J,L,I]));(case aF=>exact(fun _ _=>trivial));(case aO=>exact(by solve_by_elim only[HO_3.out,Kd.zk,Kd.zj,Kd.zv]));(case aS=>exact(zz (by solve_by_elim only[HB.out,J,L,I])));(case aL=>have:=LMc8.out;omega);intro v105 w11 ho hb hg hat;rw[← Ny104.out] at ho;replace HB:=O.mk (hb);have HO106:=O.mk (ho);clear HO_3;clear ho hb hg hat;have p9 : 0≤(x4_1:Int):=of_decide_eq_true (by assumption);have q9:x4_1 < (a0.size:Int):=of_decide_eq_true (by assumption);have hx9:=bt_at a0 x4_1;replace p9:=eq_true p9;replace q9:=eq_true q9)|((with_reducible refine gate_builtin (b:=.append) (xs:=#[.tmp 25,.tmp 29]) rfl ?_);at_builtin;refine Kd.R_append (Kd.int .u8) (w0:=w) w.heap.size rfl (.tmp 25) (.tmp 29) 34 5 (.int .u8 0) 1 rfl Tryz.underlying34 info5 rfl (by decide) (by omega) v105 y104 (bt a0 x4_1) [.int .u8 (bt a0 x4_1)] (fun _=>True) (fun _=>False) rfl rfl ?aP (fun _ hk=>hk.elim) ?aF ?aO ?aB ?aS ?aL ?_;(case aP=>exact rfl);(case aB=>exact(by solve_by_elim only[HB.out,J,L,I]));(case aF=>exact(fun _ _=>trivial));(case aO=>exact(by solve_by_elim only[HO106.out,Kd.zk,Kd.zj,Kd.zv]));(case aS=>exact(zz (by solve_by_elim only[HB.out,J,L,I])));(case aL=>have:=LMc10.out;omega);intro v108 w12 ho hb hg hat;rw[← Ny107.out] at ho;replace HB:=O.mk (hb);have HO109:=O.mk (ho);clear HO106;clear ho hb hg hat))
        go_roundg k1
        case measure=>have:=HK1.out;omega
        case rel=>exact⟨(y107),(wrap64 (x4_1 + 1)),(by first|rfl|(simp;done)|(simp[*];done)),H',⟨by have:=HK1.out;omega⟩,⟨by(with_reducible repeat(first|apply Kd.zk|apply Kd.zj|apply Kd.zv));exact HO109.out⟩,⟨by solve_by_elim only[HB.out,J,L,I]⟩⟩
       ·rw[if_neg c10] at H;exact absurd H (by simp)
      ·rw[if_neg c8] at H;exact absurd H (by simp)
     ·rw[if_neg c7] at H;have c7b0:((bt a0 x4_1) == 34)=false:=beq_eq_false_iff_ne.mpr c7;have c7b1:((bt a0 x4_1) != 34)=true:=bne_iff_ne.mpr c7
      by_cases c14:(bt a0 x4_1)=92
      ·rw[if_pos c14] at H;have c14b0:((bt a0 x4_1) == 92)=true:=beq_iff_eq.mpr c14;have c14b1:((bt a0 x4_1) != 92)=false:=bne_eq_false_iff_eq.mpr c14;clear c14
       by_cases c15:x3_1.length < 140737488355328
       ·rw[if_pos c15] at H;have LMc15:=O.mk c15;clear c15;obtain⟨y110,hy110⟩ : ∃ y_:List Int,y_=(x3_1 ++ [92]):=⟨_,rfl⟩;replace H:(if y110.length < 140737488355328 then(qwq.l0 k1 a0 (y110 ++ [bt a0 x4_1]) (wrap64 (x4_1 + 1))) else(none))=some r:=by first|(rw[hy110];with_reducible exact H)|(have H2_:=(Option.bind_some _ _).symm.trans H;rw[hy110];with_reducible exact H2_)|(have H2_:=(Option.bind_some _ _).symm.trans H;with_reducible exact H2_)|with_reducible exact H|(rw[hy110];exact H)|exact H
        have Ny110:=O.mk hy110;clear hy110
        by_cases c17:y110.length < 140737488355328
        ·rw[if_pos c17] at H;have LMc17:=O.mk c17;clear c17;obtain⟨y113,hy113⟩ : ∃ y_:List Int,y_=(y110 ++ [bt a0 x4_1]):=⟨_,rfl⟩;replace H:(qwq.l0 k1 a0 y113 (wrap64 (x4_1 + 1)))=some r:=by first|(rw[hy113];with_reducible exact H)|(have H2_:=(Option.bind_some _ _).symm.trans H;rw[hy113];with_reducible exact H2_)|(have H2_:=(Option.bind_some _ _).symm.trans H;with_reducible exact H2_)|with_reducible exact H|(rw[hy113];exact H)|exact H
         have Ny113:=O.mk hy113;clear hy113;have H':=O.mk H;clear H;have p6 : 0≤(x4_1:Int):=of_decide_eq_true (by assumption);have q6:x4_1 < (a0.size:Int):=of_decide_eq_true (by assumption);have hx6:=bt_at a0 x4_1;replace p6:=eq_true p6;replace q6:=eq_true q6;have p13 : 0≤(x4_1:Int):=of_decide_eq_true (by assumption);have q13:x4_1 < (a0.size:Int):=of_decide_eq_true (by assumption);have hx13:=bt_at a0 x4_1;replace p13:=eq_true p13;replace q13:=eq_true q13;go_wp2_with (first|((with_reducible refine gate_builtin (b:=.append) (xs:=#[.tmp 22,.tmp 23]) rfl ?_);at_builtin;refine Kd.R_append (Kd.int .u8) (w0:=w) w.heap.size rfl (.tmp 22) (.tmp 23) 34 5 (.int .u8 0) 1 rfl Tryz.underlying34 info5 rfl (by decide) (by omega) u3 x3_1 92 [.int .u8 92] (fun _=>True) (fun _=>False) rfl rfl ?aP (fun _ hk=>hk.elim) ?aF ?aO ?aB ?aS ?aL ?_;(case aP=>exact rfl);(case aB=>exact(by solve_by_elim only[HB.out,J,L,I]));(case aF=>exact(fun _ _=>trivial));(case aO=>exact(by solve_by_elim only[HO_3.out,Kd.zk,Kd.zj,Kd.zv]));(case aS=>exact(zz (by solve_by_elim only[HB.out,J,L,I])));(case aL=>have:=LMc15.out;omega);intro v111 w18 ho hb hg hat;rw[← Ny110.out] at ho;replace HB:=O.mk (hb);have HO112:=O.mk (ho);clear HO_3;clear ho hb hg hat;have p16 : 0≤(x4_1:Int):=of_decide_eq_true (by assumption);have q16:x4_1 < (a0.size:Int):=of_decide_eq_true (by assumption);have hx16:=bt_at a0 x4_1;replace p16:=eq_true p16;replace q16:=eq_true q16)|((with_reducible refine gate_builtin (b:=.append) (xs:=#[.tmp 25,.tmp 29]) rfl ?_);at_builtin;refine Kd.R_append (Kd.int .u8) (w0:=w) w.heap.size rfl (.tmp 25) (.tmp 29) 34 5 (.int .u8 0) 1 rfl Tryz.underlying34 info5 rfl (by decide) (by omega) v111 y110 (bt a0 x4_1) [.int .u8 (bt a0 x4_1)] (fun _=>True) (fun _=>False) rfl rfl ?aP (fun _ hk=>hk.elim) ?aF ?aO ?aB ?aS ?aL ?_;(case aP=>exact rfl);(case aB=>exact(by solve_by_elim only[HB.out,J,L,I]));(case aF=>exact(fun _ _=>trivial));(case aO=>exact(by solve_by_elim only[HO112.out,Kd.zk,Kd.zj,Kd.zv]));(case aS=>exact(zz (by solve_by_elim only[HB.out,J,L,I])));(case aL=>have:=LMc17.out;omega);intro v114 w19 ho hb hg hat;rw[← Ny113.out] at ho;replace HB:=O.mk (hb);have HO115:=O.mk (ho);clear HO112;clear ho hb hg hat))
         go_roundg k1
         case measure=>have:=HK1.out;omega
         case rel=>exact⟨(y113),(wrap64 (x4_1 + 1)),(by first|rfl|(simp;done)|(simp[*];done)),H',⟨by have:=HK1.out;omega⟩,⟨by(with_reducible repeat(first|apply Kd.zk|apply Kd.zj|apply Kd.zv));exact HO115.out⟩,⟨by solve_by_elim only[HB.out,J,L,I]⟩⟩
        ·rw[if_neg c17] at H;exact absurd H (by simp)
       ·rw[if_neg c15] at H;exact absurd H (by simp)
      ·rw[if_neg c14] at H;have c14b0:((bt a0 x4_1) == 92)=false:=beq_eq_false_iff_ne.mpr c14;have c14b1:((bt a0 x4_1) != 92)=true:=bne_iff_ne.mpr c14
       by_cases c21:x3_1.length < 140737488355328
       ·rw[if_pos c21] at H;have LMc21:=O.mk c21;clear c21;obtain⟨y116,hy116⟩ : ∃ y_:List Int,y_=(x3_1 ++ [bt a0 x4_1]):=⟨_,rfl⟩;replace H:(qwq.l0 k1 a0 y116 (wrap64 (x4_1 + 1)))=some r:=by first|(rw[hy116];with_reducible exact H)|(have H2_:=(Option.bind_some _ _).symm.trans H;rw[hy116];with_reducible exact H2_)|(have H2_:=(Option.bind_some _ _).symm.trans H;with_reducible exact H2_)|with_reducible exact H|(rw[hy116];exact H)|exact H
        have Ny116:=O.mk hy116;clear hy116;have H':=O.mk H;clear H;have p6 : 0≤(x4_1:Int):=of_decide_eq_true (by assumption);have q6:x4_1 < (a0.size:Int):=of_decide_eq_true (by assumption);have hx6:=bt_at a0 x4_1;replace p6:=eq_true p6;replace q6:=eq_true q6;have p13 : 0≤(x4_1:Int):=of_decide_eq_true (by assumption);have q13:x4_1 < (a0.size:Int):=of_decide_eq_true (by assumption);have hx13:=bt_at a0 x4_1;replace p13:=eq_true p13;replace q13:=eq_true q13;have p20 : 0≤(x4_1:Int):=of_decide_eq_true (by assumption);have q20:x4_1 < (a0.size:Int):=of_decide_eq_true (by assumption);have hx20:=bt_at a0 x4_1;replace p20:=eq_true p20;replace q20:=eq_true q20;go_wp2_with (first|((with_reducible refine gate_builtin (b:=.append) (xs:=#[.tmp 25,.tmp 29]) rfl ?_);at_builtin;refine Kd.R_append (Kd.int .u8) (w0:=w) w.heap.size rfl (.tmp 25) (.tmp 29) 34 5 (.int .u8 0) 1 rfl Tryz.underlying34 info5 rfl (by decide) (by omega) u3 x3_1 (bt a0 x4_1) [.int .u8 (bt a0 x4_1)] (fun _=>True) (fun _=>False) rfl rfl ?aP (fun _ hk=>hk.elim) ?aF ?aO ?aB ?aS ?aL ?_;(case aP=>exact rfl);(case aB=>exact(by solve_by_elim only[HB.out,J,L,I]));(case aF=>exact(fun _ _=>trivial));(case aO=>exact(by solve_by_elim only[HO_3.out,Kd.zk,Kd.zj,Kd.zv]));(case aS=>exact(zz (by solve_by_elim only[HB.out,J,L,I])));(case aL=>have:=LMc21.out;omega);intro v117 w22 ho hb hg hat;rw[← Ny116.out] at ho;replace HB:=O.mk (hb);have HO118:=O.mk (ho);clear HO_3;clear ho hb hg hat))
        go_roundg k1
        case measure=>have:=HK1.out;omega
        case rel=>exact⟨(y116),(wrap64 (x4_1 + 1)),(by first|rfl|(simp;done)|(simp[*];done)),H',⟨by have:=HK1.out;omega⟩,⟨by(with_reducible repeat(first|apply Kd.zk|apply Kd.zj|apply Kd.zv));exact HO118.out⟩,⟨by solve_by_elim only[HB.out,J,L,I]⟩⟩
       ·rw[if_neg c21] at H;exact absurd H (by simp)
    ·rw[if_neg c5] at H;exact absurd H (by simp)
   ·rw[if_neg c4] at H;have c4b0:decide (x4_1 < (a0.size:Int))=false:=decide_eq_false c4;clear c4
    by_cases c23:x3_1.length < 140737488355328
    ·rw[if_pos c23] at H;have LMc23:=O.mk c23;clear c23;obtain⟨y119,hy119⟩ : ∃ y_:List Int,y_=(x3_1 ++ [34]):=⟨_,rfl⟩;replace H:(some (strOfNums y119))=some r:=by first|(rw[hy119];with_reducible exact H)|(have H2_:=(Option.bind_some _ _).symm.trans H;rw[hy119];with_reducible exact H2_)|(have H2_:=(Option.bind_some _ _).symm.trans H;with_reducible exact H2_)|with_reducible exact H|(rw[hy119];exact H)|exact H
     have Ny119:=O.mk hy119;clear hy119;obtain rfl:=Option.some.inj H;go_wp2_with (first|((with_reducible refine gate_builtin (b:=.append) (xs:=#[.tmp 31,.tmp 32]) rfl ?_);at_builtin;refine Kd.R_append (Kd.int .u8) (w0:=w) w.heap.size rfl (.tmp 31) (.tmp 32) 34 5 (.int .u8 0) 1 rfl Tryz.underlying34 info5 rfl (by decide) (by omega) u3 x3_1 34 [.int .u8 34] (fun _=>True) (fun _=>False) rfl rfl ?aP (fun _ hk=>hk.elim) ?aF ?aO ?aB ?aS ?aL ?_;(case aP=>exact rfl);(case aB=>exact(by solve_by_elim only[HB.out,J,L,I]));(case aF=>exact(fun _ _=>trivial));(case aO=>exact(by solve_by_elim only[HO_3.out,Kd.zk,Kd.zj,Kd.zv]));(case aS=>exact(zz (by solve_by_elim only[HB.out,J,L,I])));(case aL=>have:=LMc23.out;omega);intro v120 w24 ho hb hg hat;rw[← Ny119.out] at ho;replace HB:=O.mk (hb);have HO121:=O.mk (ho);clear HO_3;clear ho hb hg hat;have hcv25:=own_string (P:=Tryz.prog) Tryz.underlying34 Tryz.underlying5 Tryz.underlying9 (Kd.own_of_R HO121.out)))
     go_ret
     exact⟨by first|rfl|(simp[*,zx,zw] <;> rfl),by solve_by_elim only[HB.out,J,L,I]⟩
    ·rw[if_neg c23] at H;exact absurd H (by simp)
end Go.Proofs.YtnbbbjfjkhglhaaGreatDoor.Pr
namespace Go.Proofs.YtnbbbjfjkhglhaaGreatDoor.Pr
open Go.RowKit Go.Proofs.YtnbbbjfjkhglhaaGreatDoorW.PrintWords Go.Proofs.YtnbbbjfjkhglhaaGreatDoorW.PrintLast Go.Proofs.YtnbbbjfjkhglhaaGreatDoorW.PrintMore
attribute [local go_sem] max2_int min2_int max_two min_two max_three min_three max_four min_four
set_option linter.unusedVariables false
set_option linter.unusedSimpArgs false
def qwj.l0:Nat→ByteArray→Int→Int→ByteArray→ByteArray→Option (ByteArray)
 | 0,_,_,_,_,_=>none
 | k + 1,x3,x102000,x102001,x102002,x102003=>if (x3.size:Int) < 5 then(if 1 + x3.size≤9223372036854775807 then(qwj.l0 k ((⟨#[48]⟩ : ByteArray) ++ x3) x102000 x102001 x102002 x102003) else(none)) else(if 0≤(wrap64 ((x3.size:Int) - 4)) then(if (wrap64 ((x3.size:Int) - 4))≤(x3.size:Int) then(if (x3.extract 0 ((wrap64 ((x3.size:Int) - 4)):Int).toNat).size + 1≤9223372036854775807 then(if ((x3.extract 0 ((wrap64 ((x3.size:Int) - 4)):Int).toNat) ++ (⟨#[46]⟩ : ByteArray)).size + (x3.extract ((wrap64 ((x3.size:Int) - 4)):Int).toNat x3.size).size≤9223372036854775807 then(if x102001 < 0 then(if 1 + (((x3.extract 0 ((wrap64 ((x3.size:Int) - 4)):Int).toNat) ++ (⟨#[46]⟩ : ByteArray)) ++ (x3.extract ((wrap64 ((x3.size:Int) - 4)):Int).toNat x3.size)).size≤9223372036854775807 then(some ((⟨#[45]⟩ : ByteArray) ++ (((x3.extract 0 ((wrap64 ((x3.size:Int) - 4)):Int).toNat) ++ (⟨#[46]⟩ : ByteArray)) ++ (x3.extract ((wrap64 ((x3.size:Int) - 4)):Int).toNat x3.size)))) else(none)) else(some (((x3.extract 0 ((wrap64 ((x3.size:Int) - 4)):Int).toNat) ++ (⟨#[46]⟩ : ByteArray)) ++ (x3.extract ((wrap64 ((x3.size:Int) - 4)):Int).toNat x3.size)))) else(none)) else(none)) else(none)) else(none))
def qwj.f (k:Nat) (a0_0:Int) (a0_1:Int) (a0_2:ByteArray) (a0_3:ByteArray):Option (ByteArray):=if a0_0=1 then(if a0_1=1 then(some (⟨#[116,114,117,101]⟩ : ByteArray)) else(some (⟨#[102,97,108,115,101]⟩ : ByteArray))) else(if a0_0=2 then((qvv.f k a0_1).bind fun t102=>(some t102)) else(if a0_0=3 then((qwq.f k a0_2).bind fun t103=>(some t103)) else(if a0_0=4 then(if a0_3.size + 2≤9223372036854775807 then((qwq.f k a0_2).bind fun t104=>(if (a0_3 ++ (⟨#[58,58]⟩ : ByteArray)).size + t104.size≤9223372036854775807 then(some ((a0_3 ++ (⟨#[58,58]⟩ : ByteArray)) ++ t104)) else(none))) else(none)) else(if a0_0=5 then((qwz.f k a0_1).bind fun t105=>(qwj.l0 k t105 a0_0 a0_1 a0_2 a0_3)) else(if a0_0=6 then((qvz.f k a0_0 a0_1 a0_2 a0_3).bind fun bt106=>((qvv.f k (wrap64 (Int.tdiv bt106.1 16777216))).bind fun t108=>(if t108.size + 1≤9223372036854775807 then((qvv.f k (Int.tmod (wrap64 (Int.tdiv bt106.1 65536)) 256)).bind fun t109=>(if (t108 ++ (⟨#[46]⟩ : ByteArray)).size + t109.size≤9223372036854775807 then(if ((t108 ++ (⟨#[46]⟩ : ByteArray)) ++ t109).size + 1≤9223372036854775807 then((qvv.f k (Int.tmod (wrap64 (Int.tdiv bt106.1 256)) 256)).bind fun t110=>(if (((t108 ++ (⟨#[46]⟩ : ByteArray)) ++ t109) ++ (⟨#[46]⟩ : ByteArray)).size + t110.size≤9223372036854775807 then(if ((((t108 ++ (⟨#[46]⟩ : ByteArray)) ++ t109) ++ (⟨#[46]⟩ : ByteArray)) ++ t110).size + 1≤9223372036854775807 then((qvv.f k (Int.tmod bt106.1 256)).bind fun t111=>(if (((((t108 ++ (⟨#[46]⟩ : ByteArray)) ++ t109) ++ (⟨#[46]⟩ : ByteArray)) ++ t110) ++ (⟨#[46]⟩ : ByteArray)).size + t111.size≤9223372036854775807 then(if ((((((t108 ++ (⟨#[46]⟩ : ByteArray)) ++ t109) ++ (⟨#[46]⟩ : ByteArray)) ++ t110) ++ (⟨#[46]⟩ : ByteArray)) ++ t111).size + 1≤9223372036854775807 then((qvv.f k (Int.tmod a0_1 64)).bind fun t112=>(if (((((((t108 ++ (⟨#[46]⟩ : ByteArray)) ++ t109) ++ (⟨#[46]⟩ : ByteArray)) ++ t110) ++ (⟨#[46]⟩ : ByteArray)) ++ t111) ++ (⟨#[47]⟩ : ByteArray)).size + t112.size≤9223372036854775807 then(some ((((((((t108 ++ (⟨#[46]⟩ : ByteArray)) ++ t109) ++ (⟨#[46]⟩ : ByteArray)) ++ t110) ++ (⟨#[46]⟩ : ByteArray)) ++ t111) ++ (⟨#[47]⟩ : ByteArray)) ++ t112)) else(none))) else(none)) else(none))) else(none)) else(none))) else(none)) else(none))) else(none)))) else((qvv.f k a0_1).bind fun t113=>(if 1 + t113.size≤9223372036854775807 then(some ((⟨#[64]⟩ : ByteArray) ++ t113)) else(none))))))))
def qwj.T11:Bool × List (List Nat × List Nat):=(true,[([],[]),([0],[0]),([1],[1]),([],[]),([3],[3]),([4],[4]),([2,5],[2,5]),([6,5,0,1,2,3,4,5,6],[6])])
def qwj.B11:List Nat:=[0,1,3,0,8,24,63,127]
theorem qwj.tab11:rtab .any (opsOf Tryz.f22 11)=qwj.T11:=by kernel_rfl
theorem qwj.bits11:waitsOk qwj.T11.2 qwj.B11=true:=by kernel_rfl
def qwj.T22:Bool × List (List Nat × List Nat):=(true,[([],[]),([0],[0]),([1],[1]),([2],[2]),([],[]),([4],[4]),([5],[5]),([6,2],[6]),([3,7],[3,7]),([8],[8]),([],[]),([10],[10]),([11],[11]),([12,7],[12]),([9,13],[9,13]),([14],[14]),([],[]),([16],[16]),([17,13],[17]),([15,18],[15,18]),([19],[19]),([],[]),([21],[21]),([22],[22]),([23,18],[23]),([20,24],[20,24]),([25,24,0,1,2,3,4,5,6,7,8,9,10,11,12,13,14,15,16,17,18,19,20,21,22,23,24,25],[25])])
def qwj.B22:List Nat:=[0,1,3,7,0,16,48,119,255,511,0,1024,3072,7415,16383,32767,0,65536,212215,524287,1048575,0,2097152,6291456,15154423,33554431,67108863]
theorem qwj.tab22:rtab .any (opsOf Tryz.f22 22)=qwj.T22:=by kernel_rfl
theorem qwj.bits22:waitsOk qwj.T22.2 qwj.B22=true:=by kernel_rfl
theorem qwj.calls (k:Nat) (a0_0:Int) (a0_1:Int) (a0_2:ByteArray) (a0_3:ByteArray) (r:ByteArray) (w:World) (h:qwj.f k a0_0 a0_1 a0_2 a0_3=some r) :
  Calls Tryz.prog 22 #[.agg #[.int .i64 a0_0,.int .i64 a0_1,.string a0_2,.string a0_3]] w fun e w'=>e=.returned (.string r)∧Below w.heap.size w w':=by
 have hu28:=Tryz.underlying28;have HB:=O.mk (Below.refl w.heap.size w);unfold qwj.f at h;have H:=h;clear h
 by_cases c2:a0_0=1
 ·rw[if_pos c2] at H;have c2b0:(a0_0 == 1)=true:=beq_iff_eq.mpr c2;have c2b1:(a0_0 != 1)=false:=bne_eq_false_iff_eq.mpr c2;clear c2
  by_cases c3:a0_1=1
  ·rw[if_pos c3] at H;have c3b0:(a0_1 == 1)=true:=beq_iff_eq.mpr c3;have c3b1:(a0_1 != 1)=false:=bne_eq_false_iff_eq.mpr c3;clear c3;obtain rfl:=Option.some.inj H;go_enter Tryz.func22,Tryz.ntmps22;go_wp2_with (first|((with_reducible refine gate_dst (N:=1) rfl ?_);refine box_event ?hg (N:=1) ?hd (cs:=#[.int .i64 a0_0,.int .i64 a0_1,.string a0_2,.string a0_3]) (t:=28) ?hr ?_;(case hd=>rfl);(case hg=>rfl);(case hr=>first|(go_simp;done)|(go_simp;rfl));intro gb101 hg w4 hbox hb;have BK101:=O.mk (hbox);have GW101:=O.mk ((by rw[hg];exact(zz (by solve_by_elim only[HB.out,J,L,I])):w.heap.size≤gb101));have GE101:=GW101;replace HB:=O.mk (zq (by solve_by_elim only[HB.out,J,L,I]) hb);clear hb hbox hg;obtain⟨y5_0,y5_1,y5_2,y5_3,z5_0,z5_1,z5_2,z5_3⟩:=bx4f BK101.out))
   go_ret
   exact⟨by first|rfl|(simp[*,zx,zw] <;> rfl),by solve_by_elim (maxDepth:=20) only[HB.out,J,L,I,qj,GE101.out]⟩
  ·rw[if_neg c3] at H;have c3b0:(a0_1 == 1)=false:=beq_eq_false_iff_ne.mpr c3;have c3b1:(a0_1 != 1)=true:=bne_iff_ne.mpr c3;obtain rfl:=Option.some.inj H;go_enter Tryz.func22,Tryz.ntmps22;go_wp2_with (first|((with_reducible refine gate_dst (N:=1) rfl ?_);refine box_event ?hg (N:=1) ?hd (cs:=#[.int .i64 a0_0,.int .i64 a0_1,.string a0_2,.string a0_3]) (t:=28) ?hr ?_;(case hd=>rfl);(case hg=>rfl);(case hr=>first|(go_simp;done)|(go_simp;rfl));intro gb101 hg w6 hbox hb;have BK101:=O.mk (hbox);have GW101:=O.mk ((by rw[hg];exact(zz (by solve_by_elim only[HB.out,J,L,I])):w.heap.size≤gb101));have GE101:=GW101;replace HB:=O.mk (zq (by solve_by_elim only[HB.out,J,L,I]) hb);clear hb hbox hg;obtain⟨y7_0,y7_1,y7_2,y7_3,z7_0,z7_1,z7_2,z7_3⟩:=bx4f BK101.out))
   go_ret
   exact⟨by first|rfl|(simp[*,zx,zw] <;> rfl),by solve_by_elim (maxDepth:=20) only[HB.out,J,L,I,qj,GE101.out]⟩
 ·rw[if_neg c2] at H;have c2b0:(a0_0 == 1)=false:=beq_eq_false_iff_ne.mpr c2;have c2b1:(a0_0 != 1)=true:=bne_iff_ne.mpr c2
  by_cases c8:a0_0=2
  ·rw[if_pos c8] at H;have c8b0:(a0_0 == 2)=true:=beq_iff_eq.mpr c8;have c8b1:(a0_0 != 2)=false:=bne_eq_false_iff_eq.mpr c8;clear c8;replace H:=jq8.mp H;obtain⟨t102,A90,H⟩:=H;replace H:(some t102)=some r:=H;have A9:=O.mk A90;clear A90;obtain rfl:=Option.some.inj H;go_enter Tryz.func22,Tryz.ntmps22;go_wp2_with (first|((with_reducible refine gate_dst (N:=1) rfl ?_);refine box_event ?hg (N:=1) ?hd (cs:=#[.int .i64 a0_0,.int .i64 a0_1,.string a0_2,.string a0_3]) (t:=28) ?hr ?_;(case hd=>rfl);(case hg=>rfl);(case hr=>first|(go_simp;done)|(go_simp;rfl));intro gb101 hg w10 hbox hb;have BK101:=O.mk (hbox);have GW101:=O.mk ((by rw[hg];exact(zz (by solve_by_elim only[HB.out,J,L,I])):w.heap.size≤gb101));have GE101:=GW101;replace HB:=O.mk (zq (by solve_by_elim only[HB.out,J,L,I]) hb);clear hb hbox hg;obtain⟨y11_0,y11_1,y11_2,y11_3,z11_0,z11_1,z11_2,z11_3⟩:=bx4f BK101.out)|((with_reducible refine jq (f:=47) rfl ?_);refine goesL_ (some 17) rfl rfl Tryz.func47 (by kernel_rfl) rfl #[.int .i64 a0_1] rfl (by(try simp only[jq0,jq1,jq2]);first|done|rfl|(simp only[jq3,jq4];rfl)) ?_;(with_reducible refine(qvv.calls k a0_1 t102 _ A9.out).mono ?_);rintro e w12 ⟨rfl,hb⟩;refine⟨_,rfl,?_⟩;replace BK101:=O.mk (kz (by solve_by_elim only[BK101.out,qv,qw,qk]) hb);replace HB:=O.mk (zq (by solve_by_elim (maxDepth:=20) only[HB.out,J,L,I,qj,GE101.out]) hb);(try clear hb)))
   go_ret
   exact⟨by first|rfl|(simp[*,zx,zw] <;> rfl),by solve_by_elim (maxDepth:=20) only[HB.out,J,L,I,qj,GE101.out]⟩
  ·rw[if_neg c8] at H;have c8b0:(a0_0 == 2)=false:=beq_eq_false_iff_ne.mpr c8;have c8b1:(a0_0 != 2)=true:=bne_iff_ne.mpr c8
   by_cases c13:a0_0=3
   ·rw[if_pos c13] at H;have c13b0:(a0_0 == 3)=true:=beq_iff_eq.mpr c13;have c13b1:(a0_0 != 3)=false:=bne_eq_false_iff_eq.mpr c13;clear c13;replace H:=jq8.mp H;obtain⟨t103,A140,H⟩:=H;replace H:(some t103)=some r:=H;have A14:=O.mk A140;clear A140;obtain rfl:=Option.some.inj H;go_enter Tryz.func22,Tryz.ntmps22;go_wp2_with (first|((with_reducible refine gate_dst (N:=1) rfl ?_);refine box_event ?hg (N:=1) ?hd (cs:=#[.int .i64 a0_0,.int .i64 a0_1,.string a0_2,.string a0_3]) (t:=28) ?hr ?_;(case hd=>rfl);(case hg=>rfl);(case hr=>first|(go_simp;done)|(go_simp;rfl));intro gb101 hg w15 hbox hb;have BK101:=O.mk (hbox);have GW101:=O.mk ((by rw[hg];exact(zz (by solve_by_elim only[HB.out,J,L,I])):w.heap.size≤gb101));have GE101:=GW101;replace HB:=O.mk (zq (by solve_by_elim only[HB.out,J,L,I]) hb);clear hb hbox hg;obtain⟨y16_0,y16_1,y16_2,y16_3,z16_0,z16_1,z16_2,z16_3⟩:=bx4f BK101.out)|((with_reducible refine jq (f:=48) rfl ?_);refine goesL_ (some 22) rfl rfl Tryz.func48 (by kernel_rfl) rfl #[.string a0_2] rfl (by(try simp only[jq0,jq1,jq2]);first|done|rfl|(simp only[jq3,jq4];rfl)) ?_;(with_reducible refine(qwq.calls k a0_2 t103 _ A14.out).mono ?_);rintro e w17 ⟨rfl,hb⟩;refine⟨_,rfl,?_⟩;replace BK101:=O.mk (kz (by solve_by_elim only[BK101.out,qv,qw,qk]) hb);replace HB:=O.mk (zq (by solve_by_elim (maxDepth:=20) only[HB.out,J,L,I,qj,GE101.out]) hb);(try clear hb)))
    go_ret
    exact⟨by first|rfl|(simp[*,zx,zw] <;> rfl),by solve_by_elim (maxDepth:=20) only[HB.out,J,L,I,qj,GE101.out]⟩
   ·rw[if_neg c13] at H;have c13b0:(a0_0 == 3)=false:=beq_eq_false_iff_ne.mpr c13;have c13b1:(a0_0 != 3)=true:=bne_iff_ne.mpr c13
    by_cases c18:a0_0=4
    ·rw[if_pos c18] at H;have c18b0:(a0_0 == 4)=true:=beq_iff_eq.mpr c18;have c18b1:(a0_0 != 4)=false:=bne_eq_false_iff_eq.mpr c18;clear c18
     by_cases c19:a0_3.size + 2≤9223372036854775807
     ·rw[if_pos c19] at H;have c19b0:=eq_true c19;have c19b1:decide (a0_3.size + 2≤9223372036854775807)=true:=decide_eq_true c19;try have c19b2:(9223372036854775807 < a0_3.size + 2)=False:=eq_false (Nat.not_lt.2 c19)
      replace H:=jq8.mp H;obtain⟨t104,A200,H⟩:=H;try dsimp only at H
      have A20:=O.mk A200;clear A200
      by_cases c21:(a0_3 ++ (⟨#[58,58]⟩ : ByteArray)).size + t104.size≤9223372036854775807
      ·rw[if_pos c21] at H;have c21b0:=eq_true c21;have c21b1:decide ((a0_3 ++ (⟨#[58,58]⟩ : ByteArray)).size + t104.size≤9223372036854775807)=true:=decide_eq_true c21;try have c21b2:(9223372036854775807 < (a0_3 ++ (⟨#[58,58]⟩ : ByteArray)).size + t104.size)=False:=eq_false (Nat.not_lt.2 c21)
       try (have c21b9:=c21b2;simp only[ByteArray.size_append,show(⟨#[58,58]⟩ : ByteArray).size=2 from rfl] at c21b9)
       obtain rfl:=Option.some.inj H;go_enter Tryz.func22,Tryz.ntmps22;try go_wp2_with (first|((with_reducible refine gate_dst (N:=1) rfl ?_);refine box_event ?hg (N:=1) ?hd (cs:=#[.int .i64 a0_0,.int .i64 a0_1,.string a0_2,.string a0_3]) (t:=28) ?hr ?_;(case hd=>rfl);(case hg=>rfl);(case hr=>first|(go_simp;done)|(go_simp;rfl));intro gb101 hg w22 hbox hb;have BK101:=O.mk (hbox);have GW101:=O.mk ((by rw[hg];exact(zz (by solve_by_elim only[HB.out,J,L,I])):w.heap.size≤gb101));have GE101:=GW101;replace HB:=O.mk (zq (by solve_by_elim only[HB.out,J,L,I]) hb);clear hb hbox hg;obtain⟨y23_0,y23_1,y23_2,y23_3,z23_0,z23_1,z23_2,z23_3⟩:=bx4f BK101.out))
       replace BK101:=O.mk (qw BK101.out);replace HB:=O.mk (I HB.out);refine start_ (n:=8) (S:=fun w'=>w'.cell? ⟨gb101,0,none⟩ = some (.int .i64 a0_0)∧w'.cell? ⟨gb101,1,none⟩ = some (.int .i64 a0_1)∧w'.cell? ⟨gb101,2,none⟩ = some (.string a0_2)∧w'.cell? ⟨gb101,3,none⟩ = some (.string a0_3)) (ds:=[]) #[U,U,U,U,U,U,U,U] (by kernel_rfl) rfl rfl ⟨(qz BK101.out 0).trans rfl,(qz BK101.out 1).trans rfl,(qz BK101.out 2).trans rfl,(qz BK101.out 3).trans rfl⟩ (fun hHeld=>?_);refine with_tabW qwj.tab11 qwj.bits11 (fun HT_ HW_=>?_)
       generalize w22.drew=w24 at BK101 HB hHeld ⊢;refine pure_ (i:=0) (N:=some 25) (v:=?_) (a':=?_) #[Z,U,U,U,U,U,U,U] rfl rfl (any_of HT_.out (by kernel_rfl)) (fun _ _ _ h=>h) (Or.inl ⟨by rfl,?_⟩) ?_ ?_;rotate_left
       ·intro w'
        go_simp
        with_reducible rfl
       rotate_left
       ·simp only[Act.put,jq5,jq6,jq7,i64_w,i32_w]
        rfl
       refine pure_ (i:=3) (N:=some 28) (v:=?_) (a':=?_) #[Z,U,U,Z,U,U,U,U] rfl rfl (any_of HT_.out (by kernel_rfl)) (fun _ _ _ h=>h) (Or.inl ⟨by rfl,?_⟩) ?_ ?_;rotate_left
       ·intro w'
        go_simp
        with_reducible rfl
       rotate_left
       ·simp only[Act.put,jq5,jq6,jq7,i64_w,i32_w]
        rfl
       refine take_ (i:=1) (N:=some 26) (v:=?_) (a':=?_) #[Z,Z,U,Z,U,U,U,U] rfl rfl (take_ofW HT_.out HW_.out (by kernel_rfl)) (fun _ _ _ h=>h) (Or.inl ⟨by rfl,?_⟩) hHeld ?_ ?_;rotate_left
       ·rintro w' ⟨s0,s1,s2,s3⟩
        go_simp
        with_reducible rfl
       rotate_left
       ·simp only[Act.put,jq5,jq6,jq7,i64_w,i32_w]
        rfl
       refine pure_ (i:=2) (N:=some 27) (v:=?_) (a':=?_) #[Z,Z,Z,Z,U,U,U,U] rfl rfl (any_of HT_.out (by kernel_rfl)) (fun _ _ _ h=>h) (Or.inl ⟨by rfl,?_⟩) ?_ ?_;rotate_left
       ·intro w'
        go_simp
        with_reducible rfl
       rotate_left
       ·simp only[Act.put,jq5,jq6,jq7,i64_w,i32_w]
        rfl
       refine take_ (i:=4) (N:=some 29) (v:=?_) (a':=?_) #[Z,Z,Z,Z,Z,U,U,U] rfl rfl (take_ofW HT_.out HW_.out (by kernel_rfl)) (fun _ _ _ h=>h) (Or.inl ⟨by rfl,?_⟩) hHeld ?_ ?_;rotate_left
       ·rintro w' ⟨s0,s1,s2,s3⟩
        go_simp
        with_reducible rfl
       rotate_left
       ·simp only[Act.put,jq5,jq6,jq7,i64_w,i32_w]
        rfl
       refine one_ (i:=5) (N:=some 30) #[Z,Z,Z,Z,Z,Z,U,U] rfl rfl (one_of HT_.out (by kernel_rfl)) (by decide) (fun K hK=>?_);refine goes_ Tryz.func48 (by kernel_rfl) rfl #[.string a0_2] (by rfl) rfl rfl (by(try simp only[jq0,jq1,jq2]);first|done|rfl|(simp only[jq3,jq4];rfl)) ?_
       with_reducible refine(qwq.calls k a0_2 t104 _ A20.out).mono ?_
       rintro e w25 ⟨rfl,hb⟩
       refine⟨_,rfl,?_⟩;replace BK101:=O.mk (kz (by solve_by_elim only[BK101.out,qv,qw,qk]) hb);replace HB:=O.mk (zq (by solve_by_elim (maxDepth:=20) only[HB.out,J,L,I,qj,GE101.out]) hb)
       (try clear hb)
       (try clear hb2)
       (try clear hk)
       (try clear hi)
       refine hK.out _ _ (by(repeat' apply And.intro) <;> first|exact(qz BK101.out _).trans rfl) (fun hHeld=>?_);clear hK K;refine norm_ (a':=?_) ?_ ?_;rotate_left
       ·show Act.put _ (some 30) _=_
        simp only[Act.put,jq5,jq6,jq7,i64_w,i32_w]
        rfl
       refine pure_ (i:=6) (N:=some 31) (v:=?_) (a':=?_) #[Z,Z,Z,Z,Z,Z,Z,U] rfl rfl (any_of HT_.out (by kernel_rfl)) (fun _ _ _ h=>h) (Or.inl ⟨by rfl,?_⟩) ?_ ?_;rotate_left
       ·intro w'
        go_simp
        with_reducible rfl
       rotate_left
       ·simp only[Act.put,jq5,jq6,jq7,i64_w,i32_w]
        rfl
       refine pure_ (i:=7) (N:=some 2) (v:=?_) (a':=?_) #[Z,Z,Z,Z,Z,Z,Z,Z] rfl rfl (any_of HT_.out (by kernel_rfl)) (fun _ _ _ h=>h) (Or.inl ⟨by rfl,?_⟩) ?_ ?_;rotate_left
       ·intro w'
        go_simp
        with_reducible rfl
       rotate_left
       ·simp only[Act.put,jq5,jq6,jq7,i64_w,i32_w]
        rfl
       refine done_ (done_of HT_.out (by kernel_rfl)) ?_;try go_wp2
       go_ret
       exact⟨by first|rfl|(simp[*,zx,zw] <;> rfl),by solve_by_elim (maxDepth:=20) only[HB.out,J,L,I,qj,GE101.out]⟩
      ·rw[if_neg c21] at H;exact absurd H (by simp)
     ·rw[if_neg c19] at H;exact absurd H (by simp)
    ·rw[if_neg c18] at H;have c18b0:(a0_0 == 4)=false:=beq_eq_false_iff_ne.mpr c18;have c18b1:(a0_0 != 4)=true:=bne_iff_ne.mpr c18
     by_cases c26:a0_0=5
     ·rw[if_pos c26] at H;have c26b0:(a0_0 == 5)=true:=beq_iff_eq.mpr c26;have c26b1:(a0_0 != 5)=false:=bne_eq_false_iff_eq.mpr c26;clear c26;replace H:=jq8.mp H;obtain⟨t105,A270,H⟩:=H;try dsimp only at H
      have A27:=O.mk A270;clear A270;have H':=O.mk H;clear H;go_enter Tryz.func22,Tryz.ntmps22;go_wp2_with (first|((with_reducible refine gate_dst (N:=1) rfl ?_);refine box_event ?hg (N:=1) ?hd (cs:=#[.int .i64 a0_0,.int .i64 a0_1,.string a0_2,.string a0_3]) (t:=28) ?hr ?_;(case hd=>rfl);(case hg=>rfl);(case hr=>first|(go_simp;done)|(go_simp;rfl));intro gb101 hg w28 hbox hb;have BK101:=O.mk (hbox);have GW101:=O.mk ((by rw[hg];exact(zz (by solve_by_elim only[HB.out,J,L,I])):w.heap.size≤gb101));have GE101:=GW101;replace HB:=O.mk (zq (by solve_by_elim only[HB.out,J,L,I]) hb);clear hb hbox hg;obtain⟨y29_0,y29_1,y29_2,y29_3,z29_0,z29_1,z29_2,z29_3⟩:=bx4f BK101.out)|((with_reducible refine jq (f:=49) rfl ?_);refine goesL_ (some 36) rfl rfl Tryz.func49 (by kernel_rfl) rfl #[.int .i64 a0_1] rfl (by(try simp only[jq0,jq1,jq2]);first|done|rfl|(simp only[jq3,jq4];rfl)) ?_;(with_reducible refine(qwz.calls k a0_1 t105 _ A27.out).mono ?_);rintro e w30 ⟨rfl,hb⟩;refine⟨_,rfl,?_⟩;replace BK101:=O.mk (kz (by solve_by_elim only[BK101.out,qv,qw,qk]) hb);replace HB:=O.mk (zq (by solve_by_elim (maxDepth:=20) only[HB.out,J,L,I,qj,GE101.out]) hb);(try clear hb)))
      go_loopg [3] k (fun kq v3 w'=>∃ (x3_1:ByteArray),v3=.string x3_1∧O (qwj.l0 kq x3_1 a0_0 a0_1 a0_2 a0_3=some r)∧O (kq≤k)∧O (w'.heap[gb101]? = some (.cells #[.int .i64 a0_0,.int .i64 a0_1,.string a0_2,.string a0_3] 28 (0,0)))∧O (Below w.heap.size w w'))
      case atStart=>exact⟨(t105),(by first|rfl|(simp;done)|(simp[*];done)),H',⟨Nat.le_refl _⟩,⟨by(with_reducible repeat(first|refine qv ?_ _|refine qw ?_|refine qk ?_ _));exact BK101.out⟩,⟨by solve_by_elim (maxDepth:=20) only[HB.out,J,L,I,qj,GE101.out]⟩⟩
      case round =>
       clear H';try clear c1
       try clear c2
       try clear c2b0
       try clear c2b1
       try clear p2
       try clear c3
       try clear c3b0
       try clear c3b1
       try clear c4
       try clear p6
       try clear c8
       try clear c8b0
       try clear c8b1
       try clear c13
       try clear c13b0
       try clear c13b1
       try clear c18
       try clear c18b0
       try clear c18b1
       try clear c19
       try clear c19b0
       try clear c19b1
       try clear c19b2
       try clear c21
       try clear c21b0
       try clear c21b1
       try clear c21b2
       try clear c22
       try clear c26
       try clear c26b0
       try clear c26b1
       try clear y11_0 y11_1 y11_2 y11_3 z11_0 z11_1 z11_2 z11_3
       try clear y16_0 y16_1 y16_2 y16_3 z16_0 z16_1 z16_2 z16_3
       try clear y23_0 y23_1 y23_2 y23_3 z23_0 z23_1 z23_2 z23_3
       try clear y29_0 y29_1 y29_2 y29_3 z29_0 z29_1 z29_2 z29_3
       try clear y5_0 y5_1 y5_2 y5_3 z5_0 z5_1 z5_2 z5_3
       try clear y7_0 y7_1 y7_2 y7_3 z7_0 z7_1 z7_2 z7_3
       obtain⟨x3_1,rfl,HA,HK1,BK101,HB⟩:=hrel
       cases gk with
       | zero=>exact absurd HA.out (by simp[qwj.l0])
       | succ k1 =>
        have H:=HA.out;clear HA;simp only[qwj.l0] at H
        by_cases c31:(x3_1.size:Int) < 5
        ·rw[if_pos c31] at H;have c31b0:decide ((x3_1.size:Int) < 5)=true:=decide_eq_true c31;have c31b1:decide (x3_1.size < 5)=true:=decide_eq_true (by omega);clear c31
         by_cases c32 : 1 + x3_1.size≤9223372036854775807
         ·rw[if_pos c32] at H;have c32b0:=eq_true c32;have c32b1:decide (1 + x3_1.size≤9223372036854775807)=true:=decide_eq_true c32;try have c32b2:(9223372036854775807 < 1 + x3_1.size)=False:=eq_false (Nat.not_lt.2 c32)
          have H':=O.mk H;clear H;go_wp2;go_roundg k1
          case measure=>have:=HK1.out;omega
          case rel=>exact⟨((⟨#[48]⟩ : ByteArray) ++ x3_1),(by first|rfl|(simp;done)|(simp[*];done)),H',⟨by have:=HK1.out;omega⟩,⟨by(with_reducible repeat(first|refine qv ?_ _|refine qw ?_|refine qk ?_ _));exact BK101.out⟩,⟨by solve_by_elim (maxDepth:=20) only[HB.out,J,L,I,qj,GE101.out]⟩⟩
         ·rw[if_neg c32] at H;exact absurd H (by simp)
        ·rw[if_neg c31] at H;have c31b0:decide ((x3_1.size:Int) < 5)=false:=decide_eq_false c31;have c31b1:decide (x3_1.size < 5)=false:=decide_eq_false (by omega);clear c31;obtain⟨ji33,hji33⟩ : ∃ j_:Int,(wrap64 ((x3_1.size:Int) - 4))=j_:=⟨_,rfl⟩;replace H:(if 0≤(ji33) then(if (ji33)≤(x3_1.size:Int) then(if (x3_1.extract 0 ((ji33):Int).toNat).size + 1≤9223372036854775807 then(if ((x3_1.extract 0 ((ji33):Int).toNat) ++ (⟨#[46]⟩ : ByteArray)).size + (x3_1.extract ((ji33):Int).toNat x3_1.size).size≤9223372036854775807 then(if a0_1 < 0 then(if 1 + (((x3_1.extract 0 ((ji33):Int).toNat) ++ (⟨#[46]⟩ : ByteArray)) ++ (x3_1.extract ((ji33):Int).toNat x3_1.size)).size≤9223372036854775807 then(some ((⟨#[45]⟩ : ByteArray) ++ (((x3_1.extract 0 ((ji33):Int).toNat) ++ (⟨#[46]⟩ : ByteArray)) ++ (x3_1.extract ((ji33):Int).toNat x3_1.size)))) else(none)) else(some (((x3_1.extract 0 ((ji33):Int).toNat) ++ (⟨#[46]⟩ : ByteArray)) ++ (x3_1.extract ((ji33):Int).toNat x3_1.size)))) else(none)) else(none)) else(none)) else(none))=some r:=by first|(rw[hji33] at H;exact H)|(simp only[hji33] at H ⊢;exact H)
         have hji33w:(IntKind.i64.wrap ((x3_1.size:Int) - 4))=ji33:=(i64_w _).trans hji33
         by_cases c34 : 0≤(ji33)
         ·rw[if_pos c34] at H;have c34b0:=eq_true c34;have c34b1:decide (0≤(ji33))=true:=decide_eq_true c34;clear c34
          by_cases c35:(ji33)≤(x3_1.size:Int)
          ·rw[if_pos c35] at H;have c35b0:=eq_true c35;have c35b1:decide ((ji33)≤(x3_1.size:Int))=true:=decide_eq_true c35;clear c35
           by_cases c36:(x3_1.extract 0 ((ji33):Int).toNat).size + 1≤9223372036854775807
           ·rw[if_pos c36] at H;have c36b0:=eq_true c36;have c36b1:decide ((x3_1.extract 0 ((ji33):Int).toNat).size + 1≤9223372036854775807)=true:=decide_eq_true c36;try have c36b2:(9223372036854775807 < (x3_1.extract 0 ((ji33):Int).toNat).size + 1)=False:=eq_false (Nat.not_lt.2 c36)
            have c36b5:(9223372036854775807 < ji33.toNat + 1)=False:=eq_false (by
             have e_:=c36
             have e1_:(ji33:Int).toNat≤x3_1.size:=by
              have e2_:=of_eq_true c35b0;clear hji33 hji33w
              omega
             simp only[ByteArray.size_append,ByteArray.size_extract,Nat.min_eq_left e1_,Nat.sub_zero,Nat.min_self,show(⟨#[46]⟩ : ByteArray).size=1 from rfl,show(⟨#[47]⟩ : ByteArray).size=1 from rfl] at e_;exact Nat.not_lt.2 e_)
            have c37b0:=eq_true (of_decide_eq_true (by assumption) : 0≤(ji33));have c38b0:=eq_true (of_decide_eq_true (by assumption):(ji33)≤(x3_1.size:Int))
            by_cases c39:((x3_1.extract 0 ((ji33):Int).toNat) ++ (⟨#[46]⟩ : ByteArray)).size + (x3_1.extract ((ji33):Int).toNat x3_1.size).size≤9223372036854775807
            ·rw[if_pos c39] at H;have c39b0:=eq_true c39;have c39b1:decide (((x3_1.extract 0 ((ji33):Int).toNat) ++ (⟨#[46]⟩ : ByteArray)).size + (x3_1.extract ((ji33):Int).toNat x3_1.size).size≤9223372036854775807)=true:=decide_eq_true c39;try have c39b2:(9223372036854775807 < ((x3_1.extract 0 ((ji33):Int).toNat) ++ (⟨#[46]⟩ : ByteArray)).size + (x3_1.extract ((ji33):Int).toNat x3_1.size).size)=False:=eq_false (Nat.not_lt.2 c39)
             have c39b5:(9223372036854775807 < ji33.toNat + 1 + (x3_1.size - ji33.toNat))=False:=eq_false (by
              have e_:=c39
              have e1_:(ji33:Int).toNat≤x3_1.size:=by
               have e2_:=of_eq_true c35b0;clear hji33 hji33w
               omega
              simp only[ByteArray.size_append,ByteArray.size_extract,Nat.min_eq_left e1_,Nat.sub_zero,Nat.min_self,show(⟨#[46]⟩ : ByteArray).size=1 from rfl,show(⟨#[47]⟩ : ByteArray).size=1 from rfl] at e_;exact Nat.not_lt.2 e_)
             try (have c39b9:=c39b2;simp only[ByteArray.size_append,show(⟨#[46]⟩ : ByteArray).size=1 from rfl] at c39b9)
             by_cases c40:a0_1 < 0
             ·rw[if_pos c40] at H;have c40b0:decide (a0_1 < 0)=true:=decide_eq_true c40;clear c40
              by_cases c41 : 1 + (((x3_1.extract 0 ((ji33):Int).toNat) ++ (⟨#[46]⟩ : ByteArray)) ++ (x3_1.extract ((ji33):Int).toNat x3_1.size)).size≤9223372036854775807
              ·rw[if_pos c41] at H;have c41b0:=eq_true c41;have c41b1:decide (1 + (((x3_1.extract 0 ((ji33):Int).toNat) ++ (⟨#[46]⟩ : ByteArray)) ++ (x3_1.extract ((ji33):Int).toNat x3_1.size)).size≤9223372036854775807)=true:=decide_eq_true c41;try have c41b2:(9223372036854775807 < 1 + (((x3_1.extract 0 ((ji33):Int).toNat) ++ (⟨#[46]⟩ : ByteArray)) ++ (x3_1.extract ((ji33):Int).toNat x3_1.size)).size)=False:=eq_false (Nat.not_lt.2 c41)
               have c41b5:(9223372036854775807 < 1 + (ji33.toNat + 1 + (x3_1.size - ji33.toNat)))=False:=eq_false (by
                have e_:=c41
                have e1_:(ji33:Int).toNat≤x3_1.size:=by
                 have e2_:=of_eq_true c35b0;clear hji33 hji33w
                 omega
                simp only[ByteArray.size_append,ByteArray.size_extract,Nat.min_eq_left e1_,Nat.sub_zero,Nat.min_self,show(⟨#[46]⟩ : ByteArray).size=1 from rfl,show(⟨#[47]⟩ : ByteArray).size=1 from rfl] at e_;exact Nat.not_lt.2 e_)
               try (have c41b9:=c41b2;simp only[ByteArray.size_append,show(⟨#[46]⟩ : ByteArray).size=1 from rfl] at c41b9)
               obtain rfl:=Option.some.inj H;try go_wp2
               go_quiet (fail)
               replace BK101:=O.mk (qv BK101.out nq);replace HB:=O.mk (L HB.out nq);generalize World.drewN wr nq=w42 at BK101 HB ⊢;obtain⟨y43_0,y43_1,y43_2,y43_3,z43_0,z43_1,z43_2,z43_3⟩:=bx4f BK101.out;try go_wp2
               go_ret
               exact⟨by first|rfl|(simp[zx,zw] <;> rfl)|(simp only[← hji33];first|rfl|(simp[zx,zw] <;> rfl))|(simp[*,zx,zw] <;> rfl),by solve_by_elim (maxDepth:=20) only[HB.out,J,L,I,qj,GE101.out]⟩
              ·rw[if_neg c41] at H;exact absurd H (by simp)
             ·rw[if_neg c40] at H;have c40b0:decide (a0_1 < 0)=false:=decide_eq_false c40;clear c40;obtain rfl:=Option.some.inj H;try go_wp2
              go_quiet (fail)
              replace BK101:=O.mk (qv BK101.out nq);replace HB:=O.mk (L HB.out nq);generalize World.drewN wr nq=w44 at BK101 HB ⊢;obtain⟨y45_0,y45_1,y45_2,y45_3,z45_0,z45_1,z45_2,z45_3⟩:=bx4f BK101.out;try go_wp2
              go_ret
              exact⟨by first|rfl|(simp[zx,zw] <;> rfl)|(simp only[← hji33];first|rfl|(simp[zx,zw] <;> rfl))|(simp[*,zx,zw] <;> rfl),by solve_by_elim (maxDepth:=20) only[HB.out,J,L,I,qj,GE101.out]⟩
            ·rw[if_neg c39] at H;exact absurd H (by simp)
           ·rw[if_neg c36] at H;exact absurd H (by simp)
          ·rw[if_neg c35] at H;exact absurd H (by simp)
         ·rw[if_neg c34] at H;exact absurd H (by simp)
     ·rw[if_neg c26] at H;have c26b0:(a0_0 == 5)=false:=beq_eq_false_iff_ne.mpr c26;have c26b1:(a0_0 != 5)=true:=bne_iff_ne.mpr c26
      by_cases c46:a0_0=6
      ·rw[if_pos c46] at H;have c46b0:(a0_0 == 6)=true:=beq_iff_eq.mpr c46;have c46b1:(a0_0 != 6)=false:=bne_eq_false_iff_eq.mpr c46;clear c46;replace H:=jq8.mp H;obtain⟨⟨t106,t107⟩,A470,H⟩:=H;try dsimp only at H
       have A47:=O.mk A470;clear A470;replace H:=jq8.mp H;obtain⟨t108,A480,H⟩:=H;try dsimp only at H
       have A48:=O.mk A480;clear A480
       by_cases c49:t108.size + 1≤9223372036854775807
       ·rw[if_pos c49] at H;have c49b0:=eq_true c49;have c49b1:decide (t108.size + 1≤9223372036854775807)=true:=decide_eq_true c49;try have c49b2:(9223372036854775807 < t108.size + 1)=False:=eq_false (Nat.not_lt.2 c49)
        replace H:=jq8.mp H;obtain⟨t109,A500,H⟩:=H;try dsimp only at H
        have A50:=O.mk A500;clear A500
        by_cases c51:(t108 ++ (⟨#[46]⟩ : ByteArray)).size + t109.size≤9223372036854775807
        ·rw[if_pos c51] at H;have c51b0:=eq_true c51;have c51b1:decide ((t108 ++ (⟨#[46]⟩ : ByteArray)).size + t109.size≤9223372036854775807)=true:=decide_eq_true c51;try have c51b2:(9223372036854775807 < (t108 ++ (⟨#[46]⟩ : ByteArray)).size + t109.size)=False:=eq_false (Nat.not_lt.2 c51)
         try (have c51b9:=c51b2;simp only[ByteArray.size_append,show(⟨#[46]⟩ : ByteArray).size=1 from rfl] at c51b9)
         by_cases c52:((t108 ++ (⟨#[46]⟩ : ByteArray)) ++ t109).size + 1≤9223372036854775807
         ·rw[if_pos c52] at H;have c52b0:=eq_true c52;have c52b1:decide (((t108 ++ (⟨#[46]⟩ : ByteArray)) ++ t109).size + 1≤9223372036854775807)=true:=decide_eq_true c52;try have c52b2:(9223372036854775807 < ((t108 ++ (⟨#[46]⟩ : ByteArray)) ++ t109).size + 1)=False:=eq_false (Nat.not_lt.2 c52)
          try (have c52b9:=c52b2;simp only[ByteArray.size_append,show(⟨#[46]⟩ : ByteArray).size=1 from rfl] at c52b9)
          replace H:=jq8.mp H;obtain⟨t110,A530,H⟩:=H;try dsimp only at H
          have A53:=O.mk A530;clear A530
          by_cases c54:(((t108 ++ (⟨#[46]⟩ : ByteArray)) ++ t109) ++ (⟨#[46]⟩ : ByteArray)).size + t110.size≤9223372036854775807
          ·rw[if_pos c54] at H;have c54b0:=eq_true c54;have c54b1:decide ((((t108 ++ (⟨#[46]⟩ : ByteArray)) ++ t109) ++ (⟨#[46]⟩ : ByteArray)).size + t110.size≤9223372036854775807)=true:=decide_eq_true c54;try have c54b2:(9223372036854775807 < (((t108 ++ (⟨#[46]⟩ : ByteArray)) ++ t109) ++ (⟨#[46]⟩ : ByteArray)).size + t110.size)=False:=eq_false (Nat.not_lt.2 c54)
           try (have c54b9:=c54b2;simp only[ByteArray.size_append,show(⟨#[46]⟩ : ByteArray).size=1 from rfl] at c54b9)
           by_cases c55:((((t108 ++ (⟨#[46]⟩ : ByteArray)) ++ t109) ++ (⟨#[46]⟩ : ByteArray)) ++ t110).size + 1≤9223372036854775807
           ·rw[if_pos c55] at H;have c55b0:=eq_true c55;have c55b1:decide (((((t108 ++ (⟨#[46]⟩ : ByteArray)) ++ t109) ++ (⟨#[46]⟩ : ByteArray)) ++ t110).size + 1≤9223372036854775807)=true:=decide_eq_true c55;try have c55b2:(9223372036854775807 < ((((t108 ++ (⟨#[46]⟩ : ByteArray)) ++ t109) ++ (⟨#[46]⟩ : ByteArray)) ++ t110).size + 1)=False:=eq_false (Nat.not_lt.2 c55)
            try (have c55b9:=c55b2;simp only[ByteArray.size_append,show(⟨#[46]⟩ : ByteArray).size=1 from rfl] at c55b9)
            replace H:=jq8.mp H;obtain⟨t111,A560,H⟩:=H;try dsimp only at H
            have A56:=O.mk A560;clear A560
            by_cases c57:(((((t108 ++ (⟨#[46]⟩ : ByteArray)) ++ t109) ++ (⟨#[46]⟩ : ByteArray)) ++ t110) ++ (⟨#[46]⟩ : ByteArray)).size + t111.size≤9223372036854775807
            ·rw[if_pos c57] at H;have c57b0:=eq_true c57;have c57b1:decide ((((((t108 ++ (⟨#[46]⟩ : ByteArray)) ++ t109) ++ (⟨#[46]⟩ : ByteArray)) ++ t110) ++ (⟨#[46]⟩ : ByteArray)).size + t111.size≤9223372036854775807)=true:=decide_eq_true c57;try have c57b2:(9223372036854775807 < (((((t108 ++ (⟨#[46]⟩ : ByteArray)) ++ t109) ++ (⟨#[46]⟩ : ByteArray)) ++ t110) ++ (⟨#[46]⟩ : ByteArray)).size + t111.size)=False:=eq_false (Nat.not_lt.2 c57)
             try (have c57b9:=c57b2;simp only[ByteArray.size_append,show(⟨#[46]⟩ : ByteArray).size=1 from rfl] at c57b9)
             by_cases c58:((((((t108 ++ (⟨#[46]⟩ : ByteArray)) ++ t109) ++ (⟨#[46]⟩ : ByteArray)) ++ t110) ++ (⟨#[46]⟩ : ByteArray)) ++ t111).size + 1≤9223372036854775807
             ·rw[if_pos c58] at H;have c58b0:=eq_true c58;have c58b1:decide (((((((t108 ++ (⟨#[46]⟩ : ByteArray)) ++ t109) ++ (⟨#[46]⟩ : ByteArray)) ++ t110) ++ (⟨#[46]⟩ : ByteArray)) ++ t111).size + 1≤9223372036854775807)=true:=decide_eq_true c58;try have c58b2:(9223372036854775807 < ((((((t108 ++ (⟨#[46]⟩ : ByteArray)) ++ t109) ++ (⟨#[46]⟩ : ByteArray)) ++ t110) ++ (⟨#[46]⟩ : ByteArray)) ++ t111).size + 1)=False:=eq_false (Nat.not_lt.2 c58)
              try (have c58b9:=c58b2;simp only[ByteArray.size_append,show(⟨#[46]⟩ : ByteArray).size=1 from rfl] at c58b9)
              replace H:=jq8.mp H;obtain⟨t112,A590,H⟩:=H;try dsimp only at H
              have A59:=O.mk A590;clear A590
              by_cases c60:(((((((t108 ++ (⟨#[46]⟩ : ByteArray)) ++ t109) ++ (⟨#[46]⟩ : ByteArray)) ++ t110) ++ (⟨#[46]⟩ : ByteArray)) ++ t111) ++ (⟨#[47]⟩ : ByteArray)).size + t112.size≤9223372036854775807
              ·rw[if_pos c60] at H;have c60b0:=eq_true c60;have c60b1:decide ((((((((t108 ++ (⟨#[46]⟩ : ByteArray)) ++ t109) ++ (⟨#[46]⟩ : ByteArray)) ++ t110) ++ (⟨#[46]⟩ : ByteArray)) ++ t111) ++ (⟨#[47]⟩ : ByteArray)).size + t112.size≤9223372036854775807)=true:=decide_eq_true c60;try have c60b2:(9223372036854775807 < (((((((t108 ++ (⟨#[46]⟩ : ByteArray)) ++ t109) ++ (⟨#[46]⟩ : ByteArray)) ++ t110) ++ (⟨#[46]⟩ : ByteArray)) ++ t111) ++ (⟨#[47]⟩ : ByteArray)).size + t112.size)=False:=eq_false (Nat.not_lt.2 c60)
               try (have c60b9:=c60b2;simp only[ByteArray.size_append,show(⟨#[46]⟩ : ByteArray).size=1 from rfl,show(⟨#[47]⟩ : ByteArray).size=1 from rfl] at c60b9)
               obtain rfl:=Option.some.inj H;go_enter Tryz.func22,Tryz.ntmps22;try go_wp2_with (first|((with_reducible refine gate_dst (N:=1) rfl ?_);refine box_event ?hg (N:=1) ?hd (cs:=#[.int .i64 a0_0,.int .i64 a0_1,.string a0_2,.string a0_3]) (t:=28) ?hr ?_;(case hd=>rfl);(case hg=>rfl);(case hr=>first|(go_simp;done)|(go_simp;rfl));intro gb101 hg w61 hbox hb;have BK101:=O.mk (hbox);have GW101:=O.mk ((by rw[hg];exact(zz (by solve_by_elim only[HB.out,J,L,I])):w.heap.size≤gb101));have GE101:=GW101;replace HB:=O.mk (zq (by solve_by_elim only[HB.out,J,L,I]) hb);clear hb hbox hg;obtain⟨y62_0,y62_1,y62_2,y62_3,z62_0,z62_1,z62_2,z62_3⟩:=bx4f BK101.out)|((with_reducible refine jq (f:=50) rfl ?_);refine goesL_ (some 64) rfl rfl Tryz.func50 (by kernel_rfl) rfl #[.agg #[.int .i64 a0_0,.int .i64 a0_1,.string a0_2,.string a0_3]] rfl (by(try simp only[jq0,jq1,jq2]);first|done|rfl|(simp only[jq3,jq4];rfl)) ?_;(with_reducible refine(qvz.calls k a0_0 a0_1 a0_2 a0_3 t106 t107 _ A47.out).mono ?_);rintro e w63 ⟨rfl,hb⟩;refine⟨_,rfl,?_⟩;replace BK101:=O.mk (kz (by solve_by_elim only[BK101.out,qv,qw,qk]) hb);replace HB:=O.mk (zq (by solve_by_elim (maxDepth:=20) only[HB.out,J,L,I,qj,GE101.out]) hb);(try clear hb)))
               replace BK101:=O.mk (qw BK101.out);replace HB:=O.mk (I HB.out);refine start_ (n:=27) (S:=fun w'=>w'.cell? ⟨gb101,0,none⟩ = some (.int .i64 a0_0)∧w'.cell? ⟨gb101,1,none⟩ = some (.int .i64 a0_1)∧w'.cell? ⟨gb101,2,none⟩ = some (.string a0_2)∧w'.cell? ⟨gb101,3,none⟩ = some (.string a0_3)) (ds:=[]) #[U,U,U,U,U,U,U,U,U,U,U,U,U,U,U,U,U,U,U,U,U,U,U,U,U,U,U] (by kernel_rfl) rfl rfl ⟨(qz BK101.out 0).trans rfl,(qz BK101.out 1).trans rfl,(qz BK101.out 2).trans rfl,(qz BK101.out 3).trans rfl⟩ (fun hHeld=>?_);refine with_tabW qwj.tab22 qwj.bits22 (fun HT_ HW_=>?_)
               generalize w63.drew=w64 at BK101 HB hHeld ⊢;refine pure_ (i:=0) (N:=some 67) (v:=?_) (a':=?_) #[Z,U,U,U,U,U,U,U,U,U,U,U,U,U,U,U,U,U,U,U,U,U,U,U,U,U,U] rfl rfl (any_of HT_.out (by kernel_rfl)) (fun _ _ _ h=>h) (Or.inl ⟨by rfl,?_⟩) ?_ ?_;rotate_left
               ·intro w'
                go_simp
                with_reducible rfl
               rotate_left
               ·simp only[Act.put,jq5,jq6,jq7,i64_w,i32_w]
                rfl
               refine pure_ (i:=1) (N:=some 68) (v:=?_) (a':=?_) #[Z,Z,U,U,U,U,U,U,U,U,U,U,U,U,U,U,U,U,U,U,U,U,U,U,U,U,U] rfl rfl (any_of HT_.out (by kernel_rfl)) (fun _ _ _ h=>h) (Or.inl ⟨by rfl,?_⟩) ?_ ?_;rotate_left
               ·intro w'
                go_simp
                with_reducible rfl
               rotate_left
               ·simp only[Act.put,jq5,jq6,jq7,i64_w,i32_w]
                rfl
               refine pure_ (i:=4) (N:=some 71) (v:=?_) (a':=?_) #[Z,Z,U,U,Z,U,U,U,U,U,U,U,U,U,U,U,U,U,U,U,U,U,U,U,U,U,U] rfl rfl (any_of HT_.out (by kernel_rfl)) (fun _ _ _ h=>h) (Or.inl ⟨by rfl,?_⟩) ?_ ?_;rotate_left
               ·intro w'
                go_simp
                with_reducible rfl
               rotate_left
               ·simp only[Act.put,jq5,jq6,jq7,i64_w,i32_w]
                rfl
               refine pure_ (i:=5) (N:=some 72) (v:=?_) (a':=?_) #[Z,Z,U,U,Z,Z,U,U,U,U,U,U,U,U,U,U,U,U,U,U,U,U,U,U,U,U,U] rfl rfl (any_of HT_.out (by kernel_rfl)) (fun _ _ _ h=>h) (Or.inl ⟨by rfl,?_⟩) ?_ ?_;rotate_left
               ·intro w'
                go_simp
                with_reducible rfl
               rotate_left
               ·simp only[Act.put,jq5,jq6,jq7,i64_w,i32_w]
                rfl
               refine pure_ (i:=6) (N:=some 73) (v:=?_) (a':=?_) #[Z,Z,U,U,Z,Z,Z,U,U,U,U,U,U,U,U,U,U,U,U,U,U,U,U,U,U,U,U] rfl rfl (any_of HT_.out (by kernel_rfl)) (fun _ _ _ h=>h) (Or.inl ⟨by rfl,?_⟩) ?_ ?_;rotate_left
               ·intro w'
                go_simp
                with_reducible rfl
               rotate_left
               ·simp only[Act.put,jq5,jq6,jq7,i64_w,i32_w]
                rfl
               refine pure_ (i:=10) (N:=some 77) (v:=?_) (a':=?_) #[Z,Z,U,U,Z,Z,Z,U,U,U,Z,U,U,U,U,U,U,U,U,U,U,U,U,U,U,U,U] rfl rfl (any_of HT_.out (by kernel_rfl)) (fun _ _ _ h=>h) (Or.inl ⟨by rfl,?_⟩) ?_ ?_;rotate_left
               ·intro w'
                go_simp
                with_reducible rfl
               rotate_left
               ·simp only[Act.put,jq5,jq6,jq7,i64_w,i32_w]
                rfl
               refine pure_ (i:=11) (N:=some 78) (v:=?_) (a':=?_) #[Z,Z,U,U,Z,Z,Z,U,U,U,Z,Z,U,U,U,U,U,U,U,U,U,U,U,U,U,U,U] rfl rfl (any_of HT_.out (by kernel_rfl)) (fun _ _ _ h=>h) (Or.inl ⟨by rfl,?_⟩) ?_ ?_;rotate_left
               ·intro w'
                go_simp
                with_reducible rfl
               rotate_left
               ·simp only[Act.put,jq5,jq6,jq7,i64_w,i32_w]
                rfl
               refine pure_ (i:=12) (N:=some 79) (v:=?_) (a':=?_) #[Z,Z,U,U,Z,Z,Z,U,U,U,Z,Z,Z,U,U,U,U,U,U,U,U,U,U,U,U,U,U] rfl rfl (any_of HT_.out (by kernel_rfl)) (fun _ _ _ h=>h) (Or.inl ⟨by rfl,?_⟩) ?_ ?_;rotate_left
               ·intro w'
                go_simp
                with_reducible rfl
               rotate_left
               ·simp only[Act.put,jq5,jq6,jq7,i64_w,i32_w]
                rfl
               refine pure_ (i:=16) (N:=some 83) (v:=?_) (a':=?_) #[Z,Z,U,U,Z,Z,Z,U,U,U,Z,Z,Z,U,U,U,Z,U,U,U,U,U,U,U,U,U,U] rfl rfl (any_of HT_.out (by kernel_rfl)) (fun _ _ _ h=>h) (Or.inl ⟨by rfl,?_⟩) ?_ ?_;rotate_left
               ·intro w'
                go_simp
                with_reducible rfl
               rotate_left
               ·simp only[Act.put,jq5,jq6,jq7,i64_w,i32_w]
                rfl
               refine pure_ (i:=17) (N:=some 84) (v:=?_) (a':=?_) #[Z,Z,U,U,Z,Z,Z,U,U,U,Z,Z,Z,U,U,U,Z,Z,U,U,U,U,U,U,U,U,U] rfl rfl (any_of HT_.out (by kernel_rfl)) (fun _ _ _ h=>h) (Or.inl ⟨by rfl,?_⟩) ?_ ?_;rotate_left
               ·intro w'
                go_simp
                with_reducible rfl
               rotate_left
               ·simp only[Act.put,jq5,jq6,jq7,i64_w,i32_w]
                rfl
               refine pure_ (i:=21) (N:=some 88) (v:=?_) (a':=?_) #[Z,Z,U,U,Z,Z,Z,U,U,U,Z,Z,Z,U,U,U,Z,Z,U,U,U,Z,U,U,U,U,U] rfl rfl (any_of HT_.out (by kernel_rfl)) (fun _ _ _ h=>h) (Or.inl ⟨by rfl,?_⟩) ?_ ?_;rotate_left
               ·intro w'
                go_simp
                with_reducible rfl
               rotate_left
               ·simp only[Act.put,jq5,jq6,jq7,i64_w,i32_w]
                rfl
               refine take_ (i:=22) (N:=some 89) (v:=?_) (a':=?_) #[Z,Z,U,U,Z,Z,Z,U,U,U,Z,Z,Z,U,U,U,Z,Z,U,U,U,Z,Z,U,U,U,U] rfl rfl (take_ofW HT_.out HW_.out (by kernel_rfl)) (fun _ _ _ h=>h) (Or.inl ⟨by rfl,?_⟩) hHeld ?_ ?_;rotate_left
               ·rintro w' ⟨s0,s1,s2,s3⟩
                go_simp
                with_reducible rfl
               rotate_left
               ·simp only[Act.put,jq5,jq6,jq7,i64_w,i32_w]
                rfl
               refine pure_ (i:=23) (N:=some 90) (v:=?_) (a':=?_) #[Z,Z,U,U,Z,Z,Z,U,U,U,Z,Z,Z,U,U,U,Z,Z,U,U,U,Z,Z,Z,U,U,U] rfl rfl (any_of HT_.out (by kernel_rfl)) (fun _ _ _ h=>h) (Or.inl ⟨by rfl,?_⟩) ?_ ?_;rotate_left
               ·intro w'
                go_simp
                with_reducible rfl
               rotate_left
               ·simp only[Act.put,jq5,jq6,jq7,i64_w,i32_w]
                rfl
               refine one_ (i:=2) (N:=some 69) #[Z,Z,Z,U,Z,Z,Z,U,U,U,Z,Z,Z,U,U,U,Z,Z,U,U,U,Z,Z,Z,U,U,U] rfl rfl (one_of HT_.out (by kernel_rfl)) (by decide) (fun K hK=>?_);refine goes_ Tryz.func47 (by kernel_rfl) rfl #[.int .i64 (wrap64 (Int.tdiv t106 16777216))] (by rfl) rfl rfl (by(try simp only[jq0,jq1,jq2]);first|done|rfl|(simp only[jq3,jq4];rfl)) ?_
               with_reducible refine(qvv.calls k (wrap64 (Int.tdiv t106 16777216)) t108 _ A48.out).mono ?_
               rintro e w65 ⟨rfl,hb⟩
               refine⟨_,rfl,?_⟩;replace BK101:=O.mk (kz (by solve_by_elim only[BK101.out,qv,qw,qk]) hb);replace HB:=O.mk (zq (by solve_by_elim (maxDepth:=20) only[HB.out,J,L,I,qj,GE101.out]) hb)
               (try clear hb)
               (try clear hb2)
               (try clear hk)
               (try clear hi)
               refine hK.out _ _ (by(repeat' apply And.intro) <;> first|exact(qz BK101.out _).trans rfl) (fun hHeld=>?_);clear hK K;refine norm_ (a':=?_) ?_ ?_;rotate_left
               ·show Act.put _ (some 69) _=_
                simp only[Act.put,jq5,jq6,jq7,i64_w,i32_w]
                rfl
               refine pure_ (i:=3) (N:=some 70) (v:=?_) (a':=?_) #[Z,Z,Z,Z,Z,Z,Z,U,U,U,Z,Z,Z,U,U,U,Z,Z,U,U,U,Z,Z,Z,U,U,U] rfl rfl (any_of HT_.out (by kernel_rfl)) (fun _ _ _ h=>h) (Or.inl ⟨by rfl,?_⟩) ?_ ?_;rotate_left
               ·intro w'
                go_simp
                with_reducible rfl
               rotate_left
               ·simp only[Act.put,jq5,jq6,jq7,i64_w,i32_w]
                rfl
               refine one_ (i:=7) (N:=some 74) #[Z,Z,Z,Z,Z,Z,Z,Z,U,U,Z,Z,Z,U,U,U,Z,Z,U,U,U,Z,Z,Z,U,U,U] rfl rfl (one_of HT_.out (by kernel_rfl)) (by decide) (fun K hK=>?_);refine goes_ Tryz.func47 (by kernel_rfl) rfl #[.int .i64 (Int.tmod (wrap64 (Int.tdiv t106 65536)) 256)] (by rfl) rfl rfl (by(try simp only[jq0,jq1,jq2]);first|done|rfl|(simp only[jq3,jq4];rfl)) ?_
               with_reducible refine(qvv.calls k (Int.tmod (wrap64 (Int.tdiv t106 65536)) 256) t109 _ A50.out).mono ?_
               rintro e w66 ⟨rfl,hb⟩
               refine⟨_,rfl,?_⟩;replace BK101:=O.mk (kz (by solve_by_elim only[BK101.out,qv,qw,qk]) hb);replace HB:=O.mk (zq (by solve_by_elim (maxDepth:=20) only[HB.out,J,L,I,qj,GE101.out]) hb)
               (try clear hb)
               (try clear hb2)
               (try clear hk)
               (try clear hi)
               refine hK.out _ _ (by(repeat' apply And.intro) <;> first|exact(qz BK101.out _).trans rfl) (fun hHeld=>?_);clear hK K;refine norm_ (a':=?_) ?_ ?_;rotate_left
               ·show Act.put _ (some 74) _=_
                simp only[Act.put,jq5,jq6,jq7,i64_w,i32_w]
                rfl
               refine pure_ (i:=8) (N:=some 75) (v:=?_) (a':=?_) #[Z,Z,Z,Z,Z,Z,Z,Z,Z,U,Z,Z,Z,U,U,U,Z,Z,U,U,U,Z,Z,Z,U,U,U] rfl rfl (any_of HT_.out (by kernel_rfl)) (fun _ _ _ h=>h) (Or.inl ⟨by rfl,?_⟩) ?_ ?_;rotate_left
               ·intro w'
                go_simp
                with_reducible rfl
               rotate_left
               ·simp only[Act.put,jq5,jq6,jq7,i64_w,i32_w]
                rfl
               refine pure_ (i:=9) (N:=some 76) (v:=?_) (a':=?_) #[Z,Z,Z,Z,Z,Z,Z,Z,Z,Z,Z,Z,Z,U,U,U,Z,Z,U,U,U,Z,Z,Z,U,U,U] rfl rfl (any_of HT_.out (by kernel_rfl)) (fun _ _ _ h=>h) (Or.inl ⟨by rfl,?_⟩) ?_ ?_;rotate_left
               ·intro w'
                go_simp
                with_reducible rfl
               rotate_left
               ·simp only[Act.put,jq5,jq6,jq7,i64_w,i32_w]
                rfl
               refine one_ (i:=13) (N:=some 80) #[Z,Z,Z,Z,Z,Z,Z,Z,Z,Z,Z,Z,Z,Z,U,U,Z,Z,U,U,U,Z,Z,Z,U,U,U] rfl rfl (one_of HT_.out (by kernel_rfl)) (by decide) (fun K hK=>?_);refine goes_ Tryz.func47 (by kernel_rfl) rfl #[.int .i64 (Int.tmod (wrap64 (Int.tdiv t106 256)) 256)] (by rfl) rfl rfl (by(try simp only[jq0,jq1,jq2]);first|done|rfl|(simp only[jq3,jq4];rfl)) ?_
               with_reducible refine(qvv.calls k (Int.tmod (wrap64 (Int.tdiv t106 256)) 256) t110 _ A53.out).mono ?_
               rintro e w67 ⟨rfl,hb⟩
               refine⟨_,rfl,?_⟩;replace BK101:=O.mk (kz (by solve_by_elim only[BK101.out,qv,qw,qk]) hb);replace HB:=O.mk (zq (by solve_by_elim (maxDepth:=20) only[HB.out,J,L,I,qj,GE101.out]) hb)
               (try clear hb)
               (try clear hb2)
               (try clear hk)
               (try clear hi)
               refine hK.out _ _ (by(repeat' apply And.intro) <;> first|exact(qz BK101.out _).trans rfl) (fun hHeld=>?_);clear hK K;refine norm_ (a':=?_) ?_ ?_;rotate_left
               ·show Act.put _ (some 80) _=_
                simp only[Act.put,jq5,jq6,jq7,i64_w,i32_w]
                rfl
               refine pure_ (i:=14) (N:=some 81) (v:=?_) (a':=?_) #[Z,Z,Z,Z,Z,Z,Z,Z,Z,Z,Z,Z,Z,Z,Z,U,Z,Z,U,U,U,Z,Z,Z,U,U,U] rfl rfl (any_of HT_.out (by kernel_rfl)) (fun _ _ _ h=>h) (Or.inl ⟨by rfl,?_⟩) ?_ ?_;rotate_left
               ·intro w'
                go_simp
                with_reducible rfl
               rotate_left
               ·simp only[Act.put,jq5,jq6,jq7,i64_w,i32_w]
                rfl
               refine pure_ (i:=15) (N:=some 82) (v:=?_) (a':=?_) #[Z,Z,Z,Z,Z,Z,Z,Z,Z,Z,Z,Z,Z,Z,Z,Z,Z,Z,U,U,U,Z,Z,Z,U,U,U] rfl rfl (any_of HT_.out (by kernel_rfl)) (fun _ _ _ h=>h) (Or.inl ⟨by rfl,?_⟩) ?_ ?_;rotate_left
               ·intro w'
                go_simp
                with_reducible rfl
               rotate_left
               ·simp only[Act.put,jq5,jq6,jq7,i64_w,i32_w]
                rfl
               refine one_ (i:=18) (N:=some 85) #[Z,Z,Z,Z,Z,Z,Z,Z,Z,Z,Z,Z,Z,Z,Z,Z,Z,Z,Z,U,U,Z,Z,Z,U,U,U] rfl rfl (one_of HT_.out (by kernel_rfl)) (by decide) (fun K hK=>?_);refine goes_ Tryz.func47 (by kernel_rfl) rfl #[.int .i64 (Int.tmod t106 256)] (by rfl) rfl rfl (by(try simp only[jq0,jq1,jq2]);first|done|rfl|(simp only[jq3,jq4];rfl)) ?_
               with_reducible refine(qvv.calls k (Int.tmod t106 256) t111 _ A56.out).mono ?_
               rintro e w68 ⟨rfl,hb⟩
               refine⟨_,rfl,?_⟩;replace BK101:=O.mk (kz (by solve_by_elim only[BK101.out,qv,qw,qk]) hb);replace HB:=O.mk (zq (by solve_by_elim (maxDepth:=20) only[HB.out,J,L,I,qj,GE101.out]) hb)
               (try clear hb)
               (try clear hb2)
               (try clear hk)
               (try clear hi)
               refine hK.out _ _ (by(repeat' apply And.intro) <;> first|exact(qz BK101.out _).trans rfl) (fun hHeld=>?_);clear hK K;refine norm_ (a':=?_) ?_ ?_;rotate_left
               ·show Act.put _ (some 85) _=_
                simp only[Act.put,jq5,jq6,jq7,i64_w,i32_w]
                rfl
               refine pure_ (i:=19) (N:=some 86) (v:=?_) (a':=?_) #[Z,Z,Z,Z,Z,Z,Z,Z,Z,Z,Z,Z,Z,Z,Z,Z,Z,Z,Z,Z,U,Z,Z,Z,U,U,U] rfl rfl (any_of HT_.out (by kernel_rfl)) (fun _ _ _ h=>h) (Or.inl ⟨by rfl,?_⟩) ?_ ?_;rotate_left
               ·intro w'
                go_simp
                with_reducible rfl
               rotate_left
               ·simp only[Act.put,jq5,jq6,jq7,i64_w,i32_w]
                rfl
               refine pure_ (i:=20) (N:=some 87) (v:=?_) (a':=?_) #[Z,Z,Z,Z,Z,Z,Z,Z,Z,Z,Z,Z,Z,Z,Z,Z,Z,Z,Z,Z,Z,Z,Z,Z,U,U,U] rfl rfl (any_of HT_.out (by kernel_rfl)) (fun _ _ _ h=>h) (Or.inl ⟨by rfl,?_⟩) ?_ ?_;rotate_left
               ·intro w'
                go_simp
                with_reducible rfl
               rotate_left
               ·simp only[Act.put,jq5,jq6,jq7,i64_w,i32_w]
                rfl
               refine one_ (i:=24) (N:=some 91) #[Z,Z,Z,Z,Z,Z,Z,Z,Z,Z,Z,Z,Z,Z,Z,Z,Z,Z,Z,Z,Z,Z,Z,Z,Z,U,U] rfl rfl (one_of HT_.out (by kernel_rfl)) (by decide) (fun K hK=>?_);refine goes_ Tryz.func47 (by kernel_rfl) rfl #[.int .i64 (Int.tmod a0_1 64)] (by rfl) rfl rfl (by(try simp only[jq0,jq1,jq2]);first|done|rfl|(simp only[jq3,jq4];rfl)) ?_
               with_reducible refine(qvv.calls k (Int.tmod a0_1 64) t112 _ A59.out).mono ?_
               rintro e w69 ⟨rfl,hb⟩
               refine⟨_,rfl,?_⟩;replace BK101:=O.mk (kz (by solve_by_elim only[BK101.out,qv,qw,qk]) hb);replace HB:=O.mk (zq (by solve_by_elim (maxDepth:=20) only[HB.out,J,L,I,qj,GE101.out]) hb)
               (try clear hb)
               (try clear hb2)
               (try clear hk)
               (try clear hi)
               refine hK.out _ _ (by(repeat' apply And.intro) <;> first|exact(qz BK101.out _).trans rfl) (fun hHeld=>?_);clear hK K;refine norm_ (a':=?_) ?_ ?_;rotate_left
               ·show Act.put _ (some 91) _=_
                simp only[Act.put,jq5,jq6,jq7,i64_w,i32_w]
                rfl
               refine pure_ (i:=25) (N:=some 92) (v:=?_) (a':=?_) #[Z,Z,Z,Z,Z,Z,Z,Z,Z,Z,Z,Z,Z,Z,Z,Z,Z,Z,Z,Z,Z,Z,Z,Z,Z,Z,U] rfl rfl (any_of HT_.out (by kernel_rfl)) (fun _ _ _ h=>h) (Or.inl ⟨by rfl,?_⟩) ?_ ?_;rotate_left
               ·intro w'
                go_simp
                with_reducible rfl
               rotate_left
               ·simp only[Act.put,jq5,jq6,jq7,i64_w,i32_w]
                rfl
               refine pure_ (i:=26) (N:=some 2) (v:=?_) (a':=?_) #[Z,Z,Z,Z,Z,Z,Z,Z,Z,Z,Z,Z,Z,Z,Z,Z,Z,Z,Z,Z,Z,Z,Z,Z,Z,Z,Z] rfl rfl (any_of HT_.out (by kernel_rfl)) (fun _ _ _ h=>h) (Or.inl ⟨by rfl,?_⟩) ?_ ?_;rotate_left
               ·intro w'
                go_simp
                with_reducible rfl
               rotate_left
               ·simp only[Act.put,jq5,jq6,jq7,i64_w,i32_w]
                rfl
               refine done_ (done_of HT_.out (by kernel_rfl)) ?_;try go_wp2
               go_ret
               exact⟨by first|rfl|(simp[*,zx,zw] <;> rfl),by solve_by_elim (maxDepth:=20) only[HB.out,J,L,I,qj,GE101.out]⟩
              ·rw[if_neg c60] at H;exact absurd H (by simp)
             ·rw[if_neg c58] at H;exact absurd H (by simp)
            ·rw[if_neg c57] at H;exact absurd H (by simp)
           ·rw[if_neg c55] at H;exact absurd H (by simp)
          ·rw[if_neg c54] at H;exact absurd H (by simp)
         ·rw[if_neg c52] at H;exact absurd H (by simp)
        ·rw[if_neg c51] at H;exact absurd H (by simp)
       ·rw[if_neg c49] at H;exact absurd H (by simp)
      ·rw[if_neg c46] at H;have c46b0:(a0_0 == 6)=false:=beq_eq_false_iff_ne.mpr c46;have c46b1:(a0_0 != 6)=true:=bne_iff_ne.mpr c46;replace H:=jq8.mp H;obtain⟨t113,A700,H⟩:=H;try dsimp only at H
       have A70:=O.mk A700;clear A700
       by_cases c71 : 1 + t113.size≤9223372036854775807
       ·rw[if_pos c71] at H;have c71b0:=eq_true c71;have c71b1:decide (1 + t113.size≤9223372036854775807)=true:=decide_eq_true c71;try have c71b2:(9223372036854775807 < 1 + t113.size)=False:=eq_false (Nat.not_lt.2 c71)
        obtain rfl:=Option.some.inj H;go_enter Tryz.func22,Tryz.ntmps22;go_wp2_with (first|((with_reducible refine gate_dst (N:=1) rfl ?_);refine box_event ?hg (N:=1) ?hd (cs:=#[.int .i64 a0_0,.int .i64 a0_1,.string a0_2,.string a0_3]) (t:=28) ?hr ?_;(case hd=>rfl);(case hg=>rfl);(case hr=>first|(go_simp;done)|(go_simp;rfl));intro gb101 hg w72 hbox hb;have BK101:=O.mk (hbox);have GW101:=O.mk ((by rw[hg];exact(zz (by solve_by_elim only[HB.out,J,L,I])):w.heap.size≤gb101));have GE101:=GW101;replace HB:=O.mk (zq (by solve_by_elim only[HB.out,J,L,I]) hb);clear hb hbox hg;obtain⟨y73_0,y73_1,y73_2,y73_3,z73_0,z73_1,z73_2,z73_3⟩:=bx4f BK101.out)|((with_reducible refine jq (f:=47) rfl ?_);refine goesL_ (some 95) rfl rfl Tryz.func47 (by kernel_rfl) rfl #[.int .i64 a0_1] rfl (by(try simp only[jq0,jq1,jq2]);first|done|rfl|(simp only[jq3,jq4];rfl)) ?_;(with_reducible refine(qvv.calls k a0_1 t113 _ A70.out).mono ?_);rintro e w74 ⟨rfl,hb⟩;refine⟨_,rfl,?_⟩;replace BK101:=O.mk (kz (by solve_by_elim only[BK101.out,qv,qw,qk]) hb);replace HB:=O.mk (zq (by solve_by_elim (maxDepth:=20) only[HB.out,J,L,I,qj,GE101.out]) hb);(try clear hb)))
        go_ret
        exact⟨by first|rfl|(simp[*,zx,zw] <;> rfl),by solve_by_elim (maxDepth:=20) only[HB.out,J,L,I,qj,GE101.out]⟩
       ·rw[if_neg c71] at H;exact absurd H (by simp)
end Go.Proofs.YtnbbbjfjkhglhaaGreatDoor.Pr
