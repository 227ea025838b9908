/- Printed texts, walks and plain facts that the law FnExactSignToken leans on, joined. -/
import Derived.Test.YtkcdefnpbnbaeaaGreatDoorFullFnExactSignTokenC
import Derived.Laws.Cover1
import Derived.Shelf.Strings.Builder2
import Derived.Lib.AppendStr
import Derived.Deep.QuietTactic
import Derived.BigQuiet
import Derived.Shelf.Strconv.Itoa3
import Derived.Lib.AppendIntMem
import Derived.Laws.Tables
import Derived.Laws.CopyRow
import Derived.Laws.CopyOwn
import Derived.WalkSpells
import Derived.Tactics
import Derived.Tactics2
import Derived.Defers
import Derived.Laws.Pointers
import Derived.Laws.LoneSync
import Derived.RegionTactic
import Derived.RegionCalls
import Derived.ChangeAlike
import Derived.Laws.NewBlocks
import Derived.Shelf.Abstract
import Derived.Lib.CountLaws
import Derived.Lib.Bytealg
import Derived.Shelf.Lays
import Derived.Lib.Walk
import Derived.Laws.IdiomCopy
import Derived.StillTailTactics
import Derived.Deep.RegionHeld3
set_option maxHeartbeats 8000000
set_option maxRecDepth 100000
open List renaming map_toArray → jq0, map_cons → jq1, map_nil → jq2, length_drop → jq3, length_take → jq4, setIfInBounds_toArray → jq5, set_cons_zero → jq6, set_cons_succ → jq7
open Option renaming bind_eq_some_iff → jq8
open Bool renaming eq_false_iff → jq9, true → Z, false → Y
namespace Go.Proofs.YtkcdefnpbnbaeaaGreatDoor.Pr
open Go.RowKit Go.Proofs.YtkcdefnpbnbaeaaGreatDoorW.PrintWords Go.Proofs.YtkcdefnpbnbaeaaGreatDoorW.PrintLast Go.Proofs.YtkcdefnpbnbaeaaGreatDoorW.PrintMore
attribute [local go_sem] max2_int min2_int max_two min_two max_three min_three max_four min_four
set_option linter.unusedVariables false
set_option linter.unusedSimpArgs false
def cmp_Compare_int.f (a0:Int) (a1:Int):Option (Int):=(cmp_isNaN_int.f a0).bind fun t101=>((cmp_isNaN_int.f a1).bind fun t102=>(if t101=true then(if t102=true then(some 0) else(some (-1))) else(if t102=true then(some 1) else(if a0 < a1 then(some (-1)) else(if a0 > a1 then(some 1) else(some 0))))))
theorem cmp_Compare_int.calls (a0:Int) (a1:Int) (r:Int) (w:World) (h:cmp_Compare_int.f a0 a1=some r) :
  Calls Tryz.prog 98 #[.int .i64 a0,.int .i64 a1] w fun e w'=>e=.returned (.int .i64 r)∧Drawn0 w w':=by
 unfold cmp_Compare_int.f at h;have H:=h;clear h;replace H:=jq8.mp H;obtain⟨t101,A30,H⟩:=H;try dsimp only at H
 have A3:=U.mk A30;clear A30;replace H:=jq8.mp H;obtain⟨t102,A40,H⟩:=H;try dsimp only at H
 have A4:=U.mk A40;clear A40
 by_cases c5:t101=true
 ·subst c5;have H1:(if t102=true then(some 0) else(some (-1)))=some r:=by rw[if_pos rfl] at H;exact H
  clear H;have H:=H1;clear H1
  by_cases c6:t102=true
  ·subst c6;have H1:(some 0)=some r:=by rw[if_pos rfl] at H;exact H
   clear H;have H:=H1;clear H1;obtain rfl:=Option.some.inj H;go_enter Tryz.func98,Tryz.ntmps98;go_wp2_with (first|((with_reducible refine zx (f:=109) rfl ?_);refine goesL_ (some 8) rfl rfl Tryz.func109 (by kernel_rfl) rfl #[.int .i64 a0] rfl (by(try simp only[jq0,jq1,jq2]);first|done|rfl|(simp only[jq3,jq4];rfl)) ?_;(with_reducible refine(cmp_isNaN_int.calls a0 true _ A3.out).mono ?_);rintro e w' ⟨rfl,⟨nd,rfl⟩⟩;refine⟨_,rfl,?_⟩)|((with_reducible refine zx (f:=109) rfl ?_);refine goesL_ (some 10) rfl rfl Tryz.func109 (by kernel_rfl) rfl #[.int .i64 a1] rfl (by(try simp only[jq0,jq1,jq2]);first|done|rfl|(simp only[jq3,jq4];rfl)) ?_;(with_reducible refine(cmp_isNaN_int.calls a1 true _ A4.out).mono ?_);rintro e w' ⟨rfl,⟨nd,rfl⟩⟩;refine⟨_,rfl,?_⟩))
   go_ret
   exact⟨by first|rfl|(simp;done)|(simp[*];done),by repeat(first|exact Drawn0.refl _|apply Drawn0.step)⟩
  ·replace c6:=jq9.mpr c6;subst c6;have H1:(some (-1))=some r:=by rw[if_neg (show ¬ (false=true) by decide)] at H;exact H
   clear H;have H:=H1;clear H1;obtain rfl:=Option.some.inj H;go_enter Tryz.func98,Tryz.ntmps98;go_wp2_with (first|((with_reducible refine zx (f:=109) rfl ?_);refine goesL_ (some 8) rfl rfl Tryz.func109 (by kernel_rfl) rfl #[.int .i64 a0] rfl (by(try simp only[jq0,jq1,jq2]);first|done|rfl|(simp only[jq3,jq4];rfl)) ?_;(with_reducible refine(cmp_isNaN_int.calls a0 true _ A3.out).mono ?_);rintro e w' ⟨rfl,⟨nd,rfl⟩⟩;refine⟨_,rfl,?_⟩)|((with_reducible refine zx (f:=109) rfl ?_);refine goesL_ (some 10) rfl rfl Tryz.func109 (by kernel_rfl) rfl #[.int .i64 a1] rfl (by(try simp only[jq0,jq1,jq2]);first|done|rfl|(simp only[jq3,jq4];rfl)) ?_;(with_reducible refine(cmp_isNaN_int.calls a1 false _ A4.out).mono ?_);rintro e w' ⟨rfl,⟨nd,rfl⟩⟩;refine⟨_,rfl,?_⟩))
   go_ret
   exact⟨by first|rfl|(simp;done)|(simp[*];done),by repeat(first|exact Drawn0.refl _|apply Drawn0.step)⟩
 ·replace c5:=jq9.mpr c5;subst c5;have H1:(if t102=true then(some 1) else(if a0 < a1 then(some (-1)) else(if a0 > a1 then(some 1) else(some 0))))=some r:=by rw[if_neg (show ¬ (false=true) by decide)] at H;exact H
  clear H;have H:=H1;clear H1
  by_cases c7:t102=true
  ·subst c7;have H1:(some 1)=some r:=by rw[if_pos rfl] at H;exact H
   clear H;have H:=H1;clear H1;obtain rfl:=Option.some.inj H;go_enter Tryz.func98,Tryz.ntmps98;go_wp2_with (first|((with_reducible refine zx (f:=109) rfl ?_);refine goesL_ (some 8) rfl rfl Tryz.func109 (by kernel_rfl) rfl #[.int .i64 a0] rfl (by(try simp only[jq0,jq1,jq2]);first|done|rfl|(simp only[jq3,jq4];rfl)) ?_;(with_reducible refine(cmp_isNaN_int.calls a0 false _ A3.out).mono ?_);rintro e w' ⟨rfl,⟨nd,rfl⟩⟩;refine⟨_,rfl,?_⟩)|((with_reducible refine zx (f:=109) rfl ?_);refine goesL_ (some 10) rfl rfl Tryz.func109 (by kernel_rfl) rfl #[.int .i64 a1] rfl (by(try simp only[jq0,jq1,jq2]);first|done|rfl|(simp only[jq3,jq4];rfl)) ?_;(with_reducible refine(cmp_isNaN_int.calls a1 true _ A4.out).mono ?_);rintro e w' ⟨rfl,⟨nd,rfl⟩⟩;refine⟨_,rfl,?_⟩))
   go_ret
   exact⟨by first|rfl|(simp;done)|(simp[*];done),by repeat(first|exact Drawn0.refl _|apply Drawn0.step)⟩
  ·replace c7:=jq9.mpr c7;subst c7;have H1:(if a0 < a1 then(some (-1)) else(if a0 > a1 then(some 1) else(some 0)))=some r:=by rw[if_neg (show ¬ (false=true) by decide)] at H;exact H
   clear H;have H:=H1;clear H1
   by_cases c8:a0 < a1
   ·rw[if_pos c8] at H;have c8b0:decide (a0 < a1)=true:=decide_eq_true c8;clear c8;obtain rfl:=Option.some.inj H;go_enter Tryz.func98,Tryz.ntmps98;go_wp2_with (first|((with_reducible refine zx (f:=109) rfl ?_);refine goesL_ (some 8) rfl rfl Tryz.func109 (by kernel_rfl) rfl #[.int .i64 a0] rfl (by(try simp only[jq0,jq1,jq2]);first|done|rfl|(simp only[jq3,jq4];rfl)) ?_;(with_reducible refine(cmp_isNaN_int.calls a0 false _ A3.out).mono ?_);rintro e w' ⟨rfl,⟨nd,rfl⟩⟩;refine⟨_,rfl,?_⟩)|((with_reducible refine zx (f:=109) rfl ?_);refine goesL_ (some 10) rfl rfl Tryz.func109 (by kernel_rfl) rfl #[.int .i64 a1] rfl (by(try simp only[jq0,jq1,jq2]);first|done|rfl|(simp only[jq3,jq4];rfl)) ?_;(with_reducible refine(cmp_isNaN_int.calls a1 false _ A4.out).mono ?_);rintro e w' ⟨rfl,⟨nd,rfl⟩⟩;refine⟨_,rfl,?_⟩))
    go_ret
    exact⟨by first|rfl|(simp;done)|(simp[*];done),by repeat(first|exact Drawn0.refl _|apply Drawn0.step)⟩
   ·rw[if_neg c8] at H;have c8b0:decide (a0 < a1)=false:=decide_eq_false c8;clear c8
    by_cases c9:a0 > a1
    ·rw[if_pos c9] at H;have c9b0:decide (a1 < a0)=true:=decide_eq_true c9;clear c9;obtain rfl:=Option.some.inj H;go_enter Tryz.func98,Tryz.ntmps98;go_wp2_with (first|((with_reducible refine zx (f:=109) rfl ?_);refine goesL_ (some 8) rfl rfl Tryz.func109 (by kernel_rfl) rfl #[.int .i64 a0] rfl (by(try simp only[jq0,jq1,jq2]);first|done|rfl|(simp only[jq3,jq4];rfl)) ?_;(with_reducible refine(cmp_isNaN_int.calls a0 false _ A3.out).mono ?_);rintro e w' ⟨rfl,⟨nd,rfl⟩⟩;refine⟨_,rfl,?_⟩)|((with_reducible refine zx (f:=109) rfl ?_);refine goesL_ (some 10) rfl rfl Tryz.func109 (by kernel_rfl) rfl #[.int .i64 a1] rfl (by(try simp only[jq0,jq1,jq2]);first|done|rfl|(simp only[jq3,jq4];rfl)) ?_;(with_reducible refine(cmp_isNaN_int.calls a1 false _ A4.out).mono ?_);rintro e w' ⟨rfl,⟨nd,rfl⟩⟩;refine⟨_,rfl,?_⟩))
     go_ret
     exact⟨by first|rfl|(simp;done)|(simp[*];done),by repeat(first|exact Drawn0.refl _|apply Drawn0.step)⟩
    ·rw[if_neg c9] at H;have c9b0:decide (a1 < a0)=false:=decide_eq_false c9;clear c9;obtain rfl:=Option.some.inj H;go_enter Tryz.func98,Tryz.ntmps98;go_wp2_with (first|((with_reducible refine zx (f:=109) rfl ?_);refine goesL_ (some 8) rfl rfl Tryz.func109 (by kernel_rfl) rfl #[.int .i64 a0] rfl (by(try simp only[jq0,jq1,jq2]);first|done|rfl|(simp only[jq3,jq4];rfl)) ?_;(with_reducible refine(cmp_isNaN_int.calls a0 false _ A3.out).mono ?_);rintro e w' ⟨rfl,⟨nd,rfl⟩⟩;refine⟨_,rfl,?_⟩)|((with_reducible refine zx (f:=109) rfl ?_);refine goesL_ (some 10) rfl rfl Tryz.func109 (by kernel_rfl) rfl #[.int .i64 a1] rfl (by(try simp only[jq0,jq1,jq2]);first|done|rfl|(simp only[jq3,jq4];rfl)) ?_;(with_reducible refine(cmp_isNaN_int.calls a1 false _ A4.out).mono ?_);rintro e w' ⟨rfl,⟨nd,rfl⟩⟩;refine⟨_,rfl,?_⟩))
     go_ret
     exact⟨by first|rfl|(simp;done)|(simp[*];done),by repeat(first|exact Drawn0.refl _|apply Drawn0.step)⟩
def wx.f (k:Nat) (l0:List ByteArray):Option (Bool):=(has_impl_yallNames_1.f k l0).bind fun t101=>(some (!t101))
theorem wx.calls (k:Nat) (A0:Option Addr) (c0:Nat) (l0:List ByteArray) (r:Bool) (w:World) (hr0:Kd.C Kd.string w A0 l0.length l0) (hc0:l0.length≤c0) (h:wx.f k l0=some r) :
  Calls Tryz.prog 67 #[.slice A0 l0.length c0] w fun e w'=>e=.returned (.bool r)∧Drawn0 w w':=by
 have HR0:=U.mk hr0;have HC0:=U.mk hc0;clear hr0 hc0;have H:((has_impl_yallNames_1.f k l0).bind fun t101=>(some (!t101)))=some r:=h;clear h;replace H:=jq8.mp H;obtain⟨t101,A20,H⟩:=H;replace H:(some (!t101))=some r:=H;have A2:=U.mk A20;clear A20;obtain rfl:=Option.some.inj H;go_enter Tryz.func67,Tryz.ntmps67;go_wp2_with (first|((with_reducible refine zx (f:=86) rfl ?_);refine goesL_ (some 4) rfl rfl Tryz.func86 (by kernel_rfl) rfl #[.slice A0 l0.length c0,.func (.func 87) #[] #[]] rfl (by(try simp only[jq0,jq1,jq2]);first|done|rfl|(simp only[jq3,jq4];rfl)) ?_;(with_reducible refine(has_impl_yallNames_1.calls k _ _ l0 t101 _ ?side1 ?side2 A2.out).mono ?_);(case side1=>solve_by_elim only[HR0.out,Kd.C_alloc,Kd.C_drewN,Kd.C_drew]);(case side2=>exact HC0.out);rintro e w' ⟨rfl,⟨nd,rfl⟩⟩;refine⟨_,rfl,?_⟩))
 go_ret
 exact⟨by first|rfl|(simp;done)|(simp[*];done),by repeat(first|exact Drawn0.refl _|apply Drawn0.step)⟩
def qqv.l0:Nat→List ByteArray→List ByteArray→Int→Int→Option (Bool)
 | 0,_,_,_,_=>none
 | k + 1,x0,x5,x6,x7=>if x7 < x6 then(if 0≤x7 then(if x7 < (x5.length:Int) then(if x7 > 0 then(if 0≤(wrap64 (x7 - 1)) then(if (wrap64 (x7 - 1)) < (x0.length:Int) then(if ((Op.bytesLess ((rdOf ByteArray.empty x0 (wrap64 (x7 - 1))).toList) ((rdOf ByteArray.empty x5 x7).toList))=true) then(qqv.l0 k x0 x5 x6 (wrap64 (x7 + 1))) else(some false)) else(none)) else(none)) else(qqv.l0 k x0 x5 x6 (wrap64 (x7 + 1)))) else(none)) else(none)) else(some true)
def qqv.f (k:Nat) (l0:List ByteArray):Option (Bool):=qqv.l0 k l0 l0 (l0.length:Int) 0
theorem qqv.calls (k:Nat) (A0:Option Addr) (c0:Nat) (l0:List ByteArray) (r:Bool) (w:World) (hr0:Kd.C Kd.string w A0 l0.length l0) (hc0:l0.length≤c0) (h:qqv.f k l0=some r) :
  Calls Tryz.prog 68 #[.slice A0 l0.length c0] w fun e w'=>e=.returned (.bool r)∧Drawn0 w w':=by
 have HR0:=U.mk hr0;have HC0:=U.mk hc0;clear hr0 hc0;have H:(qqv.l0 k l0 l0 (l0.length:Int) 0)=some r:=h;clear h;have H':=U.mk H;clear H;go_enter Tryz.func68,Tryz.ntmps68;go_wp2
 go_loopg [7] k (fun kq v7 w'=>∃ (x7_1:Int),v7=.int .i64 x7_1∧U (qqv.l0 kq l0 l0 (l0.length:Int) x7_1=some r)∧U (kq≤k)∧Drawn0 w w')
 case atStart=>exact⟨(0),(by first|rfl|(simp;done)|(simp[*];done)),H',⟨Nat.le_refl _⟩,by repeat(first|exact Drawn0.refl _|apply Drawn0.step)⟩
 case round =>
  clear H';obtain⟨x7_1,rfl,HA,HK1,⟨m1,rfl⟩⟩:=hrel
  cases gk with
  | zero=>exact absurd HA.out (by simp[qqv.l0])
  | succ k1 =>
   have H:=HA.out;clear HA;simp only[qqv.l0] at H
   by_cases c2:x7_1 < (l0.length:Int)
   ·rw[if_pos c2] at H;have c2b0:decide (x7_1 < (l0.length:Int))=true:=decide_eq_true c2;clear c2
    by_cases c3 : 0≤x7_1
    ·rw[if_pos c3] at H;have c3b0:decide (0≤x7_1)=true:=decide_eq_true c3;clear c3
     by_cases c4:x7_1 < (l0.length:Int)
     ·rw[if_pos c4] at H;have c4b0:decide (x7_1 < (l0.length:Int))=true:=decide_eq_true c4;clear c4
      by_cases c5:x7_1 > 0
      ·rw[if_pos c5] at H;have c5b0:decide (0 < x7_1)=true:=decide_eq_true c5;clear c5;obtain⟨ji6,hji6⟩ : ∃ j_:Int,(wrap64 (x7_1 - 1))=j_:=⟨_,rfl⟩;replace H:(if 0≤(ji6) then(if (ji6) < (l0.length:Int) then(if ((Op.bytesLess ((rdOf ByteArray.empty l0 (ji6)).toList) ((rdOf ByteArray.empty l0 x7_1).toList))=true) then(qqv.l0 k1 l0 l0 (l0.length:Int) (wrap64 (x7_1 + 1))) else(some false)) else(none)) else(none))=some r:=by first|(rw[hji6] at H;exact H)|(simp only[hji6] at H ⊢;exact H)
       have hji6w:(IntKind.i64.wrap (x7_1 - 1))=ji6:=(i64_w _).trans hji6
       by_cases c7 : 0≤(ji6)
       ·rw[if_pos c7] at H;have c7b0:decide (0≤(ji6))=true:=decide_eq_true c7;clear c7
        by_cases c8:(ji6) < (l0.length:Int)
        ·rw[if_pos c8] at H;have c8b0:decide ((ji6) < (l0.length:Int))=true:=decide_eq_true c8;clear c8
         by_cases c9:((Op.bytesLess ((rdOf ByteArray.empty l0 (ji6)).toList) ((rdOf ByteArray.empty l0 x7_1).toList))=true)
         ·rw[if_pos c9] at H;have c9b0:(Op.bytesLess ((rdOf ByteArray.empty l0 (ji6)).toList) ((rdOf ByteArray.empty l0 x7_1).toList))=true:=c9;clear c9;have H':=U.mk H;clear H;have p101 : 0≤(x7_1:Int):=of_decide_eq_true (by assumption);have q101:x7_1 < (l0.length:Int):=of_decide_eq_true (by assumption);obtain⟨ad101,e101,hx101_0⟩:=Kd.at_string HR0.out x7_1 p101 q101
          cases e101
          replace p101:=eq_true p101;replace q101:=eq_true q101;have p102 : 0≤((ji6):Int):=of_decide_eq_true (by assumption);have q102:(ji6) < (l0.length:Int):=of_decide_eq_true (by assumption);obtain⟨ad102,e102,hx102_0⟩:=Kd.at_string HR0.out (ji6) p102 q102;obtain rfl:ad101=ad102:=(by injection e102);replace p102:=eq_true p102;replace q102:=eq_true q102;go_wp2;go_roundg k1
          case measure=>have:=HK1.out;omega
          case rel=>exact⟨(wrap64 (x7_1 + 1)),(by first|rfl|(simp;done)|(simp[*];done)),H',⟨by have:=HK1.out;omega⟩,by repeat(first|exact Drawn0.refl _|apply Drawn0.step)⟩
         ·rw[if_neg c9] at H;have c9b0:(Op.bytesLess ((rdOf ByteArray.empty l0 (ji6)).toList) ((rdOf ByteArray.empty l0 x7_1).toList))=false:=by simpa using c9
          clear c9;obtain rfl:=Option.some.inj H;have p101 : 0≤(x7_1:Int):=of_decide_eq_true (by assumption);have q101:x7_1 < (l0.length:Int):=of_decide_eq_true (by assumption);obtain⟨ad101,e101,hx101_0⟩:=Kd.at_string HR0.out x7_1 p101 q101
          cases e101
          replace p101:=eq_true p101;replace q101:=eq_true q101;have p102 : 0≤((ji6):Int):=of_decide_eq_true (by assumption);have q102:(ji6) < (l0.length:Int):=of_decide_eq_true (by assumption);obtain⟨ad102,e102,hx102_0⟩:=Kd.at_string HR0.out (ji6) p102 q102;obtain rfl:ad101=ad102:=(by injection e102);replace p102:=eq_true p102;replace q102:=eq_true q102;go_wp2;go_ret
          exact⟨by first|rfl|(simp;done)|(simp only[← hji6] <;> (first|rfl|simp))|(simp[*];done),by repeat(first|exact Drawn0.refl _|apply Drawn0.step)⟩
        ·rw[if_neg c8] at H;exact absurd H (by simp)
       ·rw[if_neg c7] at H;exact absurd H (by simp)
      ·rw[if_neg c5] at H;have c5b0:decide (0 < x7_1)=false:=decide_eq_false c5;clear c5;have H':=U.mk H;clear H;have p101 : 0≤(x7_1:Int):=of_decide_eq_true (by assumption);have q101:x7_1 < (l0.length:Int):=of_decide_eq_true (by assumption);obtain⟨ad101,e101,hx101_0⟩:=Kd.at_string HR0.out x7_1 p101 q101
       cases e101
       replace p101:=eq_true p101;replace q101:=eq_true q101;go_wp2;go_roundg k1
       case measure=>have:=HK1.out;omega
       case rel=>exact⟨(wrap64 (x7_1 + 1)),(by first|rfl|(simp;done)|(simp[*];done)),H',⟨by have:=HK1.out;omega⟩,by repeat(first|exact Drawn0.refl _|apply Drawn0.step)⟩
     ·rw[if_neg c4] at H;exact absurd H (by simp)
    ·rw[if_neg c3] at H;exact absurd H (by simp)
   ·rw[if_neg c2] at H;have c2b0:decide (x7_1 < (l0.length:Int))=false:=decide_eq_false c2;clear c2;obtain rfl:=Option.some.inj H;go_wp2;go_ret
    exact⟨by first|rfl|(simp;done)|(simp[*];done),by repeat(first|exact Drawn0.refl _|apply Drawn0.step)⟩
def wq.f (k:Nat) (a0_0:Int) (a0_1:Int) (a0_2:Int) (a0_3:ByteArray) (a0_4:ByteArray) (l0_5:List (S30)) (l0_6:List ByteArray):Option (Bool):=if a0_0=1 then(none) else(if a0_0=2 then(none) else(if a0_0=3 then((qzq.f a0_1 a0_2 a0_3 a0_4).bind fun t105=>(if t105=true then(if (l0_6.length:Int)≤50 then(if (l0_5.length:Int)=(l0_6.length:Int) then((wx.f k l0_6).bind fun t106=>(if t106=true then((qqv.f k l0_6).bind fun t107=>(if t107=true then((has_impl_GoodValue_1.f k l0_5).bind fun t108=>(some (!t108))) else(some false))) else(some false))) else(some false)) else(some false)) else(some false))) else(some false)))
theorem wq.calls (k:Nat) (a0_0:Int) (a0_1:Int) (a0_2:Int) (a0_3:ByteArray) (a0_4:ByteArray) (A0_5:Option Addr) (c0_5:Nat) (l0_5:List (S30)) (A0_6:Option Addr) (c0_6:Nat) (l0_6:List ByteArray) (r:Bool) (w:World) (hr0_5:Kd.C k30 w A0_5 l0_5.length l0_5) (hc0_5:l0_5.length≤c0_5) (hr0_6:Kd.C Kd.string w A0_6 l0_6.length l0_6) (hc0_6:l0_6.length≤c0_6) (h:wq.f k a0_0 a0_1 a0_2 a0_3 a0_4 l0_5 l0_6=some r) :
  Calls Tryz.prog 43 #[.agg #[.int .i64 a0_0,.int .i64 a0_1,.int .i64 a0_2,.string a0_3,.string a0_4,.slice A0_5 l0_5.length c0_5,.slice A0_6 l0_6.length c0_6]] w fun e w'=>e=.returned (.bool r)∧Below w.heap.size w w':=by
 have hu33:=Tryz.underlying33;have hu30:=Tryz.underlying30;have HR0_5:=U.mk hr0_5;have HC0_5:=U.mk hc0_5;clear hr0_5 hc0_5;have HR0_6:=U.mk hr0_6;have HC0_6:=U.mk hc0_6;clear hr0_6 hc0_6;have HB:=U.mk (Below.refl w.heap.size w);unfold wq.f at h;have H:=h;clear h
 by_cases c2:a0_0=1
 ·rw[if_pos c2] at H;exact absurd H (by simp)
 ·rw[if_neg c2] at H;have c2b0:(a0_0 == 1)=false:=beq_eq_false_iff_ne.mpr c2;have c2b1:(a0_0 != 1)=true:=bne_iff_ne.mpr c2
  by_cases c17:a0_0=2
  ·rw[if_pos c17] at H;exact absurd H (by simp)
  ·rw[if_neg c17] at H;have c17b0:(a0_0 == 2)=false:=beq_eq_false_iff_ne.mpr c17;have c17b1:(a0_0 != 2)=true:=bne_iff_ne.mpr c17
   by_cases c39:a0_0=3
   ·rw[if_pos c39] at H;have c39b0:(a0_0 == 3)=true:=beq_iff_eq.mpr c39;have c39b1:(a0_0 != 3)=false:=bne_eq_false_iff_eq.mpr c39;clear c39;replace H:=jq8.mp H;obtain⟨t105,A400,H⟩:=H;try dsimp only at H
    have A40:=U.mk A400;clear A400
    by_cases c41:t105=true
    ·subst c41;have H1:(if (l0_6.length:Int)≤50 then(if (l0_5.length:Int)=(l0_6.length:Int) then((wx.f k l0_6).bind fun t106=>(if t106=true then((qqv.f k l0_6).bind fun t107=>(if t107=true then((has_impl_GoodValue_1.f k l0_5).bind fun t108=>(some (!t108))) else(some false))) else(some false))) else(some false)) else(some false))=some r:=by rw[if_pos rfl] at H;exact H
     clear H;have H:=H1;clear H1
     by_cases c42:(l0_6.length:Int)≤50
     ·rw[if_pos c42] at H;have c42b0:decide ((l0_6.length:Int)≤50)=true:=decide_eq_true c42;have c42b1:decide (l0_6.length≤50)=true:=decide_eq_true (by omega);clear c42
      by_cases c43:(l0_5.length:Int)=(l0_6.length:Int)
      ·rw[if_pos c43] at H;have c43b0:((l0_5.length:Int) == (l0_6.length:Int))=true:=beq_iff_eq.mpr c43;have c43b1:((l0_5.length:Int) != (l0_6.length:Int))=false:=bne_eq_false_iff_eq.mpr c43;have c43b2:(l0_5.length == l0_6.length)=true:=by first|simpa using c43|(simp at c43 ⊢;omega)
       clear c43;replace H:=jq8.mp H;obtain⟨t106,A440,H⟩:=H;try dsimp only at H
       have A44:=U.mk A440;clear A440
       by_cases c45:t106=true
       ·subst c45;have H1:((qqv.f k l0_6).bind fun t107=>(if t107=true then((has_impl_GoodValue_1.f k l0_5).bind fun t108=>(some (!t108))) else(some false)))=some r:=by rw[if_pos rfl] at H;exact H
        clear H;have H:=H1;clear H1;replace H:=jq8.mp H;obtain⟨t107,A460,H⟩:=H;try dsimp only at H
        have A46:=U.mk A460;clear A460
        by_cases c47:t107=true
        ·subst c47;have H1:((has_impl_GoodValue_1.f k l0_5).bind fun t108=>(some (!t108)))=some r:=by rw[if_pos rfl] at H;exact H
         clear H;have H:=H1;clear H1;replace H:=jq8.mp H;obtain⟨t108,A480,H⟩:=H;replace H:(some (!t108))=some r:=H;have A48:=U.mk A480;clear A480;obtain rfl:=Option.some.inj H;go_enter Tryz.func43,Tryz.ntmps43;go_wp2_with (first|((with_reducible refine gate_dst (N:=1) rfl ?_);(try (refine gate_guard (by rfl) ?_;dsimp only));refine box_event ?hg (N:=1) ?hd (cs:=#[.int .i64 a0_0,.int .i64 a0_1,.int .i64 a0_2,.string a0_3,.string a0_4,.slice A0_5 l0_5.length c0_5,.slice A0_6 l0_6.length c0_6]) (t:=33) ?hr ?_;(case hd=>rfl);(case hg=>rfl);(case hr=>first|(go_simp;done)|(go_simp;rfl));intro gb101 hg w49 hbox hb;have BK101:=U.mk (hbox);have GW101:=U.mk ((by rw[hg];exact(zq (by solve_by_elim only[HB.out,L,O,J])):w.heap.size≤gb101));have GE101:=GW101;replace HB:=U.mk (qx (by solve_by_elim only[HB.out,L,O,J]) hb);clear hb hbox hg;obtain⟨y50_0,y50_1,y50_2,y50_3,y50_4,y50_5,y50_6,z50_0,z50_1,z50_2,z50_3,z50_4,z50_5,z50_6⟩:=bx7f BK101.out)|((with_reducible refine zx (f:=65) rfl ?_);refine goesL_ (some 48) rfl rfl Tryz.func65 (by kernel_rfl) rfl #[.agg #[.int .i64 a0_1,.int .i64 a0_2,.string a0_3,.string a0_4]] rfl (by(try simp only[jq0,jq1,jq2]);first|done|rfl|(simp only[jq3,jq4];rfl)) ?_;(with_reducible refine(qzq.calls a0_1 a0_2 a0_3 a0_4 true _ A40.out).mono ?_);rintro e w51 ⟨rfl,hb⟩;refine⟨_,rfl,?_⟩;replace BK101:=U.mk (jx (by solve_by_elim only[BK101.out,qk,qv,qj]) hb);replace HB:=U.mk (qx (by solve_by_elim (maxDepth:=20) only[HB.out,L,O,J,qz,GE101.out]) hb);(try clear hb);obtain⟨y52_0,y52_1,y52_2,y52_3,y52_4,y52_5,y52_6,z52_0,z52_1,z52_2,z52_3,z52_4,z52_5,z52_6⟩:=bx7f BK101.out)|(go_at_call 67;(with_reducible refine(wx.calls k _ _ l0_6 true _ ?side1 ?side2 A44.out).mono ?_);(case side1=>solve_by_elim only[(Kd.C_below HR0_6.out HB.out),Kd.C_alloc,Kd.C_drewN,Kd.C_drew]);(case side2=>exact HC0_6.out);rintro e w' ⟨rfl,⟨nd,rfl⟩⟩)|(go_at_call 68;(with_reducible refine(qqv.calls k _ _ l0_6 true _ ?side1 ?side2 A46.out).mono ?_);(case side1=>repeat(first|exact(Kd.C_below HR0_6.out (by solve_by_elim (maxDepth:=20) only[HB.out,L,O,J,qz,GE101.out]))|(with_reducible refine Kd.C_alloc ?_ _)|(with_reducible refine Kd.C_drewN ?_ _)|(with_reducible refine Kd.C_drew ?_)));(case side2=>exact HC0_6.out);rintro e w' ⟨rfl,⟨nd,rfl⟩⟩)|(go_at_call 69;(with_reducible refine(has_impl_GoodValue_1.calls k _ _ l0_5 t108 _ ?side1 ?side2 A48.out).mono ?_);(case side1=>repeat(first|exact(Kd.C_below HR0_5.out (by solve_by_elim (maxDepth:=20) only[HB.out,L,O,J,qz,GE101.out]))|(with_reducible refine Kd.C_alloc ?_ _)|(with_reducible refine Kd.C_drewN ?_ _)|(with_reducible refine Kd.C_drew ?_)));(case side2=>exact HC0_5.out);rintro e w53 ⟨rfl,hb⟩;replace BK101:=U.mk (jx (by solve_by_elim only[BK101.out,qk,qv,qj]) hb);replace HB:=U.mk (qx (by solve_by_elim (maxDepth:=20) only[HB.out,L,O,J,qz,GE101.out]) hb);(try clear hb)))
         go_ret
         exact⟨by first|rfl|(simp[*,zw,zv] <;> rfl),by solve_by_elim (maxDepth:=20) only[HB.out,L,O,J,qz,GE101.out]⟩
        ·replace c47:=jq9.mpr c47;subst c47;have H1:(some false)=some r:=by rw[if_neg (show ¬ (false=true) by decide)] at H;exact H
         clear H;have H:=H1;clear H1;obtain rfl:=Option.some.inj H;go_enter Tryz.func43,Tryz.ntmps43;go_wp2_with (first|((with_reducible refine gate_dst (N:=1) rfl ?_);(try (refine gate_guard (by rfl) ?_;dsimp only));refine box_event ?hg (N:=1) ?hd (cs:=#[.int .i64 a0_0,.int .i64 a0_1,.int .i64 a0_2,.string a0_3,.string a0_4,.slice A0_5 l0_5.length c0_5,.slice A0_6 l0_6.length c0_6]) (t:=33) ?hr ?_;(case hd=>rfl);(case hg=>rfl);(case hr=>first|(go_simp;done)|(go_simp;rfl));intro gb101 hg w54 hbox hb;have BK101:=U.mk (hbox);have GW101:=U.mk ((by rw[hg];exact(zq (by solve_by_elim only[HB.out,L,O,J])):w.heap.size≤gb101));have GE101:=GW101;replace HB:=U.mk (qx (by solve_by_elim only[HB.out,L,O,J]) hb);clear hb hbox hg;obtain⟨y55_0,y55_1,y55_2,y55_3,y55_4,y55_5,y55_6,z55_0,z55_1,z55_2,z55_3,z55_4,z55_5,z55_6⟩:=bx7f BK101.out)|((with_reducible refine zx (f:=65) rfl ?_);refine goesL_ (some 48) rfl rfl Tryz.func65 (by kernel_rfl) rfl #[.agg #[.int .i64 a0_1,.int .i64 a0_2,.string a0_3,.string a0_4]] rfl (by(try simp only[jq0,jq1,jq2]);first|done|rfl|(simp only[jq3,jq4];rfl)) ?_;(with_reducible refine(qzq.calls a0_1 a0_2 a0_3 a0_4 true _ A40.out).mono ?_);rintro e w56 ⟨rfl,hb⟩;refine⟨_,rfl,?_⟩;replace BK101:=U.mk (jx (by solve_by_elim only[BK101.out,qk,qv,qj]) hb);replace HB:=U.mk (qx (by solve_by_elim (maxDepth:=20) only[HB.out,L,O,J,qz,GE101.out]) hb);(try clear hb);obtain⟨y57_0,y57_1,y57_2,y57_3,y57_4,y57_5,y57_6,z57_0,z57_1,z57_2,z57_3,z57_4,z57_5,z57_6⟩:=bx7f BK101.out)|(go_at_call 67;(with_reducible refine(wx.calls k _ _ l0_6 true _ ?side1 ?side2 A44.out).mono ?_);(case side1=>solve_by_elim only[(Kd.C_below HR0_6.out HB.out),Kd.C_alloc,Kd.C_drewN,Kd.C_drew]);(case side2=>exact HC0_6.out);rintro e w' ⟨rfl,⟨nd,rfl⟩⟩)|(go_at_call 68;(with_reducible refine(qqv.calls k _ _ l0_6 false _ ?side1 ?side2 A46.out).mono ?_);(case side1=>repeat(first|exact(Kd.C_below HR0_6.out (by solve_by_elim (maxDepth:=20) only[HB.out,L,O,J,qz,GE101.out]))|(with_reducible refine Kd.C_alloc ?_ _)|(with_reducible refine Kd.C_drewN ?_ _)|(with_reducible refine Kd.C_drew ?_)));(case side2=>exact HC0_6.out);rintro e w' ⟨rfl,⟨nd,rfl⟩⟩))
         go_ret
         exact⟨by first|rfl|(simp[*,zw,zv] <;> rfl),by solve_by_elim (maxDepth:=20) only[HB.out,L,O,J,qz,GE101.out]⟩
       ·replace c45:=jq9.mpr c45;subst c45;have H1:(some false)=some r:=by rw[if_neg (show ¬ (false=true) by decide)] at H;exact H
        clear H;have H:=H1;clear H1;obtain rfl:=Option.some.inj H;go_enter Tryz.func43,Tryz.ntmps43;go_wp2_with (first|((with_reducible refine gate_dst (N:=1) rfl ?_);(try (refine gate_guard (by rfl) ?_;dsimp only));refine box_event ?hg (N:=1) ?hd (cs:=#[.int .i64 a0_0,.int .i64 a0_1,.int .i64 a0_2,.string a0_3,.string a0_4,.slice A0_5 l0_5.length c0_5,.slice A0_6 l0_6.length c0_6]) (t:=33) ?hr ?_;(case hd=>rfl);(case hg=>rfl);(case hr=>first|(go_simp;done)|(go_simp;rfl));intro gb101 hg w58 hbox hb;have BK101:=U.mk (hbox);have GW101:=U.mk ((by rw[hg];exact(zq (by solve_by_elim only[HB.out,L,O,J])):w.heap.size≤gb101));have GE101:=GW101;replace HB:=U.mk (qx (by solve_by_elim only[HB.out,L,O,J]) hb);clear hb hbox hg;obtain⟨y59_0,y59_1,y59_2,y59_3,y59_4,y59_5,y59_6,z59_0,z59_1,z59_2,z59_3,z59_4,z59_5,z59_6⟩:=bx7f BK101.out)|((with_reducible refine zx (f:=65) rfl ?_);refine goesL_ (some 48) rfl rfl Tryz.func65 (by kernel_rfl) rfl #[.agg #[.int .i64 a0_1,.int .i64 a0_2,.string a0_3,.string a0_4]] rfl (by(try simp only[jq0,jq1,jq2]);first|done|rfl|(simp only[jq3,jq4];rfl)) ?_;(with_reducible refine(qzq.calls a0_1 a0_2 a0_3 a0_4 true _ A40.out).mono ?_);rintro e w60 ⟨rfl,hb⟩;refine⟨_,rfl,?_⟩;replace BK101:=U.mk (jx (by solve_by_elim only[BK101.out,qk,qv,qj]) hb);replace HB:=U.mk (qx (by solve_by_elim (maxDepth:=20) only[HB.out,L,O,J,qz,GE101.out]) hb);(try clear hb);obtain⟨y61_0,y61_1,y61_2,y61_3,y61_4,y61_5,y61_6,z61_0,z61_1,z61_2,z61_3,z61_4,z61_5,z61_6⟩:=bx7f BK101.out)|(go_at_call 67;(with_reducible refine(wx.calls k _ _ l0_6 false _ ?side1 ?side2 A44.out).mono ?_);(case side1=>solve_by_elim only[(Kd.C_below HR0_6.out HB.out),Kd.C_alloc,Kd.C_drewN,Kd.C_drew]);(case side2=>exact HC0_6.out);rintro e w' ⟨rfl,⟨nd,rfl⟩⟩))
        go_ret
        exact⟨by first|rfl|(simp[*,zw,zv] <;> rfl),by solve_by_elim (maxDepth:=20) only[HB.out,L,O,J,qz,GE101.out]⟩
      ·rw[if_neg c43] at H;have c43b0:((l0_5.length:Int) == (l0_6.length:Int))=false:=beq_eq_false_iff_ne.mpr c43;have c43b1:((l0_5.length:Int) != (l0_6.length:Int))=true:=bne_iff_ne.mpr c43;have c43b2:(l0_5.length == l0_6.length)=false:=by first|simpa using c43|(simp at c43 ⊢;omega)
       obtain rfl:=Option.some.inj H;go_enter Tryz.func43,Tryz.ntmps43;go_wp2_with (first|((with_reducible refine gate_dst (N:=1) rfl ?_);(try (refine gate_guard (by rfl) ?_;dsimp only));refine box_event ?hg (N:=1) ?hd (cs:=#[.int .i64 a0_0,.int .i64 a0_1,.int .i64 a0_2,.string a0_3,.string a0_4,.slice A0_5 l0_5.length c0_5,.slice A0_6 l0_6.length c0_6]) (t:=33) ?hr ?_;(case hd=>rfl);(case hg=>rfl);(case hr=>first|(go_simp;done)|(go_simp;rfl));intro gb101 hg w62 hbox hb;have BK101:=U.mk (hbox);have GW101:=U.mk ((by rw[hg];exact(zq (by solve_by_elim only[HB.out,L,O,J])):w.heap.size≤gb101));have GE101:=GW101;replace HB:=U.mk (qx (by solve_by_elim only[HB.out,L,O,J]) hb);clear hb hbox hg;obtain⟨y63_0,y63_1,y63_2,y63_3,y63_4,y63_5,y63_6,z63_0,z63_1,z63_2,z63_3,z63_4,z63_5,z63_6⟩:=bx7f BK101.out)|((with_reducible refine zx (f:=65) rfl ?_);refine goesL_ (some 48) rfl rfl Tryz.func65 (by kernel_rfl) rfl #[.agg #[.int .i64 a0_1,.int .i64 a0_2,.string a0_3,.string a0_4]] rfl (by(try simp only[jq0,jq1,jq2]);first|done|rfl|(simp only[jq3,jq4];rfl)) ?_;(with_reducible refine(qzq.calls a0_1 a0_2 a0_3 a0_4 true _ A40.out).mono ?_);rintro e w64 ⟨rfl,hb⟩;refine⟨_,rfl,?_⟩;replace BK101:=U.mk (jx (by solve_by_elim only[BK101.out,qk,qv,qj]) hb);replace HB:=U.mk (qx (by solve_by_elim (maxDepth:=20) only[HB.out,L,O,J,qz,GE101.out]) hb);(try clear hb);obtain⟨y65_0,y65_1,y65_2,y65_3,y65_4,y65_5,y65_6,z65_0,z65_1,z65_2,z65_3,z65_4,z65_5,z65_6⟩:=bx7f BK101.out))
       go_ret
       exact⟨by first|rfl|(simp[*,zw,zv] <;> rfl),by solve_by_elim (maxDepth:=20) only[HB.out,L,O,J,qz,GE101.out]⟩
     ·rw[if_neg c42] at H;have c42b0:decide ((l0_6.length:Int)≤50)=false:=decide_eq_false c42;have c42b1:decide (l0_6.length≤50)=false:=decide_eq_false (by omega);clear c42;obtain rfl:=Option.some.inj H;go_enter Tryz.func43,Tryz.ntmps43;go_wp2_with (first|((with_reducible refine gate_dst (N:=1) rfl ?_);(try (refine gate_guard (by rfl) ?_;dsimp only));refine box_event ?hg (N:=1) ?hd (cs:=#[.int .i64 a0_0,.int .i64 a0_1,.int .i64 a0_2,.string a0_3,.string a0_4,.slice A0_5 l0_5.length c0_5,.slice A0_6 l0_6.length c0_6]) (t:=33) ?hr ?_;(case hd=>rfl);(case hg=>rfl);(case hr=>first|(go_simp;done)|(go_simp;rfl));intro gb101 hg w66 hbox hb;have BK101:=U.mk (hbox);have GW101:=U.mk ((by rw[hg];exact(zq (by solve_by_elim only[HB.out,L,O,J])):w.heap.size≤gb101));have GE101:=GW101;replace HB:=U.mk (qx (by solve_by_elim only[HB.out,L,O,J]) hb);clear hb hbox hg;obtain⟨y67_0,y67_1,y67_2,y67_3,y67_4,y67_5,y67_6,z67_0,z67_1,z67_2,z67_3,z67_4,z67_5,z67_6⟩:=bx7f BK101.out)|((with_reducible refine zx (f:=65) rfl ?_);refine goesL_ (some 48) rfl rfl Tryz.func65 (by kernel_rfl) rfl #[.agg #[.int .i64 a0_1,.int .i64 a0_2,.string a0_3,.string a0_4]] rfl (by(try simp only[jq0,jq1,jq2]);first|done|rfl|(simp only[jq3,jq4];rfl)) ?_;(with_reducible refine(qzq.calls a0_1 a0_2 a0_3 a0_4 true _ A40.out).mono ?_);rintro e w68 ⟨rfl,hb⟩;refine⟨_,rfl,?_⟩;replace BK101:=U.mk (jx (by solve_by_elim only[BK101.out,qk,qv,qj]) hb);replace HB:=U.mk (qx (by solve_by_elim (maxDepth:=20) only[HB.out,L,O,J,qz,GE101.out]) hb);(try clear hb);obtain⟨y69_0,y69_1,y69_2,y69_3,y69_4,y69_5,y69_6,z69_0,z69_1,z69_2,z69_3,z69_4,z69_5,z69_6⟩:=bx7f BK101.out))
      go_ret
      exact⟨by first|rfl|(simp[*,zw,zv] <;> rfl),by solve_by_elim (maxDepth:=20) only[HB.out,L,O,J,qz,GE101.out]⟩
    ·replace c41:=jq9.mpr c41;subst c41;have H1:(some false)=some r:=by rw[if_neg (show ¬ (false=true) by decide)] at H;exact H
     clear H;have H:=H1;clear H1;obtain rfl:=Option.some.inj H;go_enter Tryz.func43,Tryz.ntmps43;go_wp2_with (first|((with_reducible refine gate_dst (N:=1) rfl ?_);(try (refine gate_guard (by rfl) ?_;dsimp only));refine box_event ?hg (N:=1) ?hd (cs:=#[.int .i64 a0_0,.int .i64 a0_1,.int .i64 a0_2,.string a0_3,.string a0_4,.slice A0_5 l0_5.length c0_5,.slice A0_6 l0_6.length c0_6]) (t:=33) ?hr ?_;(case hd=>rfl);(case hg=>rfl);(case hr=>first|(go_simp;done)|(go_simp;rfl));intro gb101 hg w70 hbox hb;have BK101:=U.mk (hbox);have GW101:=U.mk ((by rw[hg];exact(zq (by solve_by_elim only[HB.out,L,O,J])):w.heap.size≤gb101));have GE101:=GW101;replace HB:=U.mk (qx (by solve_by_elim only[HB.out,L,O,J]) hb);clear hb hbox hg;obtain⟨y71_0,y71_1,y71_2,y71_3,y71_4,y71_5,y71_6,z71_0,z71_1,z71_2,z71_3,z71_4,z71_5,z71_6⟩:=bx7f BK101.out)|((with_reducible refine zx (f:=65) rfl ?_);refine goesL_ (some 48) rfl rfl Tryz.func65 (by kernel_rfl) rfl #[.agg #[.int .i64 a0_1,.int .i64 a0_2,.string a0_3,.string a0_4]] rfl (by(try simp only[jq0,jq1,jq2]);first|done|rfl|(simp only[jq3,jq4];rfl)) ?_;(with_reducible refine(qzq.calls a0_1 a0_2 a0_3 a0_4 false _ A40.out).mono ?_);rintro e w72 ⟨rfl,hb⟩;refine⟨_,rfl,?_⟩;replace BK101:=U.mk (jx (by solve_by_elim only[BK101.out,qk,qv,qj]) hb);replace HB:=U.mk (qx (by solve_by_elim (maxDepth:=20) only[HB.out,L,O,J,qz,GE101.out]) hb);(try clear hb)))
     go_ret
     exact⟨by first|rfl|(simp[*,zw,zv] <;> rfl),by solve_by_elim (maxDepth:=20) only[HB.out,L,O,J,qz,GE101.out]⟩
   ·rw[if_neg c39] at H;have c39b0:(a0_0 == 3)=false:=beq_eq_false_iff_ne.mpr c39;have c39b1:(a0_0 != 3)=true:=bne_iff_ne.mpr c39;obtain rfl:=Option.some.inj H;go_enter Tryz.func43,Tryz.ntmps43;go_wp2_with (first|((with_reducible refine gate_dst (N:=1) rfl ?_);(try (refine gate_guard (by rfl) ?_;dsimp only));refine box_event ?hg (N:=1) ?hd (cs:=#[.int .i64 a0_0,.int .i64 a0_1,.int .i64 a0_2,.string a0_3,.string a0_4,.slice A0_5 l0_5.length c0_5,.slice A0_6 l0_6.length c0_6]) (t:=33) ?hr ?_;(case hd=>rfl);(case hg=>rfl);(case hr=>first|(go_simp;done)|(go_simp;rfl));intro gb101 hg w73 hbox hb;have BK101:=U.mk (hbox);have GW101:=U.mk ((by rw[hg];exact(zq (by solve_by_elim only[HB.out,L,O,J])):w.heap.size≤gb101));have GE101:=GW101;replace HB:=U.mk (qx (by solve_by_elim only[HB.out,L,O,J]) hb);clear hb hbox hg;obtain⟨y74_0,y74_1,y74_2,y74_3,y74_4,y74_5,y74_6,z74_0,z74_1,z74_2,z74_3,z74_4,z74_5,z74_6⟩:=bx7f BK101.out))
    go_ret
    exact⟨by first|rfl|(simp[*,zw,zv] <;> rfl),by solve_by_elim (maxDepth:=20) only[HB.out,L,O,J,qz,GE101.out]⟩
def xw.f (k:Nat) (a0_0:Int) (a0_1:Int) (a0_2:Int) (a0_3:ByteArray) (a0_4:ByteArray) (l0_5:List (S30)) (l0_6:List ByteArray):Option (Bool):=if a0_0=3 then((wq.f k a0_0 a0_1 a0_2 a0_3 a0_4 l0_5 l0_6).bind fun t102=>(some t102)) else(some false)
theorem xw.calls (k:Nat) (a0_0:Int) (a0_1:Int) (a0_2:Int) (a0_3:ByteArray) (a0_4:ByteArray) (A0_5:Option Addr) (c0_5:Nat) (l0_5:List (S30)) (A0_6:Option Addr) (c0_6:Nat) (l0_6:List ByteArray) (r:Bool) (w:World) (hr0_5:Kd.C k30 w A0_5 l0_5.length l0_5) (hc0_5:l0_5.length≤c0_5) (hr0_6:Kd.C Kd.string w A0_6 l0_6.length l0_6) (hc0_6:l0_6.length≤c0_6) (h:xw.f k a0_0 a0_1 a0_2 a0_3 a0_4 l0_5 l0_6=some r) :
  Calls Tryz.prog 24 #[.agg #[.int .i64 a0_0,.int .i64 a0_1,.int .i64 a0_2,.string a0_3,.string a0_4,.slice A0_5 l0_5.length c0_5,.slice A0_6 l0_6.length c0_6]] w fun e w'=>e=.returned (.bool r)∧Below w.heap.size w w':=by
 have hu33:=Tryz.underlying33;have HR0_5:=U.mk hr0_5;have HC0_5:=U.mk hc0_5;clear hr0_5 hc0_5;have HR0_6:=U.mk hr0_6;have HC0_6:=U.mk hc0_6;clear hr0_6 hc0_6;have HB:=U.mk (Below.refl w.heap.size w);unfold xw.f at h;have H:=h;clear h
 by_cases c2:a0_0=3
 ·rw[if_pos c2] at H;have c2b0:(a0_0 == 3)=true:=beq_iff_eq.mpr c2;have c2b1:(a0_0 != 3)=false:=bne_eq_false_iff_eq.mpr c2;clear c2;replace H:=jq8.mp H;obtain⟨t102,A30,H⟩:=H;replace H:(some t102)=some r:=H;have A3:=U.mk A30;clear A30;obtain rfl:=Option.some.inj H;go_enter Tryz.func24,Tryz.ntmps24;go_wp2_with (first|((with_reducible refine gate_dst (N:=1) rfl ?_);refine box_event ?hg (N:=1) ?hd (cs:=#[.int .i64 a0_0,.int .i64 a0_1,.int .i64 a0_2,.string a0_3,.string a0_4,.slice A0_5 l0_5.length c0_5,.slice A0_6 l0_6.length c0_6]) (t:=33) ?hr ?_;(case hd=>rfl);(case hg=>rfl);(case hr=>first|(go_simp;done)|(go_simp;rfl));intro gb101 hg w4 hbox hb;have BK101:=U.mk (hbox);have GW101:=U.mk ((by rw[hg];exact(zq (by solve_by_elim only[HB.out,L,O,J])):w.heap.size≤gb101));have GE101:=GW101;replace HB:=U.mk (qx (by solve_by_elim only[HB.out,L,O,J]) hb);clear hb hbox hg;obtain⟨y5_0,y5_1,y5_2,y5_3,y5_4,y5_5,y5_6,z5_0,z5_1,z5_2,z5_3,z5_4,z5_5,z5_6⟩:=bx7f BK101.out)|(go_at_call 43;(with_reducible refine(wq.calls k a0_0 a0_1 a0_2 a0_3 a0_4 _ _ l0_5 _ _ l0_6 t102 _ ?side1 ?side2 ?side3 ?side4 A3.out).mono ?_);(case side1=>solve_by_elim only[(Kd.C_below HR0_5.out HB.out),Kd.C_alloc,Kd.C_drewN,Kd.C_drew]);(case side2=>exact HC0_5.out);(case side3=>solve_by_elim only[(Kd.C_below HR0_6.out HB.out),Kd.C_alloc,Kd.C_drewN,Kd.C_drew]);(case side4=>exact HC0_6.out);rintro e w6 ⟨rfl,hb⟩;replace BK101:=U.mk (jx (by solve_by_elim only[BK101.out,qk,qv,qj]) hb);replace HB:=U.mk (qx (by solve_by_elim (maxDepth:=20) only[HB.out,L,O,J,qz,GE101.out]) hb);(try clear hb)))
  go_ret
  exact⟨by first|rfl|(simp[*,zw,zv] <;> rfl),by solve_by_elim (maxDepth:=20) only[HB.out,L,O,J,qz,GE101.out]⟩
 ·rw[if_neg c2] at H;have c2b0:(a0_0 == 3)=false:=beq_eq_false_iff_ne.mpr c2;have c2b1:(a0_0 != 3)=true:=bne_iff_ne.mpr c2;obtain rfl:=Option.some.inj H;go_enter Tryz.func24,Tryz.ntmps24;go_wp2_with (first|((with_reducible refine gate_dst (N:=1) rfl ?_);refine box_event ?hg (N:=1) ?hd (cs:=#[.int .i64 a0_0,.int .i64 a0_1,.int .i64 a0_2,.string a0_3,.string a0_4,.slice A0_5 l0_5.length c0_5,.slice A0_6 l0_6.length c0_6]) (t:=33) ?hr ?_;(case hd=>rfl);(case hg=>rfl);(case hr=>first|(go_simp;done)|(go_simp;rfl));intro gb101 hg w7 hbox hb;have BK101:=U.mk (hbox);have GW101:=U.mk ((by rw[hg];exact(zq (by solve_by_elim only[HB.out,L,O,J])):w.heap.size≤gb101));have GE101:=GW101;replace HB:=U.mk (qx (by solve_by_elim only[HB.out,L,O,J]) hb);clear hb hbox hg;obtain⟨y8_0,y8_1,y8_2,y8_3,y8_4,y8_5,y8_6,z8_0,z8_1,z8_2,z8_3,z8_4,z8_5,z8_6⟩:=bx7f BK101.out))
  go_ret
  exact⟨by first|rfl|(simp[*,zw,zv] <;> rfl),by solve_by_elim (maxDepth:=20) only[HB.out,L,O,J,qz,GE101.out]⟩
open Go.RowKit Go.Shelf Go.Proofs.YtkcdefnpbnbaeaaGreatDoorW.PrintWords Go.Proofs.YtkcdefnpbnbaeaaGreatDoorW.PrintLast Go.Proofs.YtkcdefnpbnbaeaaGreatDoorW.PrintMore
def grwF (x:Nat):Nat:=if x=241 then 94 else if x=277 then 108 else x
def grwT (x:Nat):Nat:=if x=70 then 65 else if x=3 then 3 else if x=0 then 0 else if x=72 then 67 else if x=37 then 44 else if x=5 then 5 else x
def grwG (x:Nat):Nat :=  x
def grwRen:Go.Shelf.Ren:=⟨grwF,grwT,grwG⟩
theorem grwLays:Lays.n241 Tryz.prog grwRen where
 mixed:=by kernel_rfl
 f241:=Tryz.func94.trans (congrArg some (by kernel_rfl))
 f277:=Tryz.func108.trans (congrArg some (by kernel_rfl))
 t0:=Tryz.underlying0
 a0:=Tryz.isAgg0
 z0:=Tryz.sizeOf0
 v0:=Tryz.zeroValue0
 t3:=Tryz.underlying3
 a3:=Tryz.isAgg3
 z3:=Tryz.sizeOf3
 v3:=Tryz.zeroValue3
 t37:=Tryz.underlying44
 a37:=Tryz.isAgg44
 z37:=Tryz.sizeOf44
 v37:=Tryz.zeroValue44
 t70:=Tryz.underlying65
 a70:=Tryz.isAgg65
 z70:=Tryz.sizeOf65
 v70:=Tryz.zeroValue65
 t72:=Tryz.underlying67
 a72:=Tryz.isAgg67
 z72:=Tryz.sizeOf67
 v72:=Tryz.zeroValue67
theorem grwExtra:Builder.Extra Tryz.prog grwRen where
 sizeBuilder:=by kernel_rfl
 liesBuilder:=by kernel_rfl
 t5:=Tryz.underlying5
 a5:=Tryz.isAgg5
 z5:=Tryz.sizeOf5
 v5:=Tryz.zeroValue5
 infoByte:=by kernel_rfl
 cellsByte:=by kernel_rfl
 sizeByte:=by kernel_rfl
 neB5:=by decide
theorem bgrow_calls (B b n:Nat) (w:World) (hB:B≤b) (hbk:w.heap[b]? = some (.cells #[.pointer (some ⟨b,0,none⟩),.slice none 0 0] 67 (0,0))) (hBw:B≤w.heap.size) (hn:n≤281474976710656) :
  Calls Tryz.prog 94 #[.pointer (some ⟨b,0,none⟩),.int .i64 n] w fun e w'=>e=.returned (.tuple #[])∧(Lib.BuilderAt 67 5 B b (.pointer (some ⟨b,0,none⟩)) [] w'∧Below B w w') :=
 Any.Builder_grow_fresh grwLays grwExtra B b n w hB hbk hBw hn
set_option maxHeartbeats 2000000 in
theorem bGrow_calls (B b n:Nat) (w:World) (hB:B≤b) (hbk:w.heap[b]? = some (.cells #[.pointer none,.slice none 0 0] 67 (0,0))) (hBw:B≤w.heap.size) (h0 : 0 < n) (hn:n≤281474976710656) :
  Calls Tryz.prog 75 #[.pointer (some ⟨b,0,none⟩),.int .i64 n] w fun e w'=>e=.returned (.tuple #[])∧(Lib.BuilderAt 67 5 B b (.pointer (some ⟨b,0,none⟩)) [] w'∧Below B w w'):=by
 have hcc:=copyCheck_fresh b w (by rw[Lib.cell_of_heap hbk];rfl) (by simp[World.shape?,hbk]) (Lib.frozen_of_heap hbk 0);have hlt:b < w.heap.size:=blk_lt hbk;have hb2:(w.setCell ⟨b,0,none⟩ (.pointer (some ⟨b,0,none⟩))).heap[b]? = some (.cells #[.pointer (some ⟨b,0,none⟩),.slice none 0 0] 67 (0,0)):=blk_set hbk 0 _;have hbel:Below B w (w.setCell ⟨b,0,none⟩ (.pointer (some ⟨b,0,none⟩))):=(Below.refl B w).setCell (p:=⟨b,0,none⟩) hB _;generalize w.setCell ⟨b,0,none⟩ (.pointer (some ⟨b,0,none⟩))=w1 at hcc hb2 hbel;have HG:=U.mk (fun W (hW:W.heap[b]? = some (.cells #[.pointer (some ⟨b,0,none⟩),.slice none 0 0] 67 (0,0))) (hs:B≤W.heap.size)=>bgrow_calls B b n W hB hW hs hn);have HB2:=U.mk hb2;have HBEL:=U.mk hbel;have c1:w1.cell? ⟨b,1,none⟩ = some (.slice none 0 0):=by rw[Lib.cell_of_heap hb2];rfl
 have q1:decide ((n:Int) < 0)=false:=decide_eq_false (by omega);have q2:decide ((0:Int) < (n:Int))=true:=decide_eq_true (by omega);have q3:decide (0 < n)=true:=decide_eq_true h0;have q4:(0 < n)=True:=eq_true h0;have HS:U (B≤w1.heap.size):=⟨Nat.le_trans hBw hbel.size⟩;clear hb2 hbel hbk hB hBw hn h0;go_enter Tryz.func75,Tryz.ntmps75;go_wp2_with (go_at_call 77;refine hcc.mono ?_;rintro e w' ⟨rfl,rfl⟩)
 go_quiet (fail)
 have HB9:=U.mk (show(World.drewN w' nq).heap[b]? = some (.cells #[.pointer (some ⟨b,0,none⟩),.slice none 0 0] 67 (0,0)) from HB2.out);have HS9:=U.mk (show B≤(World.drewN w' nq).heap.size from HS.out);have HG9:=U.mk (HG.out (World.drewN w' nq) HB9.out HS9.out);go_wp2_with (go_at_call 94;refine HG9.out.mono ?_;rintro e w2 ⟨rfl,h2,hb⟩)
 go_end0
 exact⟨rfl,h2,HBEL.out.trans (by exact(O (Below.refl _ _) _).trans hb)⟩
set_option maxHeartbeats 2000000 in
theorem writeString_calls (B b:Nat) (bs:List Value) (s:ByteArray) (w:World) (h:Lib.IsBuilder 67 5 B b bs w) (hlen:bs.length + s.size≤140737488355328) (hBw:B≤w.heap.size) :
  Calls Tryz.prog 76 #[.pointer (some ⟨b,0,none⟩),.string s] w fun e w'=>e=.returned (.tuple #[.int .i64 s.size,.nilIface])∧(Lib.BuilderAt 67 5 B b (.pointer (some ⟨b,0,none⟩)) (bs ++ Lib.strCells s) w'∧Below B w w'):=by
 obtain⟨i0,hi,hz0,hz1,hz2⟩:=info_parts (show Option.map (fun i=>(i.zero,i.size,i.bytes)) (Tryz.prog.info? 5)=some (some (.int .u8 0),1,1) by kernel_rfl);go_enter Tryz.func76,Tryz.ntmps76;go_wp2_with (go_at_call 77;refine(copyCheck_calls B b bs _ h).mono ?_)
 rintro e w1 ⟨rfl,h1,hb1⟩
 obtain⟨hB,v,hbk,hown,hne⟩:=h1;have c0:w1.cell? ⟨b,0,none⟩ = some (.pointer (some ⟨b,0,none⟩)):=by rw[Lib.cell_of_heap hbk];rfl
 have c1:w1.cell? ⟨b,1,none⟩ = some v:=by rw[Lib.cell_of_heap hbk];rfl
 go_wp2_with (at_builtin;refine Lib.wpList_append_own_string _ rfl _ _ 44 9 rfl B 5 i0 Tryz.underlying44 Tryz.underlying9 hi hz0 hz1 hz2 _ _ _ rfl hown s rfl ?c3 ?c4 ?c5 ?_)
 case c3=>unfold maxLen;omega
 case c4=>omega
 case c5=>have:=hb1.size;omega
 intro v' w2 hown' hgrow _
 have hlt:b < w1.heap.size:=blk_lt hbk
 have hb2:w2.heap[b]? = some (.cells #[.pointer (some ⟨b,0,none⟩),v] 67 (0,0)):=by
  rw[hgrow.block b hlt (fun e=>hne e.symm)];exact hbk
 have d0:w2.cell? ⟨b,0,none⟩ = some (.pointer (some ⟨b,0,none⟩)):=by rw[Lib.cell_of_heap hb2];rfl
 have d1:w2.cell? ⟨b,1,none⟩ = some v:=by rw[Lib.cell_of_heap hb2];rfl
 have f1:w2.frozen? ⟨b,1,none⟩ = false:=Lib.frozen_of_heap hb2 1
 obtain⟨ao,n',cap,rfl⟩ : ∃ ao n' cap,v'=.slice ao n' cap:=by
  rcases hown'.2 with ⟨hv,_⟩|⟨g,cap,cur,hv,_⟩
  ·exact⟨_,_,_,hv⟩
  ·exact⟨_,_,_,hv⟩
 go_wp2;go_ret2
 refine⟨rfl,?_,?_⟩
 ·exact Lib.BuilderAt.put (T:=67) (e:=5) hB hb2 (bs':=bs ++ Lib.strCells s) (by simpa [Lib.strCells_length] using hown') (by decide)
 ·exact(hb1.grown hgrow (by have:=hb1.size;omega) (fun k hk=>(hown.lt k hk).1)).setCell (p:=⟨b,1,none⟩) hB _
def joinL (sep:List UInt8):List ByteArray→List UInt8
 | []=>[]
 | x :: xs=>x.data.toList ++ xs.flatMap (fun y=>sep ++ y.data.toList)
def joinUp (sep:ByteArray) (l:List ByteArray) (j:Nat):List UInt8:=(rdOf ByteArray.empty l 0).data.toList ++ ((l.drop 1).take j).flatMap (fun y=>sep.data.toList ++ y.data.toList)
def sumN (l:List ByteArray):Nat→Nat
 | 0=>0
 | i + 1=>sumN l i + (l.getD i ⟨#[]⟩).size
def joinOk (l:List ByteArray) (sep:ByteArray):Prop:=l.length≤1000∧1≤sep.size∧sep.size≤1000∧∀ x ∈ l,x.size≤1000000
instance (l:List ByteArray) (sep:ByteArray):Decidable (joinOk l sep):=by unfold joinOk;infer_instance
def zqx.f (l:List ByteArray) (sep:ByteArray):Option ByteArray:=if joinOk l sep then some ⟨(joinL sep.data.toList l).toArray⟩ else none
theorem sumN_le {l:List ByteArray} (h:∀ x ∈ l,x.size≤1000000):∀ i,sumN l i≤i * 1000000
 | 0=>by simp[sumN]
 | i + 1=>by
  have:=sumN_le h i
  have h2:(l.getD i ⟨#[]⟩).size≤1000000:=by
   rw[List.getD_eq_getElem?_getD]
   by_cases hi:i < l.length
   ·rw[List.getElem?_eq_getElem hi];exact h _ (List.getElem_mem hi)
   ·rw[List.getElem?_eq_none (by omega)];decide
  simp only[sumN]
  omega
theorem quo_J {n s:Nat} (h2 : 2≤n) (hn:n≤1000) (hs:s≤1000):Int.tdiv 9223372036854775807 ((n:Int) - 1) > (s:Int):=by
 rw[Int.tdiv_eq_ediv_of_nonneg (by omega)]
 have h:(s + 1:Int)≤9223372036854775807 / ((n:Int) - 1):=by
  rw[Int.le_ediv_iff_mul_le (by omega)];have h1:((s:Int) + 1) * ((n:Int) - 1)≤1001 * 1000:=Int.mul_le_mul (by omega) (by omega) (by omega) (by omega)
  omega
 omega
theorem quo_J2 {n s:Nat} (h2 : 2≤n) (hn:n≤1000) (hs:s≤1000):decide ((9223372036854775807:Int) / ((n:Int) - 1)≤(s:Int))=false:=by
 have:=quo_J h2 hn hs;rw[Int.tdiv_eq_ediv_of_nonneg (by omega)] at this;exact decide_eq_false (by omega)
theorem mul_J {n s:Nat} (h2 : 2≤n) (hn:n≤1000) (hs:s≤1000):wrap64 (wrap64 ((s:Int) * ((n:Int) - 1)))=((s * (n - 1):Nat):Int):=by
 have h1:s * (n - 1)≤1000 * 1000:=Nat.mul_le_mul hs (by omega);have h3:((s * (n - 1):Nat):Int)=(s:Int) * ((n:Int) - 1):=by rw[Int.natCast_mul];congr 1;omega
 rw[← h3];unfold wrap64
 omega
theorem add_J {S x:Nat} (hS:S≤2000000000) (hx:x≤1000000):wrap64 ((S:Int) + (x:Int))=((S + x:Nat):Int)∧decide (wrap64 (9223372036854775807 - (S:Int)) < (x:Int))=false∧wrap64 (9223372036854775807 - (S:Int))=9223372036854775807 - (S:Int)∧decide (9223372036854775807 - (S:Int) < (x:Int))=false:=by
 have e:wrap64 (9223372036854775807 - (S:Int))=9223372036854775807 - (S:Int):=by unfold wrap64;omega
 refine⟨by unfold wrap64;omega,?_,e,decide_eq_false (by omega)⟩;rw[e];exact decide_eq_false (by omega)
theorem step_J {i n:Nat} (h:i < n) (hn:n≤1000):wrap64 ((i:Int) + 1)=((i + 1:Nat):Int):=by
 unfold wrap64
 omega
theorem byteCells_append (l m:List UInt8):Lib.byteCells (l ++ m)=Lib.byteCells l ++ Lib.byteCells m:=by simp[Lib.byteCells]
theorem strCells_length (s:ByteArray):(Lib.strCells s).length=s.size:=by simp[Lib.strCells]
theorem byteCells_length (l:List UInt8):(Lib.byteCells l).length=l.length:=by simp[Lib.byteCells]
theorem joinUp_succ (sep:ByteArray) (l:List ByteArray) {j:Nat} (h:j < l.length - 1):joinUp sep l (j + 1)=joinUp sep l j ++ sep.data.toList ++ (rdOf ByteArray.empty l ((j + 1:Nat):Int)).data.toList:=by
 have h0:j + 1 < l.length:=by omega
 have e:rdOf ByteArray.empty l ((j + 1:Nat):Int)=l[j + 1]:=by
  show l.getD ((j + 1:Nat):Int).toNat _=_
  rw[Int.toNat_natCast,List.getD_eq_getElem?_getD,List.getElem?_eq_getElem h0,Option.getD_some]
 have h1:j < (l.drop 1).length:=by rw[jq3];omega
 rw[e];unfold joinUp;rw[List.take_add_one,List.getElem?_eq_getElem h1,List.flatMap_append];simp only[Option.toList_some,List.flatMap_cons,List.flatMap_nil,List.append_nil,List.append_assoc,List.getElem_drop,Nat.add_comm 1 j]
theorem joinUp_all (sep:ByteArray) (l:List ByteArray) (h : 0 < l.length):joinUp sep l (l.length - 1)=joinL sep.data.toList l:=by
 cases l with
 | nil=>simp at h
 | cons x xs =>
  unfold joinUp joinL;rw[List.length_cons,Nat.add_sub_cancel,List.drop_succ_cons,List.drop_zero,List.take_of_length_le (Nat.le_refl _)]
  rfl
theorem joinUp_length (sep:ByteArray) (l:List ByteArray) {j:Nat} (hs:sep.size≤1000) (hz:∀ x ∈ l,x.size≤1000000):(joinUp sep l j).length≤1000000 + j * 1001000:=by
 have sz:∀ b:ByteArray,b.data.toList.length=b.size:=fun b=>Array.length_toList
 have h0:(rdOf ByteArray.empty l 0).data.toList.length≤1000000:=by
  rw[sz]
  rcases Nat.eq_zero_or_pos l.length with h|h
  ·rw[List.length_eq_zero_iff.mp h];decide
  ·have e:rdOf ByteArray.empty l 0=l[0]:=by
    show l.getD (0:Int).toNat _=_
    rw[show(0:Int).toNat=0 from rfl,List.getD_eq_getElem?_getD,List.getElem?_eq_getElem h,Option.getD_some]
   rw[e];exact hz _ (List.getElem_mem h)
 have h1:∀ (m:List ByteArray),(∀ x ∈ m,x.size≤1000000)→(m.flatMap (fun y=>sep.data.toList ++ y.data.toList)).length≤m.length * 1001000:=by
  intro m
  induction m with
  | nil=>intro _;simp
  | cons x m ih =>
   intro h
   have:=ih (fun y hy=>h y (List.mem_cons_of_mem _ hy));have hx:=h x List.mem_cons_self;rw[List.flatMap_cons,List.length_append,List.length_append,sz,sz,List.length_cons]
   omega
 have h2:=h1 ((l.drop 1).take j) (fun x hx=>hz x (List.mem_of_mem_drop (List.mem_of_mem_take hx)));have h3:((l.drop 1).take j).length≤j:=by rw[jq4];omega
 have h4:((l.drop 1).take j).length * 1001000≤j * 1001000:=Nat.mul_le_mul_right _ h3;unfold joinUp;rw[List.length_append]
 omega
set_option maxHeartbeats 4000000 in
theorem joinMany_calls (A0:Option Addr) (c0:Nat) (l0:List ByteArray) (sep:ByteArray) (w:World) (hr0:Kd.C Kd.string w A0 l0.length l0) (hcap:l0.length≤c0) (h2 : 2≤l0.length) (hn:l0.length≤1000) (hs0 : 1≤sep.size) (hs:sep.size≤1000) (hz:∀ x ∈ l0,x.size≤1000000) :
  Calls Tryz.prog 45 #[.slice A0 l0.length c0,.string sep] w fun e w'=>e=.returned (.string ⟨(joinL sep.data.toList l0).toArray⟩)∧Below w.heap.size w w':=by
 have HR0:=U.mk hr0;have HZ:=U.mk hz;have q0:decide ((l0.length:Int)=0)=false:=decide_eq_false (by omega);have q1:decide ((l0.length:Int)=1)=false:=decide_eq_false (by omega);have q2:decide (0 < (sep.size:Int))=true:=decide_eq_true (by omega);have q3:=quo_J h2 hn hs;have HN:=U.mk (And.intro h2 hn);have HCAP:=U.mk hcap;have hcap1:¬ c0=1:=by omega
 have hcap2 : 1≤c0:=by omega
 have q4:=quo_J2 h2 hn hs;have q5:=mul_J h2 hn hs;obtain⟨ad,rfl,hc0⟩:=Kd.at_string hr0 0 (by omega) (by omega);obtain⟨S,eS⟩ : ∃ S,S=sep.size * (l0.length - 1):=⟨_,rfl⟩;have hSb:S≤1000000:=by rw[eS];exact Nat.mul_le_mul hs (show l0.length - 1≤1000 by omega)
 rw[← eS] at q5;have HS:=U.mk (And.intro eS hSb);clear hr0 hz hc0 eS hSb q3;go_enter Tryz.func45,Tryz.ntmps45;go_wp2;simp only[q5];clear q0 q1 q2 q4 q5
 go_loopw [5,41] (fun v5 v41 W=>∃ i:Nat,v5=.int .i64 ((S + sumN l0 i:Nat):Int)∧v41=.int .i64 (i:Int)∧U (i≤l0.length)∧U (W=w)) (fun _ v41 _=>l0.length - (intOf v41).toNat)
 case atStart=>exact⟨0,rfl,rfl,⟨Nat.zero_le _⟩,⟨rfl⟩⟩
 case round =>
  obtain⟨i,rfl,rfl,HI,HW⟩:=hrel;obtain rfl:=HW.out;clear HW
  by_cases hlt:i < l0.length
  ·have hl1:decide ((i:Int) < (l0.length:Int))=true:=decide_eq_true (by omega);have hl2:decide (i < l0.length)=true:=decide_eq_true hlt;obtain⟨ad2,e2,hcell⟩:=Kd.at_string HR0.out (i:Int) (by omega) (by omega)
   cases e2
   rw[Int.toNat_natCast] at hcell
   have hx:(rdOf ByteArray.empty l0 (i:Int)).size≤1000000:=by
    have e:rdOf ByteArray.empty l0 (i:Int)=l0[i]:=by simp[rdOf,List.getD_eq_getElem?_getD,List.getElem?_eq_getElem hlt]
    rw[e];exact HZ.out _ (List.getElem_mem hlt)
   have hsum:sumN l0 (i + 1)=sumN l0 i + (rdOf ByteArray.empty l0 (i:Int)).size:=by
    simp only[sumN,rdOf,Int.toNat_natCast]
    rfl
   have hle:=sumN_le HZ.out i;generalize rdOf ByteArray.empty l0 (i:Int)=x at hcell hx hsum;obtain⟨a1,a2,a3,a4⟩:=add_J (S:=S + sumN l0 i) (x:=x.size) (by have:=HS.out.2;have:=HN.out.2;omega) hx;obtain⟨T,eT⟩ : ∃ T,T=S + sumN l0 i:=⟨_,rfl⟩;rw[← eT] at a1 a2 a3 a4 ⊢;have e3:=step_J hlt HN.out.2;have ET:=U.mk (And.intro eT hsum);have HLT:=U.mk hlt;clear hx hsum hle eT;go_wp2;simp only[a1,e3];go_roundw
   case rel=>exact⟨i + 1,by rw[ET.out.2,ET.out.1,Nat.add_assoc],rfl,⟨HLT.out⟩,⟨trivial⟩⟩
   case measure =>
    show l0.length - (((i + 1:Nat):Int)).toNat < l0.length - ((i:Int)).toNat
    rw[Int.toNat_natCast,Int.toNat_natCast];exact Nat.sub_lt_sub_left HLT.out (Nat.lt_succ_self i)
  ·have hie:i=l0.length:=by have:=HI.out;omega
   subst hie;have hl1:decide ((l0.length:Int) < (l0.length:Int))=false:=decide_eq_false (by omega);have hl2:decide (l0.length < l0.length)=false:=decide_eq_false (by omega);clear hlt HI
   have HSP:U (0 < S + sumN l0 l0.length∧S + sumN l0 l0.length≤281474976710656):=⟨by
    have h1:=sumN_le HZ.out l0.length;have h3:=HS.out;have h4:=HN.out;have : 1≤sep.size * (l0.length - 1):=Nat.mul_pos (by omega) (by omega)
    omega⟩
   obtain⟨M,eM⟩ : ∃ M,M=S + sumN l0 l0.length:=⟨_,rfl⟩;rw[← eM] at HSP ⊢;have HM:=U.mk eM;clear eM;go_wp2_with (go_at_call 75;refine(bGrow_calls wr.heap.size wr.heap.size M (wr.alloc (Obj.cells #[Value.pointer none,Value.slice none 0 0] 67)) (Nat.le_refl _) (blk_new wr _) (L (Below.refl wr.heap.size wr) _).size HSP.out.1 HSP.out.2).mono ?_)
   rintro e w1 ⟨rfl,hI0,hB0⟩
   have HW1:U (Below wr.heap.size wr w1):=⟨(L (Below.refl wr.heap.size wr) _).trans hB0⟩;have HI1:U (Lib.IsBuilder 67 5 wr.heap.size wr.heap.size (Lib.byteCells []) w1):=⟨Or.inr hI0⟩;clear hI0 hB0;obtain⟨B,eB⟩ : ∃ B,B=wr.heap.size:=⟨_,rfl⟩;rw[← eB] at HW1 HI1 ⊢;have HBB:=U.mk eB;clear eB;have HC1:=U.mk (Kd.C_below HR0.out (by rw[← HBB.out];exact HW1.out));obtain⟨x0,ex0⟩ : ∃ x,x=rdOf ByteArray.empty l0 0:=⟨_,rfl⟩
   have hc0:w1.cell? ad=some (.string x0):=by
    obtain⟨ad2,e2,hcell⟩:=Kd.at_string HC1.out 0 (by omega) (by have:=HN.out;omega)
    cases e2
    rw[ex0]
    simpa [Addr.add] using hcell
   have HX0:U (x0=rdOf ByteArray.empty l0 0∧x0.size≤1000000):=⟨ex0,by
    have h0 : 0 < l0.length:=by have:=HN.out;omega
    have e:rdOf ByteArray.empty l0 0=l0[0]:=by simp[rdOf,List.getD_eq_getElem?_getD,List.getElem?_eq_getElem h0]
    rw[ex0,e];exact HZ.out _ (List.getElem_mem h0)⟩
   clear ex0;go_wp2_with (go_at_call 76;refine(writeString_calls B B (Lib.byteCells []) x0 w1 HI1.out (by have:=HX0.out.2;simp[Lib.byteCells];omega) (by have:=HW1.out.size;have:=HBB.out;omega)).mono ?_)
   rintro e w2 ⟨rfl,hI2,hB2⟩
   have HW2:U (Below wr.heap.size wr w2):=⟨by rw[← HBB.out];exact HW1.out.trans hB2⟩
   have HI2:U (Lib.IsBuilder 67 5 B B (Lib.byteCells (joinUp sep l0 0)) w2):=⟨by
    have e:Lib.byteCells (joinUp sep l0 0)=Lib.byteCells [] ++ Lib.strCells x0:=by
     rw[HX0.out.1];simp[joinUp,Lib.byteCells,Lib.strCells]
    rw[e];exact Or.inr hI2⟩
   clear hI2 hB2;obtain⟨wr_1,rfl⟩ : ∃ W,W=wr:=⟨_,rfl⟩;go_wp2
   have HCELL:U (∀ W,Below wr_1.heap.size wr_1 W→∀ j,j + 1 < l0.length→W.cell? { block:=ad.block,off:=ad.off + 1 + j } = some (.string (rdOf ByteArray.empty l0 ((j + 1:Nat):Int)))):=⟨by
    intro W hW j hj
    obtain⟨ad2,e2,hcell⟩:=Kd.at_string (Kd.C_below HR0.out hW) ((j + 1:Nat):Int) (by omega) (by omega)
    cases e2
    rw[Int.toNat_natCast] at hcell
    have ea:ad.add (j + 1) = { block:=ad.block,off:=ad.off + 1 + j }:=by
     unfold Addr.add;rw[if_neg (by omega),show ad.off + (j + 1)=ad.off + 1 + j by omega]
    rw[ea] at hcell;exact hcell⟩
   go_loopw [65] (fun v65 W=>∃ j:Nat,v65=.int .i64 (j:Int)∧U (j≤l0.length - 1)∧U (Lib.IsBuilder 67 5 B B (Lib.byteCells (joinUp sep l0 j)) W∧Below wr_1.heap.size wr_1 W)) (fun v65 _=>l0.length - 1 - (intOf v65).toNat)
   case atStart=>exact⟨0,rfl,⟨Nat.zero_le _⟩,⟨HI2.out,HW2.out⟩⟩
   case round =>
    obtain⟨j,rfl,HJ,HV⟩:=hrel;clear HW2 HI2 HI1 HW1 hc0
    by_cases hlt:j < l0.length - 1
    ·have HLT:=U.mk hlt;have hl1:decide ((j:Int) < (l0.length:Int) - 1)=true:=decide_eq_true (by omega);have hl2:decide (j < l0.length - 1)=true:=decide_eq_true hlt;have hcell:=HCELL.out wr HV.out.2 j (by omega)
     have hY:(rdOf ByteArray.empty l0 ((j + 1:Nat):Int)).size≤1000000:=by
      have h0:j + 1 < l0.length:=by omega
      have e:rdOf ByteArray.empty l0 ((j + 1:Nat):Int)=l0[j + 1]:=by
       show l0.getD ((j + 1:Nat):Int).toNat _=_
       rw[Int.toNat_natCast,List.getD_eq_getElem?_getD,List.getElem?_eq_getElem h0,Option.getD_some]
      rw[e];exact HZ.out _ (List.getElem_mem h0)
     have hJU:joinUp sep l0 (j + 1)=joinUp sep l0 j ++ sep.data.toList ++ (rdOf ByteArray.empty l0 ((j + 1:Nat):Int)).data.toList:=joinUp_succ sep l0 hlt;have hJL:=joinUp_length sep l0 (j:=j) hs HZ.out;obtain⟨y,ey⟩ : ∃ y,y=rdOf ByteArray.empty l0 ((j + 1:Nat):Int):=⟨_,rfl⟩;rw[← ey] at hcell hY hJU;have HY:=U.mk (And.intro hY (And.intro hJU hJL));have e3:wrap64 ((j:Int) + 1)=((j + 1:Nat):Int):=by unfold wrap64;omega
     have HEY:=U.mk ey;clear hY ey hJU hJL;go_wp2_with (go_at_call 76;refine(writeString_calls B B (Lib.byteCells (joinUp sep l0 j)) sep wr HV.out.1 (by have:=HY.out.2.2;simp only[byteCells_length];omega) (by have:=HV.out.2.size;have:=HBB.out;omega)).mono ?_)
     rintro e w3 ⟨rfl,hI3,hB3⟩
     have HW3:U (Below wr_1.heap.size wr_1 w3):=⟨HV.out.2.trans (by rw[← HBB.out];exact hB3)⟩;have hcell3:w3.cell? { block:=ad.block,off:=ad.off + 1 + j } = some (.string y):=by rw[HEY.out];exact HCELL.out w3 HW3.out j (by omega)
     have HI3:U (Lib.IsBuilder 67 5 B B (Lib.byteCells (joinUp sep l0 j) ++ Lib.strCells sep) w3):=⟨Or.inr hI3⟩;clear hI3 hB3;go_wp2_with (go_at_call 76;refine(writeString_calls B B (Lib.byteCells (joinUp sep l0 j) ++ Lib.strCells sep) y w3 HI3.out (by have:=HY.out.1;have:=HY.out.2.2;simp only[List.length_append,byteCells_length,strCells_length];omega) (by have:=HW3.out.size;have:=HBB.out;omega)).mono ?_)
     rintro e w4 ⟨rfl,hI4,hB4⟩
     have HW4:U (Below wr_1.heap.size wr_1 w4):=⟨HW3.out.trans (by rw[← HBB.out];exact hB4)⟩
     have HI4:U (Lib.IsBuilder 67 5 B B (Lib.byteCells (joinUp sep l0 (j + 1))) w4):=⟨by
      rw[HY.out.2.1,byteCells_append,byteCells_append];exact Or.inr hI4⟩
     clear hI4 hB4;go_wp2;try simp only[e3]
     go_roundw
     case rel=>exact⟨j + 1,rfl,⟨HLT.out⟩,⟨HI4.out,HW4.out⟩⟩
     case measure =>
      show l0.length - 1 - (((j + 1:Nat):Int)).toNat < l0.length - 1 - ((j:Int)).toNat
      rw[Int.toNat_natCast,Int.toNat_natCast];exact Nat.sub_lt_sub_left HLT.out (Nat.lt_succ_self j)
    ·have hje:j=l0.length - 1:=by have:=HJ.out;omega
     subst hje;have hl1:decide (((l0.length - 1:Nat):Int) < (l0.length:Int) - 1)=false:=decide_eq_false (by omega);have hl2:decide (l0.length - 1 < l0.length - 1)=false:=decide_eq_false (by omega);clear hlt HJ;go_wp2_with (go_at_call 47;refine(string_calls B B (joinUp sep l0 (l0.length - 1)) _ HV.out.1 (by have:=HV.out.2.size;have:=HBB.out;omega)).mono ?_)
     rintro e w3 ⟨rfl,hB3⟩
     go_wp2;go_ret
     exact⟨by rw[joinUp_all sep l0 (by omega)];rfl,HV.out.2.trans (by rw[← HBB.out];exact hB3)⟩
set_option maxHeartbeats 4000000 in
theorem joinNone_calls (A0:Option Addr) (c0:Nat) (sep:ByteArray) (w:World) :
  Calls Tryz.prog 45 #[.slice A0 0 c0,.string sep] w fun e w'=>e=.returned (.string ⟨#[]⟩)∧Below w.heap.size w w':=by
 go_enter Tryz.func45,Tryz.ntmps45;go_wp2;go_ret
 exact⟨rfl,Below.refl _ _⟩
set_option maxHeartbeats 4000000 in
theorem joinOne_calls (A0:Option Addr) (c0:Nat) (x:ByteArray) (sep:ByteArray) (w:World) (hr0:Kd.C Kd.string w A0 1 [x]) :
  Calls Tryz.prog 45 #[.slice A0 1 c0,.string sep] w fun e w'=>e=.returned (.string x)∧Below w.heap.size w w':=by
 obtain⟨ad,rfl,hc0⟩:=Kd.at_string hr0 0 (by omega) (by decide);have hc0:w.cell? ad=some (.string x):=by simpa [Addr.add,rdOf] using hc0
 go_enter Tryz.func45,Tryz.ntmps45;go_wp2;go_ret
 exact⟨rfl,Below.refl _ _⟩
theorem zqx.calls (A0:Option Addr) (c0:Nat) (l0:List ByteArray) (a1:ByteArray) (r:ByteArray) (w:World) (hr0:Kd.C Kd.string w A0 l0.length l0) (hc0:l0.length≤c0) (h:zqx.f l0 a1=some r) :
  Calls Tryz.prog 45 #[.slice A0 l0.length c0,.string a1] w fun e w'=>e=.returned (.string r)∧Below w.heap.size w w':=by
 unfold zqx.f at h
 split at h
 ·rename_i hok
  obtain⟨hn,hs0,hs,hz⟩:=hok
  cases h
  match l0,hr0,hc0,hn,hz with
  | [],_,_,_,_=>exact joinNone_calls A0 c0 a1 w
  | [x],hr0,_,_,_ =>
   have e:(⟨(joinL a1.data.toList [x]).toArray⟩ : ByteArray)=x:=by simp[joinL]
   rw[e];exact joinOne_calls A0 c0 x a1 w hr0
  | x :: y :: l,hr0,hc0,hn,hz=>exact joinMany_calls A0 c0 _ a1 w hr0 hc0 (by simp) hn hs0 hs hz
 ·cases h
set_option maxRecDepth 100000
def itoaF (x:Nat):Nat:=if x=171 then 72 else if x=243 then 90 else if x=246 then 101 else if x=283 then 104 else if x=284 then 105 else if x=285 then 106 else if x=286 then 107 else if x=129 then 115 else if x=317 then 114 else if x=318 then 116 else if x=319 then 117 else if x=320 then 118 else if x=337 then 125 else if x=338 then 126 else x
def itoaT (x:Nat):Nat:=if x=3 then 3 else if x=9 then 9 else if x=2 then 2 else if x=4 then 4 else if x=171 then 122 else if x=0 then 0 else if x=53 then 83 else if x=37 then 44 else if x=5 then 5 else if x=173 then 125 else if x=212 then 131 else if x=51 then 108 else if x=20 then 20 else if x=213 then 132 else if x=46 then 57 else if x=232 then 164 else if x=233 then 165 else x
def itoaG (x:Nat):Nat:=if x=17 then 0 else if x=18 then 2 else if x=19 then 3 else x
def itoaRen:Ren:=⟨itoaF,itoaT,itoaG⟩
theorem itoaLays:LaysM.n171 Tryz.prog itoaRen where
 mixed:=by kernel_rfl
 f129:=Tryz.func115.trans (congrArg some (by kernel_rfl))
 f171:=Tryz.func72.trans (congrArg some (by kernel_rfl))
 f243:=Tryz.func90.trans (congrArg some (by kernel_rfl))
 f246:=Tryz.func101.trans (congrArg some (by kernel_rfl))
 f283:=Tryz.func104.trans (congrArg some (by kernel_rfl))
 f284:=Tryz.func105.trans (congrArg some (by kernel_rfl))
 f285:=Tryz.func106.trans (congrArg some (by kernel_rfl))
 f286:=Tryz.func107.trans (congrArg some (by kernel_rfl))
 f317:=Tryz.func114.trans (congrArg some (by kernel_rfl))
 f318:=Tryz.func116.trans (congrArg some (by kernel_rfl))
 f319:=Tryz.func117.trans (congrArg some (by kernel_rfl))
 f320:=Tryz.func118.trans (congrArg some (by kernel_rfl))
 f337:=Tryz.func125.trans (congrArg some (by kernel_rfl))
 f338:=Tryz.func126.trans (congrArg some (by kernel_rfl))
 t0:=Tryz.underlying0
 a0:=Tryz.isAgg0
 z0:=Tryz.sizeOf0
 v0:=Tryz.zeroValue0
 t2:=Tryz.underlying2
 a2:=Tryz.isAgg2
 z2:=Tryz.sizeOf2
 v2:=Tryz.zeroValue2
 t3:=Tryz.underlying3
 a3:=Tryz.isAgg3
 z3:=Tryz.sizeOf3
 v3:=Tryz.zeroValue3
 t4:=Tryz.underlying4
 a4:=Tryz.isAgg4
 z4:=Tryz.sizeOf4
 v4:=Tryz.zeroValue4
 t5:=Tryz.underlying5
 a5:=Tryz.isAgg5
 z5:=Tryz.sizeOf5
 v5:=Tryz.zeroValue5
 t9:=Tryz.underlying9
 a9:=Tryz.isAgg9
 z9:=Tryz.sizeOf9
 v9:=Tryz.zeroValue9
 t20:=Tryz.underlying20
 a20:=Tryz.isAgg20
 z20:=Tryz.sizeOf20
 v20:=Tryz.zeroValue20
 t37:=Tryz.underlying44
 a37:=Tryz.isAgg44
 z37:=Tryz.sizeOf44
 v37:=Tryz.zeroValue44
 t46:=Tryz.underlying57
 a46:=Tryz.isAgg57
 z46:=Tryz.sizeOf57
 v46:=Tryz.zeroValue57
 t51:=Tryz.underlying108
 a51:=Tryz.isAgg108
 z51:=Tryz.sizeOf108
 v51:=Tryz.zeroValue108
 t53:=Tryz.underlying83
 a53:=Tryz.isAgg83
 z53:=Tryz.sizeOf83
 v53:=Tryz.zeroValue83
 t171:=Tryz.underlying122
 a171:=Tryz.isAgg122
 z171:=Tryz.sizeOf122
 v171:=Tryz.zeroValue122
 t173:=Tryz.underlying125
 a173:=Tryz.isAgg125
 z173:=Tryz.sizeOf125
 v173:=Tryz.zeroValue125
 t212:=Tryz.underlying131
 a212:=Tryz.isAgg131
 z212:=Tryz.sizeOf131
 v212:=Tryz.zeroValue131
 t213:=Tryz.underlying132
 a213:=Tryz.isAgg132
 z213:=Tryz.sizeOf132
 t232:=Tryz.underlying164
 a232:=Tryz.isAgg164
 z232:=Tryz.sizeOf164
 v232:=Tryz.zeroValue164
 t233:=Tryz.underlying165
 a233:=Tryz.isAgg165
 z233:=Tryz.sizeOf165
 v233:=Tryz.zeroValue165
 g17:=by kernel_rfl
 g18:=by kernel_rfl
 g19:=by kernel_rfl
 i0:=by kernel_rfl
 i2:=by kernel_rfl
 i3:=by kernel_rfl
 i4:=by kernel_rfl
 i5:=by kernel_rfl
 i9:=by kernel_rfl
 i20:=by kernel_rfl
 i37:=by kernel_rfl
 i46:=by kernel_rfl
 i51:=by kernel_rfl
 i53:=by kernel_rfl
 i171:=by kernel_rfl
 i173:=by kernel_rfl
 i212:=by kernel_rfl
 i232:=by kernel_rfl
 i233:=by kernel_rfl
 m17:=by kernel_rfl
 m18:=by kernel_rfl
 m19:=by kernel_rfl
def PowW (w : World) : Prop := Lib.TabIs Tryz.prog w "internal/strconv.uint64pow10" .u64 Lib.pow10Tab
theorem tab_named : (Tryz.prog.globalNamed "internal/strconv.uint64pow10").isSome = true := by kernel_rfl
theorem PowW_below {w w':World} (h:PowW w) (hb:Below w.heap.size w w'):PowW w':=by
 obtain⟨g,hg⟩:=Option.isSome_iff_exists.1 tab_named;unfold PowW Lib.TabIs World.var? at h ⊢;rw[hg] at h ⊢;simp only[Option.bind_some] at h ⊢
 have hlt:g < w.heap.size:=by
  rcases Nat.lt_or_ge g w.heap.size with h'|h'
  ·exact h'
  ·rw[Array.getElem?_eq_none h'] at h;cases h
 rw[hb.block g hlt];exact h
def TabW (w:World):Prop:=PowW w
theorem TabW_pow {w:World} (h:TabW w):PowW w:=h
theorem TabW_below {w w':World} (h:TabW w) (hb:Below w.heap.size w w'):TabW w':=PowW_below h hb
theorem TabW_drewN {w:World} (h:TabW w) (n:Nat):TabW (w.drewN n):=TabW_below h (O (Below.refl _ _) _)
theorem TabW_drew {w:World} (h:TabW w):TabW w.drew:=TabW_below h (below_drew (Below.refl _ _))
theorem TabW_alloc {w:World} (h:TabW w) (o:Obj):TabW (w.alloc o):=TabW_below h (L (Below.refl _ _) _)
def strconv_Itoa.f (n:Int):Option ByteArray:=if -9223372036854775808≤n∧n≤9223372036854775807 then some ⟨(Lib.itoa n).toArray⟩ else none
theorem strconv_Itoa.calls (a0:Int) (r:ByteArray) (w:World) (htab:TabW w) (h:strconv_Itoa.f a0=some r) :
  Calls Tryz.prog 72 #[.int .i64 a0] w fun e w'=>e=.returned (.string r)∧Below w.heap.size w w':=by
 unfold strconv_Itoa.f at h
 by_cases hr : -9223372036854775808≤a0∧a0≤9223372036854775807
 case neg=>rw[if_neg hr] at h;cases h
 rw[if_pos hr] at h;obtain rfl:=Option.some.inj h;refine(Any.strconv_Itoa itoaLays a0 hr.1 hr.2 w (TabW_pow htab)).mono ?_
 rintro e w' ⟨rfl,k,os,rfl⟩
 exact⟨rfl,Lib.below_grow _ w (Nat.le_refl _) k os⟩
open Go.RowKit Go.Shelf Go.Sort Go.Proofs.YtkcdefnpbnbaeaaGreatDoorW.PrintWords Go.Proofs.YtkcdefnpbnbaeaaGreatDoorW.PrintLast Go.Proofs.YtkcdefnpbnbaeaaGreatDoorW.PrintMore
theorem fu_holds (w:World) (T:TypeId) (nd:Nat) (hs:nd≤24):Holds (fun (b:UInt8)=>Value.int .u8 (b.toNat:Int)) (w.alloc (.cells Lib.zeros24 T)) w.heap.size 0 (Array.replicate nd (0:UInt8)):=fun j hj=>by
 have hj':j < nd:=by simpa using hj
 refine⟨?_,World.frozen?_alloc_new _ _ _ _⟩;rw[World.cell?_alloc_new,Lib.zeros24_at _ (by omega),getElem!_pos _ j hj];simp
theorem fu_fin (w:World) (o:Obj) (dk:Array UInt8) (k:Nat):Below w.heap.size w ((putRow (fun (b:UInt8)=>Value.int .u8 (b.toNat:Int)) (w.alloc o) w.heap.size 0 dk).drewN k):=by
 rw[alloc_eq_grow];obtain⟨os',_,e⟩:=putRow_grow_new (fun (b:UInt8)=>Value.int .u8 (b.toNat:Int)) w #[o] w.heap.size 0 dk (Nat.le_refl _);rw[e];exact Lib.below_grow _ w (Nat.le_refl _) k os'
set_option maxHeartbeats 4000000 in
theorem fuint_calls (u:Nat) (hu64:u < 18446744073709551616) (w:World) (htab:TabW w) :
  Calls Tryz.prog 93 #[.int .u64 (u:Int),.int .i64 10] w fun e w'=>e=.returned (.string ⟨(Lib.decDigits u).toArray⟩)∧Below w.heap.size w w':=by
 by_cases hs:u < 100
 ·have C1:∀ W,Calls Tryz.prog 104 #[.int .i64 (u:Int)] W fun e w'=>e=.returned (.string ⟨(Lib.decDigits u).toArray⟩)∧w'=W:=fun W=>Any.internal_strconv_small { itoaLays with } u hs W
  have C:=U.mk C1;have h1:decide ((u:Int) < 100)=true:=decide_eq_true (by omega);have h1':decide (u < 100)=true:=decide_eq_true hs;have h2:IntKind.i64.wrap (u:Int)=(u:Int):=IntWalk.i64_in _ (by omega);have h3:wrap64 (u:Int)=(u:Int):=by rw[← i64_w];exact h2
  clear C1 htab;go_enter Tryz.func93,Tryz.ntmps93;go_wp2_with (first|(go_at_call 104;refine(C.out _).mono ?_;rintro e w' ⟨rfl,rfl⟩))
  go_ret
  exact⟨rfl,Below.refl _ _⟩
 ·have hu1 : 1≤u:=by omega
  have hnd20:Lib.nDigits u≤20:=by have:=Lib.numDigits_eq u hu1 hu64;split at this <;> omega
  have hal:Tryz.prog.arrayLen 122=24:=by kernel_rfl
  have hsl:∀ W,(Instr.sliceAt 122 (.pointer (some ⟨w.heap.size,0,none⟩)) none (some (.int .i64 (Lib.nDigits u:Int))) none).run Tryz.prog W=.ok (.slice (some ⟨w.heap.size,0,none⟩) (Lib.nDigits u) 24) W:=fun W=>by
   rw[run_sliceAt_array_h W 122 ⟨w.heap.size,0,none⟩ (by simp[Program.arrayLen,Program.elem,Tryz.underlying122]) .i64 (Lib.nDigits u:Int) (by omega) (by rw[hal];omega)];go_simp
  have hH0:=fu_holds w 122 (Lib.nDigits u) (by omega);have hfmt:=Any.internal_strconv_formatBase10 (ρ:=itoaRen) { itoaLays with } w.heap.size 0 24 u (Array.replicate (Lib.nDigits u) 0) (w.alloc (.cells Lib.zeros24 122)) hH0 (by rw[Array.size_replicate];exact Lib.lt_pow_nDigits u) hu64 (by rw[Array.size_replicate];omega);rw[Array.size_replicate] at hfmt;have HF:=U.mk hfmt;have HN:U (Calls Tryz.prog 105 #[.int .u64 (u:Int)] (w.alloc (.cells Lib.zeros24 122)) fun e w'=>e=.returned (.int .i64 (Lib.nDigits u))∧w'=(w.alloc (.cells Lib.zeros24 122))):=⟨Any.internal_strconv_numDigits { itoaLays with } u hu1 hu64 _ (Lib.tabIs_alloc (TabW_pow htab) _)⟩;have HH0:=U.mk hH0;have h1:decide ((u:Int) < 100)=false:=decide_eq_false (by omega);have h1':decide (u < 100)=false:=decide_eq_false hs;clear hH0 hal hfmt htab;go_enter Tryz.func93,Tryz.ntmps93;go_wp2_with (first|(go_at_call 105;go_loud (refine HN.out.mono ?_;rintro e w' ⟨rfl,rfl⟩))|(go_at_call 106;go_loud (refine HF.out.mono ?_;rintro e w' ⟨rfl,k,v',dk,rfl,hF⟩)))
  have hcv:(convert 44 9 (.slice (some ⟨w.heap.size,0,none⟩) (Lib.nDigits u) 24)).run Tryz.prog ((putRow (fun (b:UInt8)=>Value.int .u8 (b.toNat:Int)) (w.alloc (.cells Lib.zeros24 122)) w.heap.size 0 dk).drewN k)=.ok (.string ⟨(Lib.decDigits u).toArray⟩) ((putRow (fun (b:UInt8)=>Value.int .u8 (b.toNat:Int)) (w.alloc (.cells Lib.zeros24 122)) w.heap.size 0 dk).drewN k):=by
   have h:=run_convert_bytes_back (P:=Tryz.prog) ((putRow (fun (b:UInt8)=>Value.int .u8 (b.toNat:Int)) (w.alloc (.cells Lib.zeros24 122)) w.heap.size 0 dk).drewN k) 44 9 5 ⟨w.heap.size,0,none⟩ 24 (Lib.decDigits u) Tryz.underlying44 Tryz.underlying5 Tryz.underlying9 (fun j hj=>by
    rw[Lib.row_is_numeral hF j hj,Lib.add_plain,World.cell?_drewN];exact cell?_putRow (fun (b:UInt8)=>Value.int .u8 (b.toNat:Int)) _ w.heap.size 0 _ dk HH0.out (by rw[hF.size,Array.size_replicate]) j (by rw[hF.size];rw[Lib.decDigits_length] at hj;exact hj))
   rw[Lib.decDigits_length] at h;exact h
  rw[hcv];go_wp2;go_ret
  exact⟨rfl,fu_fin w _ dk k⟩
def zqw.f (n b:Int):Option ByteArray:=if b=10∧0≤n∧n < 18446744073709551616 then some ⟨(Lib.decDigits n.toNat).toArray⟩ else none
theorem zqw.calls (a0 a1:Int) (r:ByteArray) (w:World) (htab:TabW w) (h:zqw.f a0 a1=some r) :
  Calls Tryz.prog 74 #[.int .u64 a0,.int .i64 a1] w fun e w'=>e=.returned (.string r)∧Below w.heap.size w w':=by
 unfold zqw.f at h
 by_cases hr:a1=10∧0≤a0∧a0 < 18446744073709551616
 case neg=>rw[if_neg hr] at h;cases h
 rw[if_pos hr] at h;obtain rfl:=Option.some.inj h;obtain⟨rfl,h0,h1⟩:=hr;obtain⟨u,rfl⟩ : ∃ u:Nat,a0=u:=⟨a0.toNat,by omega⟩;rw[Int.toNat_natCast];have C:=U.mk (fuint_calls u (by omega) w htab);clear htab;go_enter Tryz.func74,Tryz.ntmps74;go_wp2_with (first|(go_at_call 93;go_loud (refine C.out.mono ?_;rintro e w' ⟨rfl,hB⟩)))
 go_ret
 exact⟨rfl,hB⟩
abbrev nilS:Value:=.slice none 0 0
def bsrG (a b c:Nat) (v34 v92 vT:Value):List Value:=List.replicate a nilS ++ v34 :: (List.replicate b nilS ++ v92 :: (List.replicate c nilS ++ [vT]))
theorem bsrG_len (a b c:Nat) (v34 v92 vT:Value):(bsrG a b c v34 v92 vT).length=a + b + c + 3:=by
 simp only[bsrG,List.length_append,List.length_cons,List.length_replicate,List.length_nil];omega
theorem bsrG_at (a b c:Nat) (v34 v92 vT:Value) (i:Nat) (hi:i < a + b + c + 2):(bsrG a b c v34 v92 vT)[i]? = some (if i=a then v34 else if i=a + 1 + b then v92 else nilS):=by
 unfold bsrG
 by_cases c1:i < a
 ·rw[List.getElem?_append_left (by rw[List.length_replicate];exact c1),List.getElem?_replicate,if_pos c1,if_neg (by omega),if_neg (by omega)]
 rw[List.getElem?_append_right (by rw[List.length_replicate];omega),List.length_replicate]
 by_cases h1:i=a
 ·rw[if_pos h1,show i - a=0 by omega];rfl
 rw[if_neg h1,show i - a=(i - a - 1) + 1 by omega,List.getElem?_cons_succ]
 by_cases c2:i - a - 1 < b
 ·rw[List.getElem?_append_left (by rw[List.length_replicate];exact c2),List.getElem?_replicate,if_pos c2,if_neg (by omega)]
 rw[List.getElem?_append_right (by rw[List.length_replicate];omega),List.length_replicate]
 by_cases h2:i=a + 1 + b
 ·rw[if_pos h2,show i - a - 1 - b=0 by omega];rfl
 rw[if_neg h2,show i - a - 1 - b=(i - a - 1 - b - 1) + 1 by omega,List.getElem?_cons_succ,List.getElem?_append_left (by rw[List.length_replicate];omega),List.getElem?_replicate,if_pos (by omega)]
theorem bsrG_last (a b c:Nat) (v34 v92 vT:Value):(bsrG a b c v34 v92 vT)[a + b + c + 2]? = some vT:=by
 unfold bsrG;rw[List.getElem?_append_right (by rw[List.length_replicate];omega),List.length_replicate,show a + b + c + 2 - a=(b + c + 1) + 1 by omega,List.getElem?_cons_succ,List.getElem?_append_right (by rw[List.length_replicate];omega),List.length_replicate,show b + c + 1 - b=c + 1 by omega,List.getElem?_cons_succ,List.getElem?_append_right (by rw[List.length_replicate];exact Nat.le_refl _),List.length_replicate,Nat.sub_self]
 rfl
theorem bsrG_set1 (a b c:Nat) (v34 v92 vT x:Value):(bsrG a b c v34 v92 vT).set a x=bsrG a b c x v92 vT:=by
 unfold bsrG;rw[List.set_append_right _ _ (by rw[List.length_replicate];exact Nat.le_refl _),List.length_replicate,Nat.sub_self,jq6]
theorem bsrG_set2 (a b c:Nat) (v34 v92 vT x:Value):(bsrG a b c v34 v92 vT).set (a + 1 + b) x=bsrG a b c v34 x vT:=by
 unfold bsrG;rw[List.set_append_right _ _ (by rw[List.length_replicate];omega),List.length_replicate,show a + 1 + b - a=b + 1 by omega,jq7,List.set_append_right _ _ (by rw[List.length_replicate];exact Nat.le_refl _),List.length_replicate,Nat.sub_self,jq6]
theorem bsrG_set3 (a b c:Nat) (v34 v92 vT x:Value):(bsrG a b c v34 v92 vT).set (a + b + c + 2) x=bsrG a b c v34 v92 x:=by
 unfold bsrG;rw[List.set_append_right _ _ (by rw[List.length_replicate];omega),List.length_replicate,show a + b + c + 2 - a=(b + c + 1) + 1 by omega,jq7,List.set_append_right _ _ (by rw[List.length_replicate];omega),List.length_replicate,show b + c + 1 - b=c + 1 by omega,jq7,List.set_append_right _ _ (by rw[List.length_replicate];exact Nat.le_refl _),List.length_replicate,Nat.sub_self,jq6]
def bsr (v34 v92 vT:Value):Array Value:=(bsrG 34 57 163 v34 v92 vT).toArray
theorem bsr_size (v34 v92 vT:Value):(bsr v34 v92 vT).size=257:=by
 unfold bsr;rw[List.size_toArray,bsrG_len]
theorem bsr_at (v34 v92 vT:Value) (i:Nat) (hi:i < 256):(bsr v34 v92 vT)[i]? = some (if i=34 then v34 else if i=92 then v92 else nilS):=by
 unfold bsr;rw[List.getElem?_toArray];exact bsrG_at 34 57 163 v34 v92 vT i hi
theorem bsr_256 (v34 v92 vT:Value):(bsr v34 v92 vT)[256]? = some vT:=by
 unfold bsr;rw[List.getElem?_toArray];exact bsrG_last 34 57 163 v34 v92 vT
theorem bsr_set34 (v34 v92 vT x:Value):(bsr v34 v92 vT).setIfInBounds 34 x=bsr x v92 vT:=by
 unfold bsr;rw[jq5];exact congrArg _ (bsrG_set1 34 57 163 v34 v92 vT x)
theorem bsr_set92 (v34 v92 vT x:Value):(bsr v34 v92 vT).setIfInBounds 92 x=bsr v34 x vT:=by
 unfold bsr;rw[jq5];exact congrArg _ (bsrG_set2 34 57 163 v34 v92 vT x)
theorem bsr_set256 (v34 v92 vT x:Value):(bsr v34 v92 vT).setIfInBounds 256 x=bsr v34 v92 x:=by
 unfold bsr;rw[jq5];exact congrArg _ (bsrG_set3 34 57 163 v34 v92 vT x)
theorem bsr_one (v34 v92 vT:Value) (h1:v34.oneCell'=true) (h2:v92.oneCell'=true) (h3:vT.oneCell'=true):∀ v ∈ (bsr v34 v92 vT).toList,v.oneCell'=true:=by
 intro v hv
 unfold bsr bsrG at hv;simp only[List.mem_append,List.mem_cons,List.mem_replicate,List.not_mem_nil,or_false] at hv
 rcases hv with ⟨_,rfl⟩|rfl|⟨_,rfl⟩|rfl|⟨_,rfl⟩|rfl
 ·rfl
 ·exact h1
 ·rfl
 ·exact h2
 ·rfl
 ·exact h3
abbrev q92:ByteArray:=⟨#[92]⟩
abbrev q9292:ByteArray:=⟨#[92,92]⟩
abbrev q34:ByteArray:=⟨#[34]⟩
abbrev q9234:ByteArray:=⟨#[92,34]⟩
def Rw2 (W:World) (G:Nat) (v:Value) (a b:Int):Prop:=∃ q c,v=.slice (some ⟨q,0,none⟩) 2 c∧q≠G∧W.cell? ⟨q,0,none⟩ = some (.int .u8 a)∧W.cell? ⟨q,1,none⟩ = some (.int .u8 b)
theorem Rw2.below {W W':World} {G:Nat} {v:Value} {a b:Int} (h:Rw2 W G v a b) (hb:Below W.heap.size W W'):Rw2 W' G v a b:=by
 obtain⟨q,c,e,h1,h2,h3⟩:=h;exact⟨q,c,e,h1,(hb.cell (World.block_lt_of_cell? W _ h2)).trans h2,(hb.cell (World.block_lt_of_cell? W _ h3)).trans h3⟩
theorem Rw2.set {W:World} {G:Nat} {v:Value} {a b:Int} (h:Rw2 W G v a b) (j:Nat) (u:Value):Rw2 (W.setCell ⟨G,j,none⟩ u) G v a b:=by
 obtain⟨q,c,e,h1,h2,h3⟩:=h;exact⟨q,c,e,h1,(World.cell?_setCell_other _ ⟨G,j,none⟩ ⟨q,0,none⟩ _ (fun h=>h1 (congrArg Addr.block h).symm)).trans h2,(World.cell?_setCell_other _ ⟨G,j,none⟩ ⟨q,1,none⟩ _ (fun h=>h1 (congrArg Addr.block h).symm)).trans h3⟩
theorem Rw2.grown {W W':World} {G:Nat} {v:Value} {a b:Int} {row:Option Nat} (h:Rw2 W G v a b) (hg:W.grownBy W' row) (hr:∀ q,W.cell? ⟨q,0,none⟩ = some (.int .u8 a)→some q≠row):Rw2 W' G v a b:=by
 obtain⟨q,c,e,h1,h2,h3⟩:=h;have hb:=hg.block q (World.block_lt_of_cell? W _ h2) (hr q h2);exact⟨q,c,e,h1,(World.cell?_of_block hb).trans h2,(World.cell?_of_block hb).trans h3⟩
theorem row_neQ {W:World} {base q:Nat} {ok:Nat→Prop} {vT:Value} {x:ByteArray} {xs:List ByteArray} {a:Int} (h:Kd.R Kd.string 9 W base ok vT (x :: xs)) (hq:W.cell? ⟨q,0,none⟩ = some (.int .u8 a)):some q≠vT.ownBlock:=by
 intro e
 obtain⟨A,c,rfl⟩:=Kd.R_slice h;obtain⟨ad,e1,hx⟩:=Kd.at_string (Kd.R_reads' h).2.2 0 (by decide) (by simp only[List.length_cons];omega);subst e1;obtain⟨g,rfl⟩:=Kd.R_head h;simp only[Value.ownBlock,Option.some.injEq] at e;subst e;have hx2:W.cell? ⟨q,0,none⟩ = some (.string (rdOf ByteArray.empty (x :: xs) 0)):=hx;rw[hq] at hx2
 cases hx2
def BldSt (W0:World) (G:Nat) (k:Nat) (W:World):Prop:=∃ v34 v92 vT:Value,U (Below W0.heap.size W0 W)∧U (W.heap[G]? = some (.cells (bsr v34 v92 vT) 147 (0,0)))∧U (Kd.R Kd.string 9 W W0.heap.size (fun _=>True) vT (if k=0 then[] else if k=1 then[q34] else[q34,q92]))∧U (if k=0 then v34=nilS else Rw2 W G v34 92 34)∧U (if k=2 then Rw2 W G v92 92 92 else v92=nilS)
set_option maxHeartbeats 4000000 in
theorem build_calls (g0 o c:Nat) (w:World) (h4:w.cell? ⟨g0,4,none⟩ = some (.slice (some ⟨o,0,none⟩) 4 c)) (hs0:w.cell? ⟨o,0,none⟩ = some (.string q92)) (hs1:w.cell? ⟨o,1,none⟩ = some (.string q9292)) (hs2:w.cell? ⟨o,2,none⟩ = some (.string q34)) (hs3:w.cell? ⟨o,3,none⟩ = some (.string q9234)) :
  Calls Tryz.prog 113 #[.pointer (some ⟨g0,0,none⟩)] w fun e w'=>∃ (G:Nat) (v34 v92 vT:Value),e=.returned (.iface 148 (.pointer (some ⟨G,0,none⟩)))∧Below w.heap.size w w'∧w.heap.size≤G∧w'.heap[G]? = some (.cells (bsr v34 v92 vT) 147 (0,0))∧Rw2 w' G v34 92 34∧Rw2 w' G v92 92 92∧Kd.R Kd.string 9 w' w.heap.size (fun _=>True) vT [q34,q92]:=by
 have HS:=U.mk (And.intro hs0 (And.intro hs1 (And.intro hs2 hs3)));clear hs0 hs1 hs2 hs3;have z0:q92.size=1:=rfl;have z1:q9292.size=2:=rfl;have z2:q34.size=1:=rfl;have z3:q9234.size=2:=rfl;go_enter Tryz.func113,Tryz.ntmps113;go_wp2
 go_loopw [4,5] (fun v4 v5 W=>∃ (b:Bool) (n:Int),v4=.bool b∧v5=.int .i64 n∧U (W=w)∧U ((b=true∧n=0)∨(b=false∧n=2)∨(b=false∧n=4))) (fun _ v5 _=>4 - (intOf v5).toNat)
 case atStart=>exact⟨true,0,rfl,rfl,⟨rfl⟩,⟨.inl ⟨rfl,rfl⟩⟩⟩
 case round =>
 obtain⟨b,n,rfl,rfl,HW,HN⟩:=hrel;obtain rfl:=HW.out;obtain⟨hs0,hs1,hs2,hs3⟩:=HS.out
 rcases HN.out with ⟨rfl,rfl⟩|⟨rfl,rfl⟩|⟨rfl,rfl⟩
 ·clear HN;go_wp2;go_roundw
  case rel=>exact⟨false,2,rfl,by first|rfl|go_num,⟨by first|rfl|trivial⟩,⟨.inr (.inl ⟨rfl,rfl⟩)⟩⟩
  case measure=>decide
 ·clear HN;go_wp2;go_roundw
  case rel=>exact⟨false,4,rfl,by first|rfl|go_num,⟨by first|rfl|trivial⟩,⟨.inr (.inr ⟨rfl,rfl⟩)⟩⟩
  case measure=>decide
 clear HN;clear hs0 hs1 hs2 hs3 h4 HW;obtain⟨W0,rfl⟩ : ∃ W0,W0=wr:=⟨_,rfl⟩;have hmk:∀ W:World,(Instr.makeSlice 25 (.int .i64 0) (.int .i64 2)).run Tryz.prog W=.ok (.slice (some ⟨W.heap.size,0,none⟩) 0 2) (W.alloc (.cells #[.string ByteArray.empty,.string ByteArray.empty] 9 (0,0))):=fun W=>by kernel_rfl
 obtain⟨t,et⟩ : ∃ t,t=W0.heap.size:=⟨_,rfl⟩;obtain⟨W1,eW1⟩ : ∃ W,W=W0.alloc (.cells #[.string ByteArray.empty,.string ByteArray.empty] 9 (0,0)):=⟨_,rfl⟩;obtain⟨G,eG⟩ : ∃ G,G=W0.heap.size + 1:=⟨_,rfl⟩;have eG1:W1.heap.size=W0.heap.size + 1:=by rw[eW1];exact Array.size_push ..
 obtain⟨W2,eW2⟩ : ∃ W,W=W1.alloc (.cells Tryz.zeroCells147 147 (0,0)):=⟨_,rfl⟩;obtain⟨W3,eW3⟩ : ∃ W,W=W2.setRow G (bsr nilS nilS (.slice (some ⟨t,0,none⟩) 0 2)):=⟨_,rfl⟩;have hz:Tryz.zeroCells147=bsr nilS nilS nilS:=by kernel_rfl
 have b2:W2.heap[G]? = some (.cells Tryz.zeroCells147 147 (0,0)):=by rw[eW2,eG,← eG1];exact blk_new _ _
 have hst:(storeCells ⟨W0.heap.size + 1,0,none⟩ (Tryz.zeroCells147.toList.set 256 (.slice (some ⟨W0.heap.size,0,none⟩) 0 2))).run Tryz.prog ((W0.alloc (.cells #[.string ByteArray.empty,.string ByteArray.empty] 9 (0,0))).alloc (.cells Tryz.zeroCells147 147 (0,0)))=.ok () W3:=by
  have hl:Tryz.zeroCells147.toList.set 256 (.slice (some ⟨W0.heap.size,0,none⟩) 0 2)=(bsr nilS nilS (.slice (some ⟨t,0,none⟩) 0 2)).toList:=by
   rw[hz,← bsr_set256 nilS nilS nilS (.slice (some ⟨t,0,none⟩) 0 2),Array.toList_setIfInBounds,et]
  rw[hl,← eW1,← eW2,← eG,eW3];have h:=run_storeCells_from (P:=Tryz.prog) G 147 (bsr nilS nilS (.slice (some ⟨t,0,none⟩) 0 2)).toList 0 _ W2 b2 (by rw[Array.length_toList,bsr_size,hz,bsr_size]) (bsr_one _ _ _ rfl rfl rfl)
  simpa only[List.take_zero,List.nil_append,Array.toArray_toList] using h
 have hb1:Below W0.heap.size W0 W1:=by rw[eW1];exact L (Below.refl _ _) _
 have hb2:Below W0.heap.size W0 W2:=by rw[eW2];exact L hb1 _
 have HB:U (Below W0.heap.size W0 W3):=⟨by rw[eW3];exact below_setRow hb2 (by omega) _⟩;have BK:U (W3.heap[G]? = some (.cells (bsr nilS nilS (.slice (some ⟨t,0,none⟩) 0 2)) 147 (0,0))):=⟨by rw[eW3];exact setRow_heap _ _ _ _ _ _ b2⟩;have bt1:W1.heap[t]? = some (.cells #[.string ByteArray.empty,.string ByteArray.empty] 9 (0,0)):=by rw[eW1,et];exact blk_new _ _
 have bt3:W3.heap[t]? = some (.cells #[.string ByteArray.empty,.string ByteArray.empty] 9 (0,0)):=by
  rw[eW3,setRow_other _ _ _ _ (by omega),eW2];exact qj bt1 _
 have RT:U (Kd.R Kd.string 9 W3 W0.heap.size (fun _=>True) (.slice (some ⟨t,0,none⟩) 0 2) []):=⟨⟨fun _ _=>trivial,[],⟨rfl,.inr ⟨t,2,_,rfl,by omega,bt3,Nat.zero_le _,by decide,rfl,rfl⟩⟩,rfl,fun j p h=>by simp at h⟩⟩;have HT:=U.mk et;have HG:=U.mk eG;clear hb1 hb2 bt1 bt3 b2 hz eW1 eW2 eG1;go_wp2;rw[← et,show t + 1=G by omega,← eW3];clear hst hmk eW3 et eG
 go_loopw [12] (fun v12 W=>∃ (k:Nat) (n:Int),v12=.int .i64 n∧U (BldSt W0 G k W)∧U ((k=0∧n=2)∨(k=1∧n=0)∨(k=2∧n = -2))) (fun v12 _=>(intOf v12 + 2).toNat)
 case atStart=>exact⟨0,2,rfl,⟨⟨_,_,_,HB,BK,RT,⟨rfl⟩,⟨rfl⟩⟩⟩,⟨.inl ⟨rfl,rfl⟩⟩⟩
 case round =>
 obtain⟨k,n,rfl,HST,HN⟩:=hrel;obtain⟨v34,v92,vT,HB1,BK1,RT1,H34,H92⟩:=HST.out;clear HB BK RT;have hk3:=HN.out;clear HN HST
 rcases hk3 with ⟨rfl,rfl⟩|⟨rfl,rfl⟩|⟨rfl,rfl⟩
 ·have r34:=H34.out;have r92:=H92.out;simp only[if_true] at r34;rw[if_neg (by decide)] at r92;subst r34 r92;clear H34 H92;have RT2:U (Kd.R Kd.string 9 wr W0.heap.size (fun _=>True) vT []):=⟨RT1.out⟩;clear RT1;have hi0:wr.cell? ⟨o,2,none⟩ = some (.string q34):=(HB1.out.cell (World.block_lt_of_cell? W0 _ HS.out.2.2.1)).trans HS.out.2.2.1;have hi1:wr.cell? ⟨o,3,none⟩ = some (.string q9234):=(HB1.out.cell (World.block_lt_of_cell? W0 _ HS.out.2.2.2)).trans HS.out.2.2.2;have hix:∀ W:World,(Instr.index 9 (.string q34) (.int .i64 0)).run Tryz.prog W=.ok (.int .u8 34) W:=fun W=>by kernel_rfl
  have heq:∀ W:World,(binOp .eql 44 (.slice none 0 0) (.slice none 0 0)).run Tryz.prog W=.ok (.bool true) W:=fun W=>by kernel_rfl
  have hc:wr.cell? ⟨G,34,none⟩ = some (.slice none 0 0):=(qq BK1.out 34).trans (bsr_at _ _ _ 34 (by decide));have hcT:wr.cell? ⟨G,256,none⟩ = some vT:=(qq BK1.out 256).trans (bsr_256 _ _ _);have hf:=I BK1.out 34;have hfT:=I BK1.out 256;have HGL:U (G < wr.heap.size):=⟨blk_lt BK1.out⟩
  have hcv:(convert 44 9 (.slice (some ⟨wr.heap.size,0,none⟩) 1 1)).run Tryz.prog (wr.alloc (.cells #[.int .u8 34] 5 (0,0)))=.ok (.string q34) (wr.alloc (.cells #[.int .u8 34] 5 (0,0))):=by
   have h:=run_convert_bytes_arg (P:=Tryz.prog) (wr.alloc (.cells #[.int .u8 34] 5 (0,0))) 44 5 Tryz.underlying44 Tryz.underlying5 wr.heap.size 0 1 1 [34] rfl (fun j hj=>?_) 9 Tryz.underlying9
   ·exact h.trans (by first|rfl|(congr 1))
   ·obtain rfl:j=0:=by simp at hj;omega
    exact(qq (blk_new _ _) 0).trans rfl
  go_wp2_with (first|((with_reducible refine gate_builtin (b:=.append) (xs:=#[.tmp 119,.tmp 123]) rfl ?_);go_loud (at_builtin;refine Kd.R_append Kd.string (w0:=W0) W0.heap.size rfl (.tmp 119) (.tmp 123) 25 9 (.string (⟨#[]⟩ : ByteArray)) 16 rfl Tryz.underlying25 info9 rfl (by decide) (by omega) vT [] q34 [.string q34] (fun _=>True) (fun _=>False) (by first|rfl|(go_simp;done)|(go_simp;rfl)) (by first|rfl|(go_simp;done)|(go_simp;rfl)) ?aP (fun _ hk=>hk.elim) ?aF ?aO ?aB ?aS ?aL ?_;(case aP=>exact rfl);(case aB=>exact(by solve_by_elim only[HB1.out,L,O,J]));(case aF=>exact(fun _ _=>trivial));(case aO=>exact(by solve_by_elim only[RT2.out,Kd.zj,Kd.zz,Kd.zk]));(case aS=>exact(zq (by solve_by_elim only[HB1.out,L,O,J])));(case aL=>exact(by decide));intro v1 w1 ho hb hg hat;clear hat;obtain⟨A1,c1,e1⟩ : ∃ A c,v1=.slice A 1 c:=Kd.R_slice ho;subst e1;have BKa:=U.mk (blk_grown (g:=G) (o:=.cells (bsr nilS nilS vT) 147 (0,0)) (qj BK1.out _) hg (Kd.R_ne RT2.out BK1.out (by decide)));have hcTa:w1.cell? ⟨G,256,none⟩ = some vT:=(qq BKa.out 256).trans (bsr_256 _ _ _);have hfTa:=I BKa.out 256;have BKb:=U.mk (blk_put BKa.out 256 (.slice A1 1 c1) (bsr_set256 _ _ _ (.slice A1 1 c1)));obtain⟨W5,eW5⟩ : ∃ W,W=Lib.bytesWorld (w1.setCell ⟨G,256,none⟩ (.slice A1 1 c1)) 5 q9234:=⟨_,rfl⟩;obtain⟨cap,ecap⟩ : ∃ c,c=grownCap (w1.setCell ⟨G,256,none⟩ (.slice A1 1 c1)) (q9234).size 0 5:=⟨_,rfl⟩;have hsz:(w1.setCell ⟨G,256,none⟩ (.slice A1 1 c1)).heap.size=w1.heap.size:=(by simp[World.setCell]);have hby:(convert 9 44 (.string q9234)).run Tryz.prog (w1.setCell ⟨G,256,none⟩ (.slice A1 1 c1))=.ok (.slice (some ⟨w1.heap.size,0,none⟩) 2 cap) W5:=(by rw[eW5,ecap,← hsz];exact print_bytes 9 44 5 Tryz.underlying9 Tryz.underlying44 Tryz.underlying5 q9234 _);have HB5:U (Below (w1.setCell ⟨G,256,none⟩ (.slice A1 1 c1)).heap.size (w1.setCell ⟨G,256,none⟩ (.slice A1 1 c1)) W5):=⟨by rw[eW5];exact kx (Below.refl _ _) (Nat.le_refl _) 5 q9234⟩;have BK5:=U.mk (jx BKb.out HB5.out);have hc5:W5.cell? ⟨G,34,none⟩ = some (.slice none 0 0):=(qq BK5.out 34).trans (bsr_at _ _ _ 34 (by decide));have hf5:=I BK5.out 34;have HQ:U (w1.heap.size≠G):=⟨fun e=>by have:=blk_lt BKa.out;omega⟩;have HC0:U (W5.cell? ⟨w1.heap.size,0,none⟩ = some (.int .u8 92)):=⟨by rw[eW5,← hsz];exact Lib.bytesWorld_cell _ _ _ 0 (by decide)⟩;have HC1:U (W5.cell? ⟨w1.heap.size,1,none⟩ = some (.int .u8 34)):=⟨by rw[eW5,← hsz];exact Lib.bytesWorld_cell _ _ _ 1 (by decide)⟩;have HRT:=U.mk (Kd.R_below (Kd.R_mono (ok':=fun _=>True) (Kd.R_far (p:=⟨G,256,none⟩) (Kd.R_types ho BKa.out (by decide)) (fun _ hk=>hk.2) (.slice A1 1 c1)) (fun _ _=>trivial)) HB5.out);have HBB:=U.mk (qx (qz (g:=G) (j:=256) (v:=(.slice A1 1 c1)) hb (by have:=HT.out;have:=HG.out;show W0.heap.size≤G;omega)) HB5.out);clear ho hb hg eW5 ecap hsz)))
  try simp only[show wrap64 (2 - 2)=0 from rfl]
  go_roundw
  case rel=>exact⟨1,0,by first|rfl|go_num|(simp;done),⟨⟨(.slice (some ⟨w1.heap.size,0,none⟩) 2 cap),nilS,(.slice A1 1 c1),⟨qz (g:=G) (j:=34) (v:=(.slice (some ⟨w1.heap.size,0,none⟩) 2 cap)) HBB.out (by have:=HT.out;have:=HG.out;show W0.heap.size≤G;omega)⟩,⟨blk_put BK5.out 34 _ (bsr_set34 _ _ _ _)⟩,⟨Kd.R_mono (ok':=fun _=>True) (Kd.R_far (p:=⟨G,34,none⟩) (Kd.R_types HRT.out BK5.out (by decide)) (fun _ hk=>hk.2) _) (fun _ _=>trivial)⟩,⟨Rw2.set (⟨w1.heap.size,cap,rfl,HQ.out,HC0.out,HC1.out⟩ : Rw2 W5 G (.slice (some ⟨w1.heap.size,0,none⟩) 2 cap) 92 34) 34 _⟩,⟨rfl⟩⟩⟩,⟨.inr (.inl ⟨rfl,rfl⟩)⟩⟩
  case measure=>first|decide|(simp[intOf];done)|(simp[intOf];omega)
 ·have r34:=H34.out;have r92:=H92.out;rw[if_neg (by decide)] at r34 r92;subst r92;have H34':=U.mk r34;clear r34;clear H34 H92;have RT2:U (Kd.R Kd.string 9 wr W0.heap.size (fun _=>True) vT [q34]):=⟨RT1.out⟩;clear RT1;have hi0:wr.cell? ⟨o,0,none⟩ = some (.string q92):=(HB1.out.cell (World.block_lt_of_cell? W0 _ HS.out.1)).trans HS.out.1;have hi1:wr.cell? ⟨o,1,none⟩ = some (.string q9292):=(HB1.out.cell (World.block_lt_of_cell? W0 _ HS.out.2.1)).trans HS.out.2.1;have hix:∀ W:World,(Instr.index 9 (.string q92) (.int .i64 0)).run Tryz.prog W=.ok (.int .u8 92) W:=fun W=>by kernel_rfl
  have heq:∀ W:World,(binOp .eql 44 (.slice none 0 0) (.slice none 0 0)).run Tryz.prog W=.ok (.bool true) W:=fun W=>by kernel_rfl
  have hc:wr.cell? ⟨G,92,none⟩ = some (.slice none 0 0):=(qq BK1.out 92).trans (bsr_at _ _ _ 92 (by decide));have hcT:wr.cell? ⟨G,256,none⟩ = some vT:=(qq BK1.out 256).trans (bsr_256 _ _ _);have hf:=I BK1.out 92;have hfT:=I BK1.out 256;have HGL:U (G < wr.heap.size):=⟨blk_lt BK1.out⟩
  have hcv:(convert 44 9 (.slice (some ⟨wr.heap.size,0,none⟩) 1 1)).run Tryz.prog (wr.alloc (.cells #[.int .u8 92] 5 (0,0)))=.ok (.string q92) (wr.alloc (.cells #[.int .u8 92] 5 (0,0))):=by
   have h:=run_convert_bytes_arg (P:=Tryz.prog) (wr.alloc (.cells #[.int .u8 92] 5 (0,0))) 44 5 Tryz.underlying44 Tryz.underlying5 wr.heap.size 0 1 1 [92] rfl (fun j hj=>?_) 9 Tryz.underlying9
   ·exact h.trans (by first|rfl|(congr 1))
   ·obtain rfl:j=0:=by simp at hj;omega
    exact(qq (blk_new _ _) 0).trans rfl
  go_wp2_with (first|((with_reducible refine gate_builtin (b:=.append) (xs:=#[.tmp 119,.tmp 123]) rfl ?_);go_loud (at_builtin;refine Kd.R_append Kd.string (w0:=W0) W0.heap.size rfl (.tmp 119) (.tmp 123) 25 9 (.string (⟨#[]⟩ : ByteArray)) 16 rfl Tryz.underlying25 info9 rfl (by decide) (by omega) vT [q34] q92 [.string q92] (fun _=>True) (fun _=>False) (by first|rfl|(go_simp;done)|(go_simp;rfl)) (by first|rfl|(go_simp;done)|(go_simp;rfl)) ?aP (fun _ hk=>hk.elim) ?aF ?aO ?aB ?aS ?aL ?_;(case aP=>exact rfl);(case aB=>exact(by solve_by_elim only[HB1.out,L,O,J]));(case aF=>exact(fun _ _=>trivial));(case aO=>exact(by solve_by_elim only[RT2.out,Kd.zj,Kd.zz,Kd.zk]));(case aS=>exact(zq (by solve_by_elim only[HB1.out,L,O,J])));(case aL=>exact(by decide));intro v1 w1 ho hb hg hat;clear hat;obtain⟨A1,c1,e1⟩ : ∃ A c,v1=.slice A 2 c:=Kd.R_slice ho;subst e1;have BKa:=U.mk (blk_grown (g:=G) (o:=.cells (bsr v34 nilS vT) 147 (0,0)) (qj BK1.out _) hg (Kd.R_ne RT2.out BK1.out (by decide)));have hcTa:w1.cell? ⟨G,256,none⟩ = some vT:=(qq BKa.out 256).trans (bsr_256 _ _ _);have hfTa:=I BKa.out 256;have BKb:=U.mk (blk_put BKa.out 256 (.slice A1 2 c1) (bsr_set256 _ _ _ (.slice A1 2 c1)));obtain⟨W5,eW5⟩ : ∃ W,W=Lib.bytesWorld (w1.setCell ⟨G,256,none⟩ (.slice A1 2 c1)) 5 q9292:=⟨_,rfl⟩;obtain⟨cap,ecap⟩ : ∃ c,c=grownCap (w1.setCell ⟨G,256,none⟩ (.slice A1 2 c1)) (q9292).size 0 5:=⟨_,rfl⟩;have hsz:(w1.setCell ⟨G,256,none⟩ (.slice A1 2 c1)).heap.size=w1.heap.size:=(by simp[World.setCell]);have hby:(convert 9 44 (.string q9292)).run Tryz.prog (w1.setCell ⟨G,256,none⟩ (.slice A1 2 c1))=.ok (.slice (some ⟨w1.heap.size,0,none⟩) 2 cap) W5:=(by rw[eW5,ecap,← hsz];exact print_bytes 9 44 5 Tryz.underlying9 Tryz.underlying44 Tryz.underlying5 q9292 _);have HB5:U (Below (w1.setCell ⟨G,256,none⟩ (.slice A1 2 c1)).heap.size (w1.setCell ⟨G,256,none⟩ (.slice A1 2 c1)) W5):=⟨by rw[eW5];exact kx (Below.refl _ _) (Nat.le_refl _) 5 q9292⟩;have BK5:=U.mk (jx BKb.out HB5.out);have hc5:W5.cell? ⟨G,92,none⟩ = some (.slice none 0 0):=(qq BK5.out 92).trans (bsr_at _ _ _ 92 (by decide));have hf5:=I BK5.out 92;have HQ:U (w1.heap.size≠G):=⟨fun e=>by have:=blk_lt BKa.out;omega⟩;have HC0:U (W5.cell? ⟨w1.heap.size,0,none⟩ = some (.int .u8 92)):=⟨by rw[eW5,← hsz];exact Lib.bytesWorld_cell _ _ _ 0 (by decide)⟩;have HC1:U (W5.cell? ⟨w1.heap.size,1,none⟩ = some (.int .u8 92)):=⟨by rw[eW5,← hsz];exact Lib.bytesWorld_cell _ _ _ 1 (by decide)⟩;have HRT:=U.mk (Kd.R_below (Kd.R_mono (ok':=fun _=>True) (Kd.R_far (p:=⟨G,256,none⟩) (Kd.R_types ho BKa.out (by decide)) (fun _ hk=>hk.2) (.slice A1 2 c1)) (fun _ _=>trivial)) HB5.out);have HBB:=U.mk (qx (qz (g:=G) (j:=256) (v:=(.slice A1 2 c1)) hb (by have:=HT.out;have:=HG.out;show W0.heap.size≤G;omega)) HB5.out);have H345:=U.mk ((((H34'.out.below (L (Below.refl _ _) _)).grown hg (fun q hq=>row_neQ (Kd.zj RT2.out _) hq)).set 256 (.slice A1 2 c1)).below HB5.out);clear ho hb hg eW5 ecap hsz)))
  try simp only[show wrap64 (0 - 2) = -2 from rfl]
  go_roundw
  case rel=>exact⟨2,-2,by first|rfl|go_num|(simp;done),⟨⟨v34,(.slice (some ⟨w1.heap.size,0,none⟩) 2 cap),(.slice A1 2 c1),⟨qz (g:=G) (j:=92) (v:=(.slice (some ⟨w1.heap.size,0,none⟩) 2 cap)) HBB.out (by have:=HT.out;have:=HG.out;show W0.heap.size≤G;omega)⟩,⟨blk_put BK5.out 92 _ (bsr_set92 _ _ _ _)⟩,⟨Kd.R_mono (ok':=fun _=>True) (Kd.R_far (p:=⟨G,92,none⟩) (Kd.R_types HRT.out BK5.out (by decide)) (fun _ hk=>hk.2) _) (fun _ _=>trivial)⟩,⟨H345.out.set 92 _⟩,⟨Rw2.set (⟨w1.heap.size,cap,rfl,HQ.out,HC0.out,HC1.out⟩ : Rw2 W5 G (.slice (some ⟨w1.heap.size,0,none⟩) 2 cap) 92 92) 92 _⟩⟩⟩,⟨.inr (.inr ⟨rfl,rfl⟩)⟩⟩
  case measure=>first|decide|(simp[intOf];done)|(simp[intOf];omega)
 ·have r34:=H34.out;have r92:=H92.out;rw[if_neg (by decide)] at r34;rw[if_pos rfl] at r92;have RT2:U (Kd.R Kd.string 9 wr W0.heap.size (fun _=>True) vT [q34,q92]):=⟨RT1.out⟩;clear H34 H92 RT1;go_wp2;go_ret
  exact⟨G,v34,v92,vT,rfl,HB1.out,by have:=HT.out;have:=HG.out;omega,BK1.out,r34,r92,RT2.out⟩
theorem sy_disable (w:World):(callFunc 133 #[]).run Tryz.prog w=.ok (.value (.tuple #[])) w:=run_call_mark0 Tryz.func133 (by kernel_rfl) (by kernel_rfl) (by kernel_rfl) .disable (by kernel_rfl) w
theorem sy_enable (w:World):(callFunc 135 #[]).run Tryz.prog w=.ok (.value (.tuple #[])) w:=run_call_mark0 Tryz.func135 (by kernel_rfl) (by kernel_rfl) (by kernel_rfl) .enable (by kernel_rfl) w
theorem sy_acquire (a:Addr) (w:World):(callFunc 136 #[.pointer (some a)]).run Tryz.prog w=.ok (.value (.tuple #[])) w:=run_call_marked Tryz.func136 (by kernel_rfl) (by kernel_rfl) (by kernel_rfl) .acquire (by kernel_rfl) a w
theorem sy_release (a:Addr) (w:World):(callFunc 138 #[.pointer (some a)]).run Tryz.prog w=.ok (.value (.tuple #[])) w:=run_call_marked Tryz.func138 (by kernel_rfl) (by kernel_rfl) (by kernel_rfl) .releaseMerge (by kernel_rfl) a w
theorem sy_store (a:Addr) (x:Value) (u:FrameMode) (w:World) (hc:w.cell? a=some x) (hz:w.frozen? a=false) :
  CallsD Tryz.prog 122 #[.pointer (some a),.bool true] u w fun e u' w'=>u'=u∧(e=.returned (.tuple #[])∧w'=w.drew.setCell a (.int .u32 1)):=by
 have hc':w.drew.cell? a=some x:=by go_simp
 have hz':w.drew.frozen? a=false:=by go_simp
 have hst:=run_call_store (P:=Tryz.prog) Tryz.func129 (by kernel_rfl) (by kernel_rfl) (by kernel_rfl) (by kernel_rfl) (k:=.u32) (y:=1) hc' hz';go_enter_d Tryz.func122,Tryz.ntmps122
 go_wp2;go_region_calls
 all_goals (go_end0;exact⟨rfl,rfl⟩)
theorem sy_unlock (a:Addr) (u:FrameMode) (w:World) (hc:w.cell? a=some (.int .i32 1)) (hz:w.frozen? a=false) :
  CallsD Tryz.prog 121 #[.pointer (some a)] u w fun e u' w'=>u'=u∧(e=.returned (.tuple #[])∧w'=w.setCell a (.int .i32 0)):=by
 have hd:=sy_disable;have he:=sy_enable;have hr:=sy_release;have hadd:=run_call_add (P:=Tryz.prog) Tryz.func139 (by kernel_rfl) (by kernel_rfl) (by kernel_rfl) .i32 (by kernel_rfl) (y:=-1) (s:=0) hc hz (by simp[go_sem];rfl);have hcv:=run_convert_to_unsafe (P:=Tryz.prog) (src:=166) (dst:=98) Tryz.underlying166 Tryz.underlying98 (by kernel_rfl) hc;go_enter_d Tryz.func121,Tryz.ntmps121
 go_wp2;go_end0
 go_wp2;go_end0
 exact⟨rfl,rfl⟩
theorem sy_lock (a:Addr) (w:World) (hc:w.cell? a=some (.int .i32 0)) (hz:w.frozen? a=false) :
  Calls Tryz.prog 120 #[.pointer (some a)] w fun e w'=>e=.returned (.tuple #[])∧w'=w.setCell a (.int .i32 1):=by
 have hd:=sy_disable;have he:=sy_enable;have ha:=sy_acquire;have hcas:=run_call_cas_hit (P:=Tryz.prog) Tryz.func134 (by kernel_rfl) (by kernel_rfl) (by kernel_rfl) .i32 (by kernel_rfl) (y:=1) hc hz;have hc':(w.setCell a (.int .i32 1)).cell? a=some (.int .i32 1):=World.cell?_setCell_same w a _ hc;have hcv:=run_convert_to_unsafe (P:=Tryz.prog) (src:=166) (dst:=98) Tryz.underlying166 Tryz.underlying98 (by kernel_rfl) hc';go_enter Tryz.func120,Tryz.ntmps120;go_wp2
 first|go_end0|(simp only[Exit.inBlock,Exit.then];refine bodyPost_ret (results_none rfl _ _ _) rfl ?_)|refine bodyPost_ret (results_none rfl _ _ _) rfl ?_
 go_wp2;go_end0
 exact⟨rfl,rfl⟩
theorem sy_load0 (a:Addr) (w:World) (hc:w.cell? a=some (.int .u32 0)) :
  Calls Tryz.prog 111 #[.pointer (some a)] w fun e w'=>e=.returned (.bool false)∧w'=w:=by
 have hl:=run_call_load (P:=Tryz.prog) Tryz.func119 (by kernel_rfl) (by kernel_rfl) (by kernel_rfl) .u32 (by kernel_rfl) hc;go_enter Tryz.func111,Tryz.ntmps111;go_wp2;go_ret
 exact⟨rfl,rfl⟩
def onceEnd (b off:Nat) (w1:World):World:=(w1.drew.setCell ⟨b,off,none⟩ (.int .u32 1)).setCell ⟨b,off + 1,none⟩ (.int .i32 0)
set_option maxHeartbeats 1600000 in
theorem sy_slow (b off:Nat) (p:Addr) (w:World) (Q:World→Prop) (h0:w.cell? ⟨b,off,none⟩ = some (.int .u32 0)) (h1:w.cell? ⟨b,off + 1,none⟩ = some (.int .i32 0)) (f1:w.frozen? ⟨b,off + 1,none⟩ = false)
  (hF:Calls Tryz.prog 103 #[.pointer (some p)] (w.setCell ⟨b,off + 1,none⟩ (.int .i32 1)) fun e w'=>e=.returned (.tuple #[])∧Q w'∧w'.cell? ⟨b,off,none⟩ = some (.int .u32 0)∧w'.cell? ⟨b,off + 1,none⟩ = some (.int .i32 1)∧w'.frozen? ⟨b,off,none⟩ = false∧w'.frozen? ⟨b,off + 1,none⟩ = false) :
  Calls Tryz.prog 112 #[.pointer (some ⟨b,off,none⟩),.func (.func 103) #[.pointer (some p)] #[]] w fun e w'=>e=.returned (.tuple #[])∧∃ w1,Q w1∧w'=onceEnd b off w1:=by
 have hl0:(w.setCell ⟨b,off + 1,none⟩ (.int .i32 1)).cell? ⟨b,off,none⟩ = some (.int .u32 0):=(World.cell?_setCell_other _ ⟨b,off + 1,none⟩ ⟨b,off,none⟩ _ (by simp)).trans h0;have hnot:∀ (x:Bool) (w:World),(Op.unary .not (.bool x)).run Tryz.prog w=.ok (.bool (!x)) w:=fun _ _=>rfl
 have eg:Enters Tryz.prog 103:=enters_of Tryz.func103 (by kernel_rfl) rfl;have HF:=U.mk hF;clear hF;go_enter_defers Tryz.func112,Tryz.ntmps112
 go_wp2_with (first|(go_at_call 120;refine(sy_lock ⟨b,off + 1,none⟩ _ (by go_simp) (by go_simp)).mono ?_;rintro e w' ⟨rfl,rfl⟩)|(go_at_call 103;refine HF.out.mono ?_;rintro e w2 ⟨rfl,hQ,k0,k1,k2,k3⟩)|(go_at_call 111;refine(sy_load0 ⟨b,off,none⟩ _ hl0).mono ?_;rintro e w' ⟨rfl,rfl⟩))
 refine leaves_cons (f:=122) (args:=#[.pointer (some ⟨b,off,none⟩),.bool true]) (by simp) (by simp[go_sem]) ?_;refine(sy_store ⟨b,off,none⟩ (.int .u32 0) .returning _ k0 k2).mono ?_
 rintro e u' w'' ⟨rfl,rfl,rfl⟩
 refine leaves_cons (f:=121) (args:=#[.pointer (some ⟨b,off + 1,none⟩)]) (by simp[settle]) (by simp[go_sem]) ?_;refine(sy_unlock ⟨b,off + 1,none⟩ _ _ ?_ (by simp[k3])).mono ?_
 ·refine(World.cell?_setCell_other _ ⟨b,off,none⟩ ⟨b,off + 1,none⟩ _ (by simp)).trans ?_;rw[World.cell?_drew];exact k1
 rintro e u' w'' ⟨rfl,rfl,rfl⟩
 simp only[Leaves,settle,results,Tryz.results112];exact⟨.tuple #[],by simp,rfl,w2,hQ,rfl⟩
set_option maxHeartbeats 1600000 in
theorem sy_do (b off:Nat) (p:Addr) (w:World) (Q:World→Prop) (h0:w.cell? ⟨b,off,none⟩ = some (.int .u32 0)) (h1:w.cell? ⟨b,off + 1,none⟩ = some (.int .i32 0)) (f1:w.frozen? ⟨b,off + 1,none⟩ = false)
  (hF:Calls Tryz.prog 103 #[.pointer (some p)] (w.setCell ⟨b,off + 1,none⟩ (.int .i32 1)) fun e w'=>e=.returned (.tuple #[])∧Q w'∧w'.cell? ⟨b,off,none⟩ = some (.int .u32 0)∧w'.cell? ⟨b,off + 1,none⟩ = some (.int .i32 1)∧w'.frozen? ⟨b,off,none⟩ = false∧w'.frozen? ⟨b,off + 1,none⟩ = false) :
  Calls Tryz.prog 102 #[.pointer (some ⟨b,off,none⟩),.func (.func 103) #[.pointer (some p)] #[]] w fun e w'=>e=.returned (.tuple #[])∧∃ w1,Q w1∧w'=onceEnd b off w1:=by
 have HS:=U.mk (sy_slow b off p w Q h0 h1 f1 hF);have hnot:∀ (x:Bool) (w:World),(Op.unary .not (.bool x)).run Tryz.prog w=.ok (.bool (!x)) w:=fun _ _=>rfl
 clear hF;go_enter Tryz.func102,Tryz.ntmps102;go_wp2_with (first|(go_at_call 112;refine HS.out.mono ?_;rintro e w1 ⟨rfl,w2,hQ,rfl⟩)|(go_at_call 111;refine(sy_load0 ⟨b,off,none⟩ _ h0).mono ?_;rintro e w' ⟨rfl,rfl⟩))
 go_end0
 exact⟨rfl,_,hQ,rfl⟩
def RepOk (W:World) (G:Nat):Prop:=∃ v34 v92 vT:Value,W.heap[G]? = some (.cells (bsr v34 v92 vT) 147 (0,0))∧Rw2 W G v34 92 34∧Rw2 W G v92 92 92∧∃ t c,vT=.slice (some ⟨t,0,none⟩) 2 c∧W.cell? ⟨t,0,none⟩ = some (.string q34)∧W.cell? ⟨t,1,none⟩ = some (.string q92)
theorem RepOk.below {W W':World} {G:Nat} (h:RepOk W G) (hb:Below W.heap.size W W'):RepOk W' G:=by
 obtain⟨v34,v92,vT,h1,h2,h3,t,c,e,h4,h5⟩:=h;exact⟨v34,v92,vT,jx h1 hb,h2.below hb,h3.below hb,t,c,e,(hb.cell (World.block_lt_of_cell? W _ h4)).trans h4,(hb.cell (World.block_lt_of_cell? W _ h5)).trans h5⟩
theorem Rw2.other {W:World} {G g0 j:Nat} {v u:Value} {a b:Int} (h:Rw2 W G v a b) (h0:∃ n,W.cell? ⟨g0,0,none⟩ = some (.int .u32 n)):Rw2 (W.setCell ⟨g0,j,none⟩ u) G v a b:=by
 obtain⟨q,c,e,h1,h2,h3⟩:=h;obtain⟨n,h0⟩:=h0;have hne:g0≠q:=by rintro rfl;rw[h2] at h0;cases h0
 exact⟨q,c,e,h1,(World.cell?_setCell_other _ ⟨g0,j,none⟩ ⟨q,0,none⟩ _ (fun h=>hne (congrArg Addr.block h))).trans h2,(World.cell?_setCell_other _ ⟨g0,j,none⟩ ⟨q,1,none⟩ _ (fun h=>hne (congrArg Addr.block h))).trans h3⟩
theorem RepOk.other {W:World} {G g0 j:Nat} {u:Value} {cs:Array Value} (h:RepOk W G) (hg:W.heap[g0]? = some (.cells cs 120 (0,0))) (h0:∃ n,cs[0]? = some (.int .u32 n)):RepOk (W.setCell ⟨g0,j,none⟩ u) G:=by
 obtain⟨n,h0⟩:=h0;have hc:W.cell? ⟨g0,0,none⟩ = some (.int .u32 n):=(qq hg 0).trans h0;obtain⟨v34,v92,vT,h1,h2,h3,t,c,e,h4,h5⟩:=h;have hne:g0≠t:=by rintro rfl;rw[h4] at hc;cases hc
 have hG:G≠g0:=blk_ne h1 hg (by decide);exact⟨v34,v92,vT,(Below.heap_setCell W ⟨g0,j,none⟩ u G hG).trans h1,h2.other ⟨n,hc⟩,h3.other ⟨n,hc⟩,t,c,e,(World.cell?_setCell_other _ ⟨g0,j,none⟩ ⟨t,0,none⟩ _ (fun h=>hne (congrArg Addr.block h))).trans h4,(World.cell?_setCell_other _ ⟨g0,j,none⟩ ⟨t,1,none⟩ _ (fun h=>hne (congrArg Addr.block h))).trans h5⟩
def rplC (d m:Int) (r on:Value):Array Value:=#[.int .u32 d,.int .i32 m,.int .u32 0,r,on]
set_option maxHeartbeats 4000000 in
theorem buildOnce_calls (b0 g0 o c:Nat) (w:World) (hb0:b0≤g0) (hg:w.heap[g0]? = some (.cells (rplC 0 1 .nilIface (.slice (some ⟨o,0,none⟩) 4 c)) 120 (0,0))) (hs0:w.cell? ⟨o,0,none⟩ = some (.string q92)) (hs1:w.cell? ⟨o,1,none⟩ = some (.string q9292)) (hs2:w.cell? ⟨o,2,none⟩ = some (.string q34)) (hs3:w.cell? ⟨o,3,none⟩ = some (.string q9234)) :
  Calls Tryz.prog 103 #[.pointer (some ⟨g0,0,none⟩)] w fun e w'=>e=.returned (.tuple #[])∧∃ G:Nat,w'.heap[g0]? = some (.cells (rplC 0 1 (.iface 148 (.pointer (some ⟨G,0,none⟩))) (.slice none 0 0)) 120 (0,0))∧RepOk w' G∧Below b0 w w':=by
 have HC:=U.mk (build_calls g0 o c w ((qq hg 4).trans rfl) hs0 hs1 hs2 hs3);have HG:=U.mk hg;have HL:=U.mk hb0;clear hg hs0 hs1 hs2 hs3;go_enter Tryz.func103,Tryz.ntmps103;go_wp2_with (first|(go_at_call 113;refine HC.out.mono ?_;rintro e w1 ⟨G,v34,v92,vT,rfl,hb,hG,hbk,r34,r92,rT⟩;have BK1:=U.mk (jx HG.out hb);have RO:U (RepOk w1 G):=⟨⟨v34,v92,vT,hbk,r34,r92,by obtain⟨A,cc,rfl⟩:=Kd.R_slice rT;obtain⟨ad,e1,hx⟩:=Kd.at_string (Kd.R_reads' rT).2.2 0 (by decide) (by decide);subst e1;obtain⟨t,rfl⟩:=Kd.R_head rT;obtain⟨ad2,e2,hx2⟩:=Kd.at_string (Kd.R_reads' rT).2.2 1 (by decide) (by decide);cases e2;exact⟨t,cc,rfl,hx,hx2⟩⟩⟩;have HB1:U (Below b0 w w1):=⟨hb.mono (by have:=blk_lt HG.out;have:=HL.out;omega)⟩;clear hb hG hbk r34 r92 rT;have hc3:w1.cell? ⟨g0,3,none⟩ = some .nilIface:=(qq BK1.out 3).trans rfl;have hf3:=I BK1.out 3;have hc4:w1.cell? ⟨g0,4,none⟩ = some (.slice (some ⟨o,0,none⟩) 4 c):=(qq BK1.out 4).trans rfl;have hf4:=I BK1.out 4))
 first|go_end0|go_ret
 have BK3:=blk_put (cs':=rplC 0 1 (.iface 148 (.pointer (some ⟨G,0,none⟩))) (.slice (some ⟨o,0,none⟩) 4 c)) BK1.out 3 (.iface 148 (.pointer (some ⟨G,0,none⟩))) rfl;have RO3:=RO.out.other (j:=3) (u:=(.iface 148 (.pointer (some ⟨G,0,none⟩)))) BK1.out ⟨0,rfl⟩;have BK4:=blk_put (cs':=rplC 0 1 (.iface 148 (.pointer (some ⟨G,0,none⟩))) (.slice none 0 0)) BK3 4 (.slice none 0 0) rfl;have RO4:=RO3.other (j:=4) (u:=.slice none 0 0) BK3 ⟨0,rfl⟩;exact⟨rfl,G,BK4,RO4,(HB1.out.setCell (p:=⟨g0,3,none⟩) HL.out _).setCell (p:=⟨g0,4,none⟩) HL.out _⟩
set_option maxHeartbeats 4000000 in
theorem newReplacer_calls (A0:Option Addr) (c0:Nat) (w:World) (hC:Kd.C Kd.string w A0 4 [q92,q9292,q34,q9234]) :
  Calls Tryz.prog 91 #[.slice A0 4 c0] w fun e w'=>∃ g0 o c:Nat,e=.returned (.pointer (some ⟨g0,0,none⟩))∧Below w.heap.size w w'∧w.heap.size≤g0∧w'.heap[g0]? = some (.cells (rplC 0 0 .nilIface (.slice (some ⟨o,0,none⟩) 4 c)) 120 (0,0))∧w'.cell? ⟨o,0,none⟩ = some (.string q92)∧w'.cell? ⟨o,1,none⟩ = some (.string q9292)∧w'.cell? ⟨o,2,none⟩ = some (.string q34)∧w'.cell? ⟨o,3,none⟩ = some (.string q9234):=by
 have HC:=U.mk hC;have e5:Int.tmod 4 2=0:=rfl;go_enter Tryz.func91,Tryz.ntmps91;go_wp2_with (first|((with_reducible refine gate_builtin (b:=.append) (xs:=#[.const (.slice none 0 0),.tmp 8]) rfl ?_);go_loud (at_builtin;refine Kd.R_append_row Value.string (⟨#[]⟩ : ByteArray) (h1:=fun _=>rfl) (w0:=w) w.heap.size rfl (.const (.slice none 0 0)) (.tmp 8) 25 9 (.string (⟨#[]⟩ : ByteArray)) 16 rfl Tryz.underlying25 info9 rfl (by decide) (.slice none 0 0) [] [q92,q9292,q34,q9234] A0 4 c0 (fun _=>True) rfl rfl (fun _ _=>trivial) (Kd.R_nil _ _ _ _ _) HC.out (Below.refl _ _) (Nat.le_refl _) (by decide) ?_;intro v1 w1 ho hb hg hat;clear hg hat;obtain⟨A1,c1,e1⟩ : ∃ A c,v1=.slice A 4 c:=Kd.R_slice ho;subst e1;have HO:=U.mk ho;have HB:=U.mk hb;clear ho hb)))
 go_ret
 have hR:Kd.R Kd.string 9 w1 w.heap.size (fun _=>True) (.slice A1 4 c1) [q92,q9292,q34,q9234]:=HO.out;obtain⟨ad,e1,hx0⟩:=Kd.at_string (Kd.R_reads' hR).2.2 0 (by decide) (by decide);subst e1;obtain⟨o,rfl⟩:=Kd.R_head hR;obtain⟨ad,e1,hx1⟩:=Kd.at_string (Kd.R_reads' hR).2.2 1 (by decide) (by decide)
 cases e1
 obtain⟨ad,e1,hx2⟩:=Kd.at_string (Kd.R_reads' hR).2.2 2 (by decide) (by decide)
 cases e1
 obtain⟨ad,e1,hx3⟩:=Kd.at_string (Kd.R_reads' hR).2.2 3 (by decide) (by decide)
 cases e1
 have hal:=fun (o:Obj)=>L (Below.refl w1.heap.size w1) o
 exact⟨w1.heap.size,o,c1,rfl,L HB.out _,HB.out.size,blk_new _ _,((hal _).cell (World.block_lt_of_cell? w1 _ hx0)).trans hx0,((hal _).cell (World.block_lt_of_cell? w1 _ hx1)).trans hx1,((hal _).cell (World.block_lt_of_cell? w1 _ hx2)).trans hx2,((hal _).cell (World.block_lt_of_cell? w1 _ hx3)).trans hx3⟩
open Go.RowKit Go.Proofs.YtkcdefnpbnbaeaaGreatDoorW.PrintWords
def escU (b:UInt8):List UInt8:=if b=34∨b=92 then[92,b] else[b]
def escQ (s:ByteArray):List UInt8:=s.data.toList.flatMap escU
def escB (s:ByteArray):ByteArray:=⟨(escQ s).toArray⟩
def ofs (s:ByteArray) (i:Nat):Nat:=((s.data.toList.take i).flatMap escU).length
theorem escU_len (b:UInt8):(escU b).length=1∨(escU b).length=2:=by unfold escU;split <;> simp
theorem escL_ge:∀ l:List UInt8,l.length≤(l.flatMap escU).length
 | []=>Nat.le_refl _
 | b :: l=>by
  have:=escL_ge l;have:=escU_len b;rw[List.flatMap_cons,List.length_append,List.length_cons]
  omega
theorem escL_eq:∀ l:List UInt8,(l.flatMap escU).length=l.length→l.flatMap escU=l
 | [],_=>rfl
 | b :: l,h=>by
  have h1:=escL_ge l;have h2:=escU_len b;rw[List.flatMap_cons,List.length_append,List.length_cons] at h
  by_cases hb:b=34∨b=92
  ·have h3:(escU b).length=2:=by unfold escU;rw[if_pos hb];rfl
   omega
  ·have h3:escU b=[b]:=by unfold escU;rw[if_neg hb]
   rw[h3,List.length_singleton] at h;rw[List.flatMap_cons,escL_eq l (by omega),h3]
   rfl
theorem ofs_zero (s:ByteArray):ofs s 0=0:=by simp[ofs]
theorem ofs_step (s:ByteArray) (i:Nat) (h:i < s.data.toList.length):ofs s (i + 1)=ofs s i + (escU s.data.toList[i]).length:=by
 unfold ofs;rw[List.take_succ_eq_append_getElem h,List.flatMap_append,List.length_append];simp
theorem ofs_end (s:ByteArray):ofs s s.size=(escQ s).length:=by
 unfold ofs escQ;rw[List.take_of_length_le (by rw[data_length];exact Nat.le_refl _)]
theorem ofs_ge (s:ByteArray) (i:Nat) (h:i≤s.size):i≤ofs s i:=by
 have:=escL_ge (s.data.toList.take i);rw[jq4,data_length] at this;unfold ofs
 omega
theorem ofs_le (s:ByteArray) (i:Nat) (h:i≤s.size):ofs s i≤2 * i:=by
 induction i with
 | zero=>rw[ofs_zero];exact Nat.le_refl _
 | succ i ih =>
  rw[ofs_step s i (by rw[data_length];omega)];have:=ih (by omega);have:=escU_len (s.data.toList[i]'(by rw[data_length];omega))
  omega
theorem ofs_mono (s:ByteArray) (i d:Nat) (h:i + d≤s.size):ofs s i + d≤ofs s (i + d):=by
 induction d with
 | zero=>exact Nat.le_refl _
 | succ d ih =>
  have:=ih (by omega);rw[show i + (d + 1)=(i + d) + 1 from rfl,ofs_step s (i + d) (by rw[data_length];omega)];have:=escU_len (s.data.toList[i + d]'(by rw[data_length];omega))
  omega
theorem escQ_split (s:ByteArray) (i:Nat) (h:i < s.data.toList.length):escQ s=(s.data.toList.take i).flatMap escU ++ (escU s.data.toList[i] ++ (s.data.toList.drop (i + 1)).flatMap escU):=by
 unfold escQ
 conv=>lhs;rw[← List.take_append_drop i s.data.toList,List.drop_eq_getElem_cons h]
 rw[List.flatMap_append,List.flatMap_cons]
theorem escQ_at (s:ByteArray) (i d:Nat) (h:i < s.data.toList.length) (hd:d < (escU s.data.toList[i]).length):(escQ s)[ofs s i + d]? = (escU s.data.toList[i])[d]?:=by
 rw[escQ_split s i h,List.getElem?_append_right (by unfold ofs;omega)];rw[show ofs s i + d - ((s.data.toList.take i).flatMap escU).length=d by unfold ofs;omega,List.getElem?_append_left hd]
theorem countB_cons (b c:UInt8) (l:List UInt8):Lib.countByte (b :: l) c=(if b=c then 1 else 0) + Lib.countByte l c:=by
 unfold Lib.countByte;rw[List.count_cons]
 by_cases h:b=c
 ·subst h;simp;omega
 ·simp[h]
theorem escL_count:∀ l:List UInt8,(l.flatMap escU).length=l.length + Lib.countByte l 34 + Lib.countByte l 92
 | []=>rfl
 | b :: l=>by
  rw[List.flatMap_cons,List.length_append,escL_count l,List.length_cons,countB_cons,countB_cons];unfold escU
  by_cases h1:b=34
  ·subst h1;simp;omega
  by_cases h2:b=92
  ·subst h2;simp;omega
  rw[if_neg (by rintro (h|h) <;> contradiction),if_neg h1,if_neg h2];simp only[List.length_cons,List.length_nil];omega
set_option maxHeartbeats 1000000 in
theorem count_calls (s:ByteArray) (c:UInt8) (w:World) :
  Calls Tryz.prog 178 #[.string s,.string ⟨#[c]⟩] w fun e w'=>e=.returned (.int .i64 (Lib.countByte s.data.toList c))∧w'=w:=by
 go_enter Tryz.func178,Tryz.ntmps178;go_wp2;rw[run_callFunc_extern Tryz.func180 (by kernel_rfl) (by kernel_rfl) (by kernel_rfl) (e:=Extern.BytealgCount.count) (by kernel_rfl),Lib.run_countString];simp only[Result.andThen];rw[Oper.upon_value];go_wp2;go_ret
 exact⟨rfl,rfl⟩
theorem rep_cell {W:World} {G:Nat} {v34 v92 vT:Value} (h:W.heap[G]? = some (.cells (bsr v34 v92 vT) 147 (0,0))) (i:Nat) (hi:i < 256):W.cell? ⟨G,i,none⟩ = some (if i=34 then v34 else if i=92 then v92 else nilS):=(qq h i).trans (bsr_at _ _ _ i hi)
def bufV (s:ByteArray) (i p:Nat):Value:=.int .u8 (if p < ofs s i then(((escQ s).getD p 0).toNat:Int) else 0)
def bufA (s:ByteArray) (i:Nat):Array Value:=((List.range (ofs s s.size)).map (bufV s i)).toArray
theorem bufA_size (s:ByteArray) (i:Nat):(bufA s i).size=ofs s s.size:=by simp[bufA]
theorem bufA_at (s:ByteArray) (i p:Nat):(bufA s i)[p]? = if p < ofs s s.size then some (bufV s i p) else none:=by
 unfold bufA;rw[List.getElem?_toArray,List.getElem?_map]
 by_cases h:p < ofs s s.size
 ·rw[List.getElem?_range h,if_pos h];rfl
 ·rw[List.getElem?_eq_none (by rw[List.length_range];omega),if_neg h];rfl
theorem bufA_made (s:ByteArray):madeCells #[.int .u8 0] (ofs s s.size)=bufA s 0:=by
 apply Array.ext_getElem?
 intro p
 rw[bufA_at]
 by_cases h:p < ofs s s.size
 ·rw[if_pos h,Array.getElem?_eq_getElem (by rw[size_madeCells];exact h)];simp[madeCells,bufV,ofs_zero,Nat.mod_one]
 ·rw[if_neg h,Array.getElem?_eq_none (by rw[size_madeCells];omega)]
theorem bufA_put1 (s:ByteArray) (i:Nat) (x:Int) (h1:ofs s (i + 1)=ofs s i + 1) (hx:(((escQ s).getD (ofs s i) 0).toNat:Int)=x):(bufA s i).setIfInBounds (ofs s i) (.int .u8 x)=bufA s (i + 1):=by
 apply Array.ext_getElem?
 intro p
 rw[Array.getElem?_setIfInBounds,bufA_at,bufA_at,bufA_size]
 by_cases hp:ofs s i=p
 ·subst hp;rw[if_pos rfl]
  by_cases h:ofs s i < ofs s s.size
  ·rw[if_pos h,if_pos h];unfold bufV;rw[if_pos (by omega),hx]
  ·rw[if_neg h,if_neg h]
 ·rw[if_neg hp]
  by_cases h:p < ofs s s.size
  ·rw[if_pos h,if_pos h];unfold bufV
   by_cases h2:p < ofs s i
   ·rw[if_pos h2,if_pos (by omega)]
   ·rw[if_neg h2,if_neg (by omega)]
  ·rw[if_neg h,if_neg h]
theorem bufA_put2 (s:ByteArray) (i:Nat) (x y:Int) (h1:ofs s (i + 1)=ofs s i + 2) (hx:(((escQ s).getD (ofs s i) 0).toNat:Int)=x) (hy:(((escQ s).getD (ofs s i + 1) 0).toNat:Int)=y):((bufA s i).setIfInBounds (ofs s i) (.int .u8 x)).setIfInBounds (ofs s i + 1) (.int .u8 y)=bufA s (i + 1):=by
 apply Array.ext_getElem?
 intro p
 rw[Array.getElem?_setIfInBounds,Array.getElem?_setIfInBounds,Array.size_setIfInBounds,bufA_at,bufA_at,bufA_size]
 by_cases hp:ofs s i + 1=p
 ·subst hp;rw[if_pos rfl]
  by_cases h:ofs s i + 1 < ofs s s.size
  ·rw[if_pos h,if_pos h];unfold bufV;rw[if_pos (by omega),hy]
  ·rw[if_neg h,if_neg h]
 rw[if_neg hp]
 by_cases hp:ofs s i=p
 ·subst hp;rw[if_pos rfl]
  by_cases h:ofs s i < ofs s s.size
  ·rw[if_pos h,if_pos h];unfold bufV;rw[if_pos (by omega),hx]
  ·rw[if_neg h,if_neg h]
 ·rw[if_neg hp]
  by_cases h:p < ofs s s.size
  ·rw[if_pos h,if_pos h];unfold bufV
   by_cases h2:p < ofs s i
   ·rw[if_pos h2,if_pos (by omega)]
   ·rw[if_neg h2,if_neg (by omega)]
  ·rw[if_neg h,if_neg h]
theorem escQ_getD (s:ByteArray) (i d:Nat) (h:i < s.data.toList.length) (hd:d < (escU s.data.toList[i]).length):(escQ s).getD (ofs s i + d) 0=(escU s.data.toList[i])[d]:=by
 rw[List.getD_eq_getElem?_getD,escQ_at s i d h hd,List.getElem?_eq_getElem hd]
 rfl
theorem buf_str (s:ByteArray):strOfNums ((List.range (ofs s s.size)).map fun p=>(((escQ s).getD p 0).toNat:Int))=escB s:=by
 unfold strOfNums escB
 congr 2
 apply List.ext_getElem
 ·simp[ofs_end]
 ·intro i h1 h2
  simp only[List.length_map,List.length_range] at h1;have hl:i < (escQ s).length:=by rw[← ofs_end];exact h1
  simp only[List.getElem_map,List.getElem_range];rw[Int.toNat_natCast,UInt8.ofNat_toNat,List.getD_eq_getElem?_getD,List.getElem?_eq_getElem hl]
  rfl
theorem bsrReplace_calls (G:Nat) (s:ByteArray) (w:World) (hR:RepOk w G) (hs:s.size≤1000000) :
  Calls Tryz.prog 176 #[.pointer (some ⟨G,0,none⟩),.string s] w fun e w'=>e=.returned (.string (escB s))∧Below w.heap.size w w':=by
 have HR:=U.mk hR;have HS:=U.mk hs;obtain⟨v34,v92,vT,hG,⟨qa,ca,ea,_,_,_⟩,⟨qb,cb,eb,_,_,_⟩,t,c,et,ht0,ht1⟩:=hR;have HQA:=U.mk (And.intro ‹qa≠G› (And.intro ‹w.cell? ⟨qa,0,none⟩ = some (.int .u8 92)› ‹w.cell? ⟨qa,1,none⟩ = some (.int .u8 34)›));have HQB:=U.mk (And.intro ‹w.cell? ⟨qb,0,none⟩ = some (.int .u8 92)› ‹w.cell? ⟨qb,1,none⟩ = some (.int .u8 92)›);subst ea eb et;have HG:=U.mk hG;have HT0:=U.mk ht0;have HT1:=U.mk ht1;have hcT:w.cell? ⟨G,256,none⟩ = some (.slice (some ⟨t,0,none⟩) 2 c):=(qq hG 256).trans (bsr_256 _ _ _);have HCT:=U.mk hcT;have HB0:U (Below w.heap.size w w):=⟨Below.refl _ _⟩;clear hG ht0 ht1 hs;go_enter Tryz.func176,Tryz.ntmps176;go_upto_region 2 with (fail)
 iterate 8 (first|go_values|go_skip|go_guarded|go_step|go_upon)
 go_cut [5,6] (fun v5 v6 wc=>v5=.int .i64 (ofs s s.size:Int)∧v6=.bool (decide (s.size < ofs s s.size))∧U (Below w.heap.size w wc))
 case first =>
  by_cases hbig : 16≤s.size
  ·have d1:decide (16≤(s.size:Int))=true:=decide_eq_true (by omega);have d2:decide (16≤s.size)=true:=decide_eq_true hbig;go_wp2;have hcount:=escL_count s.data.toList;have hofs:ofs s s.size=s.size + Lib.countByte s.data.toList 34 + Lib.countByte s.data.toList 92:=by rw[ofs_end];unfold escQ;rw[hcount,data_length]
   have hle1:Lib.countByte s.data.toList 34≤s.size:=by have:=List.count_le_length (a:=(34:UInt8)) (l:=s.data.toList);rw[data_length] at this;exact this
   have hle2:Lib.countByte s.data.toList 92≤s.size:=by have:=List.count_le_length (a:=(92:UInt8)) (l:=s.data.toList);rw[data_length] at this;exact this
   obtain⟨c34,e34⟩ : ∃ x,x=Lib.countByte s.data.toList 34:=⟨_,rfl⟩;obtain⟨c92,e92⟩ : ∃ x,x=Lib.countByte s.data.toList 92:=⟨_,rfl⟩;rw[← e34,← e92] at hofs;rw[← e34] at hle1;rw[← e92] at hle2;have HO:=U.mk hofs;have HL:=U.mk (And.intro hle1 hle2);have C34:=U.mk (fun W=>count_calls s 34 W);have C92:=U.mk (fun W=>count_calls s 92 W);rw[← e34] at C34;rw[← e92] at C92;clear hcount hofs hle1 hle2 e34 e92 d1 d2
   go_loopw [5,6,32] (fun v5 v6 v32 W=>∃ (m:Int) (b:Bool) (k:Int),v5=.int .i64 m∧v6=.bool b∧v32=.int .i64 k∧U (Below w.heap.size w W)∧U ((k=0∧m=s.size∧b=false)∨(k=1∧m=s.size + c34∧b=decide (0 < c34))∨(k=2∧m=s.size + c34 + c92∧b=decide (0 < c34 + c92)))) (fun _ _ v32 _=>2 - (intOf v32).toNat)
   case atStart=>exact⟨_,_,_,rfl,rfl,rfl,HB0,⟨.inl ⟨rfl,rfl,rfl⟩⟩⟩
   case round =>
   obtain⟨m,b,k,rfl,rfl,rfl,HB,HK⟩:=hrel;clear HB0;have hc0:wr.cell? ⟨t,0,none⟩ = some (.string q34):=(HB.out.cell (World.block_lt_of_cell? w _ HT0.out)).trans HT0.out;have hc1:wr.cell? ⟨t,1,none⟩ = some (.string q92):=(HB.out.cell (World.block_lt_of_cell? w _ HT1.out)).trans HT1.out;have BG:=U.mk (jx HG.out HB.out);have hk:=HK.out;clear HK
   rcases hk with ⟨rfl,rfl,rfl⟩|⟨rfl,rfl,rfl⟩|⟨rfl,rfl,rfl⟩
   ·skip
    have hix:∀ W:World,(Instr.index 9 (.string q34) (.int .i64 0)).run Tryz.prog W=.ok (.int .u8 34) W:=fun W=>by kernel_rfl
    have hcx:wr.cell? ⟨G,34,none⟩ = some (.slice (some ⟨qa,0,none⟩) 2 ca):=(rep_cell BG.out 34 (by decide)).trans rfl
    by_cases hz:c34=0
    ·have e0:(((c34:Nat):Int) == 0)=true:=beq_iff_eq.2 (by omega);have e1:(((c34:Nat):Int) != 0)=false:=by rw[hz];rfl
     have e2:((c34:Nat):Int)=0:=by omega
     go_wp2_with (first|(go_at_call 178;refine(C34.out _).mono ?_;rintro e w' ⟨rfl,rfl⟩))
     go_roundw
     case rel=>exact⟨_,_,_,rfl,rfl,by first|rfl|go_num,HB,⟨.inr (.inl ⟨by decide,by omega,by rw[hz];rfl⟩)⟩⟩
     case measure=>decide
    ·have e0:(((c34:Nat):Int) == 0)=false:=beq_eq_false_iff_ne.2 (by omega);have e1:(((c34:Nat):Int) != 0)=true:=bne_iff_ne.2 (by omega);have e2:¬ ((c34:Nat):Int)=0:=by omega
     have HLw:=HL.out;have HSw:=HS.out;have w0:wrap64 (2 - 1)=1:=by unfold wrap64;omega
     have w1:wrap64 (((c34:Nat):Int) * 1)=((c34:Nat):Int):=by unfold wrap64;omega
     have w1':wrap64 ((c34:Nat):Int)=((c34:Nat):Int):=by unfold wrap64;omega
     have w2:wrap64 ((s.size:Int) + ((c34:Nat):Int))=(s.size:Int) + ((c34:Nat):Int):=by unfold wrap64;omega
     clear HLw HSw;go_wp2_with (first|(go_at_call 178;refine(C34.out _).mono ?_;rintro e w' ⟨rfl,rfl⟩))
     go_quiet (fail)
     try go_wp2
     try simp only[w0,w1,w1',w2]
     go_roundw
     case rel=>exact⟨_,_,_,rfl,rfl,by first|rfl|go_num,⟨O HB.out _⟩,⟨.inr (.inl ⟨by decide,by omega,by rw[decide_eq_true (by omega)]⟩)⟩⟩
     case measure=>decide
   ·skip
    have hix:∀ W:World,(Instr.index 9 (.string q92) (.int .i64 0)).run Tryz.prog W=.ok (.int .u8 92) W:=fun W=>by kernel_rfl
    have hcx:wr.cell? ⟨G,92,none⟩ = some (.slice (some ⟨qb,0,none⟩) 2 cb):=(rep_cell BG.out 92 (by decide)).trans rfl
    by_cases hz:c92=0
    ·have e0:(((c92:Nat):Int) == 0)=true:=beq_iff_eq.2 (by omega);have e1:(((c92:Nat):Int) != 0)=false:=by rw[hz];rfl
     have e2:((c92:Nat):Int)=0:=by omega
     go_wp2_with (first|(go_at_call 178;refine(C92.out _).mono ?_;rintro e w' ⟨rfl,rfl⟩))
     go_roundw
     case rel=>exact⟨_,_,_,rfl,rfl,by first|rfl|go_num,HB,⟨.inr (.inr ⟨by decide,by omega,by rw[hz,Nat.add_zero]⟩)⟩⟩
     case measure=>decide
    ·have e0:(((c92:Nat):Int) == 0)=false:=beq_eq_false_iff_ne.2 (by omega);have e1:(((c92:Nat):Int) != 0)=true:=bne_iff_ne.2 (by omega);have e2:¬ ((c92:Nat):Int)=0:=by omega
     have HLw:=HL.out;have HSw:=HS.out;have w0:wrap64 (2 - 1)=1:=by unfold wrap64;omega
     have w1:wrap64 (((c92:Nat):Int) * 1)=((c92:Nat):Int):=by unfold wrap64;omega
     have w1':wrap64 ((c92:Nat):Int)=((c92:Nat):Int):=by unfold wrap64;omega
     have w2:wrap64 (((s.size:Int) + (c34:Int)) + ((c92:Nat):Int))=((s.size:Int) + (c34:Int)) + ((c92:Nat):Int):=by unfold wrap64;omega
     clear HLw HSw;go_wp2_with (first|(go_at_call 178;refine(C92.out _).mono ?_;rintro e w' ⟨rfl,rfl⟩))
     go_quiet (fail)
     try go_wp2
     try simp only[w0,w1,w1',w2]
     go_roundw
     case rel=>exact⟨_,_,_,rfl,rfl,by first|rfl|go_num,⟨O HB.out _⟩,⟨.inr (.inr ⟨by decide,by omega,by rw[decide_eq_true (by omega)]⟩)⟩⟩
     case measure=>decide
   ·go_wp2;go_meet
    case rel=>exact⟨by rw[HO.out];first|rfl|(congr 1;omega),by rw[HO.out];congr 1;exact decide_eq_decide.mpr (by omega),HB⟩
  ·have d1:decide (16≤(s.size:Int))=false:=decide_eq_false (by omega);have d2:decide (16≤s.size)=false:=decide_eq_false hbig;go_wp2;clear d1 d2 hbig;have hne:∀ (q c:Nat) (W:World),(binOp .neq 44 (.slice (some ⟨q,0,none⟩) 2 c) (.slice none 0 0)).run Tryz.prog W=.ok (.bool true) W:=fun q c W=>by kernel_rfl
   have hnn:∀ W:World,(binOp .neq 44 (.slice none 0 0) (.slice none 0 0)).run Tryz.prog W=.ok (.bool false) W:=fun W=>by kernel_rfl
   go_loopw [5,6,10] (fun v5 v6 v10 W=>∃ (m:Int) (b:Bool) (i:Nat),v5=.int .i64 m∧v6=.bool b∧v10=.int .i64 (i:Int)∧U (i≤s.size)∧U (Below w.heap.size w W)∧U (m + i=s.size + ofs s i∧b=decide (i < ofs s i))) (fun _ _ v10 _=>s.size - (intOf v10).toNat)
   case atStart=>exact⟨_,_,0,rfl,rfl,rfl,⟨Nat.zero_le _⟩,HB0,⟨by rw[ofs_zero],by rw[ofs_zero];rfl⟩⟩
   case round =>
   obtain⟨m,b,i,rfl,rfl,rfl,HI,HB,HM⟩:=hrel;clear HB0;have BG:=U.mk (jx HG.out HB.out)
   by_cases hlt:i < s.size
   ·skip
    have HLT:=U.mk hlt;have hl1:decide ((i:Int) < (s.size:Int))=true:=decide_eq_true (by omega);have hl2:decide (i < s.size)=true:=decide_eq_true hlt;have p1:(0≤(i:Int))=True:=eq_true (by omega);have q1:((i:Int) < (s.size:Int))=True:=eq_true (by omega);have hli:i < s.data.toList.length:=by rw[data_length];exact hlt
    have hos:=ofs_step s i hli;have heq:s[i]'hlt=s.data.toList[i]:=rfl;obtain⟨u,eu⟩ : ∃ u,u=s.data.toList[i]:=⟨_,rfl⟩;rw[← eu] at hos heq;obtain⟨x,ex⟩ : ∃ x:Nat,x=u.toNat:=⟨_,rfl⟩;have hx:(((s[i]'hlt).toNat:Nat):Int)=(x:Int):=by rw[heq,ex]
    have hx2:x < 256:=by rw[ex];exact u.toNat_lt
    have e3:wrap64 ((i:Int) + 1)=((i + 1:Nat):Int):=by have:=HS.out;unfold wrap64;omega
    have HEU:=U.mk eu;have HEX:=U.mk ex;clear heq
    by_cases h34:x=34
    ·have hu:u=34:=UInt8.toNat_inj.1 (by rw[← ex,h34];rfl);have hos2:ofs s (i + 1)=ofs s i + 2:=by rw[hos,hu];rfl
     have HOS:=U.mk hos2;have HU:=U.mk hu;rw[h34] at hx;have hcx:wr.cell? ⟨G,34,none⟩ = some (.slice (some ⟨qa,0,none⟩) 2 ca):=(rep_cell BG.out 34 (by decide)).trans rfl;clear hos hos2 hu ex eu hx2 h34;have w0:wrap64 (2 - 1)=1:=by unfold wrap64;omega
     have w1:wrap64 (m + 1)=m + 1:=by have h1:=HM.out.1;have h2:=ofs_le s i HI.out;have h3:=HS.out;have h4:=HI.out;have h5:=ofs_ge s i HI.out;unfold wrap64;omega
     go_wp2;try simp only[e3,w0,w1]
     go_roundw
     case rel=>exact⟨_,_,i + 1,rfl,rfl,rfl,⟨HLT.out⟩,HB,⟨by have:=HM.out.1;rw[HOS.out];omega,by rw[decide_eq_true (by have:=ofs_ge s i HI.out;rw[HOS.out];omega)]⟩⟩
     case measure =>
      show s.size - (((i + 1:Nat):Int)).toNat < s.size - ((i:Int)).toNat
      rw[Int.toNat_natCast,Int.toNat_natCast];exact Nat.sub_lt_sub_left HLT.out (Nat.lt_succ_self i)
    by_cases h92:x=92
    ·have hu:u=92:=UInt8.toNat_inj.1 (by rw[← ex,h92];rfl);have hos2:ofs s (i + 1)=ofs s i + 2:=by rw[hos,hu];rfl
     have HOS:=U.mk hos2;have HU:=U.mk hu;rw[h92] at hx;have hcx:wr.cell? ⟨G,92,none⟩ = some (.slice (some ⟨qb,0,none⟩) 2 cb):=(rep_cell BG.out 92 (by decide)).trans rfl;clear hos hos2 hu ex eu hx2 h92 h34;have w0:wrap64 (2 - 1)=1:=by unfold wrap64;omega
     have w1:wrap64 (m + 1)=m + 1:=by have h1:=HM.out.1;have h2:=ofs_le s i HI.out;have h3:=HS.out;have h4:=HI.out;have h5:=ofs_ge s i HI.out;unfold wrap64;omega
     go_wp2;try simp only[e3,w0,w1]
     go_roundw
     case rel=>exact⟨_,_,i + 1,rfl,rfl,rfl,⟨HLT.out⟩,HB,⟨by have:=HM.out.1;rw[HOS.out];omega,by rw[decide_eq_true (by have:=ofs_ge s i HI.out;rw[HOS.out];omega)]⟩⟩
     case measure =>
      show s.size - (((i + 1:Nat):Int)).toNat < s.size - ((i:Int)).toNat
      rw[Int.toNat_natCast,Int.toNat_natCast];exact Nat.sub_lt_sub_left HLT.out (Nat.lt_succ_self i)
    have hos2:ofs s (i + 1)=ofs s i + 1:=by
     rw[hos];unfold escU;rw[if_neg (fun h=>h.elim (fun e=>h34 (by rw[ex,e];rfl)) (fun e=>h92 (by rw[ex,e];rfl)))];rfl
    have HOS:=U.mk hos2;have HU:U (¬ (u=34∨u=92)):=⟨fun h=>h.elim (fun e=>h34 (by rw[ex,e];rfl)) (fun e=>h92 (by rw[ex,e];rfl))⟩;have hcx:wr.cell? ⟨G,x,none⟩ = some (.slice none 0 0):=by rw[rep_cell BG.out x hx2,if_neg h34,if_neg h92]
    have p2:(0≤(x:Int))=True:=eq_true (by omega);have q2:((x:Int) < 256)=True:=eq_true (by omega);clear hos hos2 ex eu hx2 h34 h92;go_wp2;try simp only[e3]
    go_roundw
    case rel=>exact⟨_,_,i + 1,rfl,rfl,rfl,⟨HLT.out⟩,HB,⟨by have:=HM.out.1;rw[HOS.out];omega,by rw[HM.out.2];exact decide_eq_decide.mpr (by rw[HOS.out];omega)⟩⟩
    case measure =>
     show s.size - (((i + 1:Nat):Int)).toNat < s.size - ((i:Int)).toNat
     rw[Int.toNat_natCast,Int.toNat_natCast];exact Nat.sub_lt_sub_left HLT.out (Nat.lt_succ_self i)
   ·obtain rfl:i=s.size:=by have:=HI.out;omega
    have hl1:decide ((s.size:Int) < (s.size:Int))=false:=decide_eq_false (by omega);have hl2:decide (s.size < s.size)=false:=decide_eq_false (by omega);go_wp2;go_meet
    case rel=>exact⟨by have:=HM.out.1;congr 1;omega,by rw[HM.out.2],HB⟩
 obtain⟨rfl,rfl,HB⟩:=hcut;clear HB0;have HN:U (ofs s s.size≤2000000):=⟨by have h1:=ofs_le s s.size (Nat.le_refl _);have h2:=HS.out;omega⟩
 by_cases hany:s.size < ofs s s.size
 case neg =>
  have d1:decide (s.size < ofs s s.size)=false:=decide_eq_false hany
  have hE:escB s=s:=by
   have h1:=ofs_ge s s.size (Nat.le_refl _);have h2:escQ s=s.data.toList:=escL_eq _ (by have h3:=ofs_end s;unfold escQ at h3;rw[← h3,data_length];omega);unfold escB;rw[h2]
  rw[d1];clear hany d1;go_wp2;go_ret
  exact⟨by rw[hE];rfl,HB.out⟩
 have d1:decide (s.size < ofs s s.size)=true:=decide_eq_true hany;rw[d1];clear d1 hany;obtain⟨i0,hi0,hz0,hsz,hby⟩:=info_parts info5;have hmk:=run_make (P:=Tryz.prog) (w:=wc) 44 5 i0 _ Tryz.underlying44 hi0 hz0 .i64 .i64 (ofs s s.size:Int) (ofs s s.size:Int) (by omega) (by omega) (by rw[hby];have:=HN.out;omega) (by have:=HN.out;omega);rw[hsz,Nat.mul_one,Int.toNat_natCast] at hmk;obtain⟨W1,eW1⟩ : ∃ W,W=wc.alloc (.cells (bufA s 0) 5 (0,0)):=⟨_,rfl⟩;obtain⟨g,eg⟩ : ∃ g,g=wc.heap.size:=⟨_,rfl⟩;have hmk2:(Instr.makeSlice 44 (.int .i64 (ofs s s.size:Int)) (.int .i64 (ofs s s.size:Int))).run Tryz.prog wc=.ok (.slice (some ⟨g,0,none⟩) (ofs s s.size) (ofs s s.size)) W1:=by rw[eW1,eg,← bufA_made];exact hmk
 have BB0:U (W1.heap[g]? = some (.cells (bufA s 0) 5 (0,0))):=⟨by rw[eW1,eg];exact blk_new _ _⟩;have HB1:U (Below w.heap.size w W1):=⟨by rw[eW1];exact L HB.out _⟩;have HGB:U (w.heap.size≤g):=⟨by rw[eg];exact HB.out.size⟩;clear hmk hi0 hz0 hsz hby eW1 eg HB;go_wp2;clear hmk2;have HZ:=U.mk (ofs_zero s);have hne:∀ (q c:Nat) (W:World),(binOp .neq 44 (.slice (some ⟨q,0,none⟩) 2 c) (.slice none 0 0)).run Tryz.prog W=.ok (.bool true) W:=fun q c W=>by kernel_rfl
 have hnn:∀ W:World,(binOp .neq 44 (.slice none 0 0) (.slice none 0 0)).run Tryz.prog W=.ok (.bool false) W:=fun W=>by kernel_rfl
 go_loopw [13,14] (fun v13 v14 W=>∃ i:Nat,v13=.int .i64 (ofs s i:Int)∧v14=.int .i64 (i:Int)∧U (i≤s.size)∧U (Below w.heap.size w W)∧U (W.heap[g]? = some (.cells (bufA s i) 5 (0,0)))) (fun _ v14 _=>s.size - (intOf v14).toNat)
 case atStart=>exact⟨0,by rw[ofs_zero];rfl,rfl,⟨Nat.zero_le _⟩,HB1,BB0⟩
 case round =>
 obtain⟨i,rfl,rfl,HI,HB,HBB⟩:=hrel;clear HB1 BB0;have BG:=U.mk (jx HG.out HB.out)
 by_cases hlt:i < s.size
 ·skip
  have HLT:=U.mk hlt;have hl1:decide ((i:Int) < (s.size:Int))=true:=decide_eq_true (by omega);have hl2:decide (i < s.size)=true:=decide_eq_true hlt;have p1:(0≤(i:Int))=True:=eq_true (by omega);have q1:((i:Int) < (s.size:Int))=True:=eq_true (by omega);have hli:i < s.data.toList.length:=by rw[data_length];exact hlt
  have hos:=ofs_step s i hli;have heq:s[i]'hlt=s.data.toList[i]:=rfl;obtain⟨u,eu⟩ : ∃ u,u=s.data.toList[i]:=⟨_,rfl⟩;rw[← eu] at hos heq;obtain⟨x,ex⟩ : ∃ x:Nat,x=u.toNat:=⟨_,rfl⟩;have hx:(((s[i]'hlt).toNat:Nat):Int)=(x:Int):=by rw[heq,ex]
  have hx2:x < 256:=by rw[ex];exact u.toNat_lt
  have e3:wrap64 ((i:Int) + 1)=((i + 1:Nat):Int):=by have:=HS.out;unfold wrap64;omega
  have HEU:=U.mk eu;have HEX:=U.mk ex;clear heq;have HM:=U.mk (show ofs s i + (escU u).length≤ofs s s.size by have h1:=ofs_mono s (i + 1) (s.size - (i + 1)) (by omega);rw[show i + 1 + (s.size - (i + 1))=s.size by omega] at h1;omega);have HD:=U.mk (fun d (hd:d < (escU s.data.toList[i]).length)=>escQ_getD s i d hli hd);rw[← eu] at HD
  by_cases h34:x=34
  ·have hu:u=34:=UInt8.toNat_inj.1 (by rw[← ex,h34];rfl);have hos2:ofs s (i + 1)=ofs s i + 2:=by rw[hos,hu];rfl
   have HOS:=U.mk hos2;have HU:=U.mk hu;rw[h34] at hx;have hcx:wr.cell? ⟨G,34,none⟩ = some (.slice (some ⟨qa,0,none⟩) 2 ca):=(rep_cell BG.out 34 (by decide)).trans rfl;clear hos hos2 hu ex eu hx2 h34;have hj1 : 0≤(ofs s i:Int):=by omega
   have hm:ofs s i + 2≤ofs s s.size:=by have h:=HM.out;rw[HU.out] at h;exact h
   have hd0:(escQ s).getD (ofs s i) 0=92:=by have h:=HD.out 0 (by rw[HU.out];decide);simp only[HU.out] at h;exact h
   have hd1:(escQ s).getD (ofs s i + 1) 0=34:=by have h:=HD.out 1 (by rw[HU.out];decide);simp only[HU.out] at h;exact h
   have HP:=U.mk (bufA_put2 s i 92 34 HOS.out (by rw[hd0];rfl) (by rw[hd1];rfl));have hr0:wr.cell? ⟨qa,0,none⟩ = some (.int .u8 92):=(HB.out.cell (World.block_lt_of_cell? w _ HQA.out.2.1)).trans HQA.out.2.1;have hr1:wr.cell? ⟨qa,1,none⟩ = some (.int .u8 34):=(HB.out.cell (World.block_lt_of_cell? w _ HQA.out.2.2)).trans HQA.out.2.2;obtain⟨iu,hiu,_,hszu,_⟩:=info_parts info5;have hcut:=cut_from (P:=Tryz.prog) 44 5 .i64 Tryz.underlying44 hiu 1 hszu (some ⟨g,0,none⟩) (ofs s s.size) (ofs s s.size) (ofs s i:Int) hj1 (by omega)
   have hsl:∀ W:World,(Instr.slice 44 (.slice (some ⟨g,0,none⟩) (ofs s s.size) (ofs s s.size)) (some (.int .i64 (ofs s i:Int))) none none).run Tryz.prog W=.ok (.slice (some ⟨g,ofs s i,none⟩) (ofs s s.size - ofs s i) (ofs s s.size - ofs s i)) W:=fun W=>by
    rw[hcut W,Int.toNat_natCast,if_neg (by omega)];simp[Addr.add]
    exact fun h=>h.symm
   have hcop:∀ W:World,W.heap=wr.heap→(Builtin.copy_ #[44,44] 3 #[.slice (some ⟨g,ofs s i,none⟩) (ofs s s.size - ofs s i) (ofs s s.size - ofs s i),.slice (some ⟨qa,0,none⟩) 2 ca]).run Tryz.prog W=.ok (.int .i64 2) ((W.setCell ⟨g,ofs s i,none⟩ (.int .u8 92)).setCell ⟨g,ofs s i + 1,none⟩ (.int .u8 34)):=fun W hW=>by
    have hcW:∀ a,W.cell? a=wr.cell? a:=fun a=>by simp only[World.cell?,hW]
    have hfW:∀ a,W.frozen? a=wr.frozen? a:=fun a=>by simp only[World.frozen?,hW]
    refine run_copy_cells (P:=Tryz.prog) W 44 44 3 5 g (ofs s i) _ _ ⟨qa,0,none⟩ 2 ca [.int .u8 92,.int .u8 34] Tryz.underlying44 (by rw[hiu];exact congrArg some hszu) (Nat.min_eq_left (show 2≤ofs s s.size - ofs s i by omega)).symm (fun j v hj=>?_) (fun j hj=>?_) (fun j hj=>?_) (fun v hv=>?_)
    ·have hj2:j=0∨j=1:=by have:=(List.getElem?_eq_some_iff.1 hj).1;simp only[List.length_cons,List.length_nil] at this;omega
     rw[hcW]
     rcases hj2 with rfl|rfl
     ·exact hr0.trans hj
     ·exact hr1.trans hj
    ·simp only[List.length_cons,List.length_nil] at hj;rw[hcW,qq HBB.out (ofs s i + j),bufA_at,if_pos (by omega)];rfl
    ·rw[hfW];exact I HBB.out _
    ·simp only[List.mem_cons,List.not_mem_nil,or_false] at hv;rcases hv with rfl|rfl <;> rfl
   have w1:wrap64 ((ofs s i:Int) + 2)=((ofs s i + 2:Nat):Int):=by have:=HN.out;unfold wrap64;omega
   have hcd:=hcop wr.drew rfl;have hcd2:∀ W:World,W=wr.drew→(Builtin.copy_ #[44,44] 3 #[.slice (some ⟨g,ofs s i,none⟩) (ofs s s.size - ofs s i) (ofs s s.size - ofs s i),.slice (some ⟨qa,0,none⟩) 2 ca]).run Tryz.prog W=.ok (.int .i64 2) ((W.setCell ⟨g,ofs s i,none⟩ (.int .u8 92)).setCell ⟨g,ofs s i + 1,none⟩ (.int .u8 34)):=fun W hW=>by rw[hW];exact hcd
   clear hcop hcd hcut hszu hm hd0 hd1 hj1 hr0 hr1 hiu;go_wp2;have hGg:G≠g:=by have h1:=HGB.out;have h2:=blk_lt HG.out;omega
   have hkp:∀ (j k:Nat) (u v:Value),((wr.setCell ⟨g,j,none⟩ u).setCell ⟨g,k,none⟩ v).drew.cell? ⟨G,34,none⟩ = wr.cell? ⟨G,34,none⟩:=fun j k u v=>by rw[World.cell?_drew,World.cell?_setCell_other _ _ _ _ (fun h=>hGg (congrArg Addr.block h).symm),World.cell?_setCell_other _ _ _ _ (fun h=>hGg (congrArg Addr.block h).symm)]
   clear hGg;go_region_held3 (fun w'=>w'.cell? ⟨G,34,none⟩ = some (.slice (some ⟨qa,0,none⟩) 2 ca)) (first|go_keep|(rw[hkp];exact hcx)) (fail)
   have w1i:IntKind.i64.wrap ((ofs s i:Int) + 2)=((ofs s i + 2:Nat):Int):=by rw[i64_w];exact w1
   simp only[w1i];clear hkp hcd2 hsl hcx hne hnn;try go_wp2
   try simp only[e3]
   go_roundw
   case rel=>exact⟨i + 1,by rw[HOS.out],rfl,⟨HLT.out⟩,⟨(qz (qz HB.out HGB.out) HGB.out).drew⟩,⟨blk_put (blk_put HBB.out _ _ rfl) _ _ HP.out⟩⟩
   case measure =>
    show s.size - (((i + 1:Nat):Int)).toNat < s.size - ((i:Int)).toNat
    rw[Int.toNat_natCast,Int.toNat_natCast];exact Nat.sub_lt_sub_left HLT.out (Nat.lt_succ_self i)
  by_cases h92:x=92
  ·have hu:u=92:=UInt8.toNat_inj.1 (by rw[← ex,h92];rfl);have hos2:ofs s (i + 1)=ofs s i + 2:=by rw[hos,hu];rfl
   have HOS:=U.mk hos2;have HU:=U.mk hu;rw[h92] at hx;have hcx:wr.cell? ⟨G,92,none⟩ = some (.slice (some ⟨qb,0,none⟩) 2 cb):=(rep_cell BG.out 92 (by decide)).trans rfl;clear hos hos2 hu ex eu hx2 h92 h34;have hj1 : 0≤(ofs s i:Int):=by omega
   have hm:ofs s i + 2≤ofs s s.size:=by have h:=HM.out;rw[HU.out] at h;exact h
   have hd0:(escQ s).getD (ofs s i) 0=92:=by have h:=HD.out 0 (by rw[HU.out];decide);simp only[HU.out] at h;exact h
   have hd1:(escQ s).getD (ofs s i + 1) 0=92:=by have h:=HD.out 1 (by rw[HU.out];decide);simp only[HU.out] at h;exact h
   have HP:=U.mk (bufA_put2 s i 92 92 HOS.out (by rw[hd0];rfl) (by rw[hd1];rfl));have hr0:wr.cell? ⟨qb,0,none⟩ = some (.int .u8 92):=(HB.out.cell (World.block_lt_of_cell? w _ HQB.out.1)).trans HQB.out.1;have hr1:wr.cell? ⟨qb,1,none⟩ = some (.int .u8 92):=(HB.out.cell (World.block_lt_of_cell? w _ HQB.out.2)).trans HQB.out.2;obtain⟨iu,hiu,_,hszu,_⟩:=info_parts info5;have hcut:=cut_from (P:=Tryz.prog) 44 5 .i64 Tryz.underlying44 hiu 1 hszu (some ⟨g,0,none⟩) (ofs s s.size) (ofs s s.size) (ofs s i:Int) hj1 (by omega)
   have hsl:∀ W:World,(Instr.slice 44 (.slice (some ⟨g,0,none⟩) (ofs s s.size) (ofs s s.size)) (some (.int .i64 (ofs s i:Int))) none none).run Tryz.prog W=.ok (.slice (some ⟨g,ofs s i,none⟩) (ofs s s.size - ofs s i) (ofs s s.size - ofs s i)) W:=fun W=>by
    rw[hcut W,Int.toNat_natCast,if_neg (by omega)];simp[Addr.add]
    exact fun h=>h.symm
   have hcop:∀ W:World,W.heap=wr.heap→(Builtin.copy_ #[44,44] 3 #[.slice (some ⟨g,ofs s i,none⟩) (ofs s s.size - ofs s i) (ofs s s.size - ofs s i),.slice (some ⟨qb,0,none⟩) 2 cb]).run Tryz.prog W=.ok (.int .i64 2) ((W.setCell ⟨g,ofs s i,none⟩ (.int .u8 92)).setCell ⟨g,ofs s i + 1,none⟩ (.int .u8 92)):=fun W hW=>by
    have hcW:∀ a,W.cell? a=wr.cell? a:=fun a=>by simp only[World.cell?,hW]
    have hfW:∀ a,W.frozen? a=wr.frozen? a:=fun a=>by simp only[World.frozen?,hW]
    refine run_copy_cells (P:=Tryz.prog) W 44 44 3 5 g (ofs s i) _ _ ⟨qb,0,none⟩ 2 cb [.int .u8 92,.int .u8 92] Tryz.underlying44 (by rw[hiu];exact congrArg some hszu) (Nat.min_eq_left (show 2≤ofs s s.size - ofs s i by omega)).symm (fun j v hj=>?_) (fun j hj=>?_) (fun j hj=>?_) (fun v hv=>?_)
    ·have hj2:j=0∨j=1:=by have:=(List.getElem?_eq_some_iff.1 hj).1;simp only[List.length_cons,List.length_nil] at this;omega
     rw[hcW]
     rcases hj2 with rfl|rfl
     ·exact hr0.trans hj
     ·exact hr1.trans hj
    ·simp only[List.length_cons,List.length_nil] at hj;rw[hcW,qq HBB.out (ofs s i + j),bufA_at,if_pos (by omega)];rfl
    ·rw[hfW];exact I HBB.out _
    ·simp only[List.mem_cons,List.not_mem_nil,or_false] at hv;rcases hv with rfl|rfl <;> rfl
   have w1:wrap64 ((ofs s i:Int) + 2)=((ofs s i + 2:Nat):Int):=by have:=HN.out;unfold wrap64;omega
   have hcd:=hcop wr.drew rfl;have hcd2:∀ W:World,W=wr.drew→(Builtin.copy_ #[44,44] 3 #[.slice (some ⟨g,ofs s i,none⟩) (ofs s s.size - ofs s i) (ofs s s.size - ofs s i),.slice (some ⟨qb,0,none⟩) 2 cb]).run Tryz.prog W=.ok (.int .i64 2) ((W.setCell ⟨g,ofs s i,none⟩ (.int .u8 92)).setCell ⟨g,ofs s i + 1,none⟩ (.int .u8 92)):=fun W hW=>by rw[hW];exact hcd
   clear hcop hcd hcut hszu hm hd0 hd1 hj1 hr0 hr1 hiu;go_wp2;have hGg:G≠g:=by have h1:=HGB.out;have h2:=blk_lt HG.out;omega
   have hkp:∀ (j k:Nat) (u v:Value),((wr.setCell ⟨g,j,none⟩ u).setCell ⟨g,k,none⟩ v).drew.cell? ⟨G,92,none⟩ = wr.cell? ⟨G,92,none⟩:=fun j k u v=>by rw[World.cell?_drew,World.cell?_setCell_other _ _ _ _ (fun h=>hGg (congrArg Addr.block h).symm),World.cell?_setCell_other _ _ _ _ (fun h=>hGg (congrArg Addr.block h).symm)]
   clear hGg;go_region_held3 (fun w'=>w'.cell? ⟨G,92,none⟩ = some (.slice (some ⟨qb,0,none⟩) 2 cb)) (first|go_keep|(rw[hkp];exact hcx)) (fail)
   have w1i:IntKind.i64.wrap ((ofs s i:Int) + 2)=((ofs s i + 2:Nat):Int):=by rw[i64_w];exact w1
   simp only[w1i];clear hkp hcd2 hsl hcx hne hnn;try go_wp2
   try simp only[e3]
   go_roundw
   case rel=>exact⟨i + 1,by rw[HOS.out],rfl,⟨HLT.out⟩,⟨(qz (qz HB.out HGB.out) HGB.out).drew⟩,⟨blk_put (blk_put HBB.out _ _ rfl) _ _ HP.out⟩⟩
   case measure =>
    show s.size - (((i + 1:Nat):Int)).toNat < s.size - ((i:Int)).toNat
    rw[Int.toNat_natCast,Int.toNat_natCast];exact Nat.sub_lt_sub_left HLT.out (Nat.lt_succ_self i)
  have hos2:ofs s (i + 1)=ofs s i + 1:=by
   rw[hos];unfold escU;rw[if_neg (fun h=>h.elim (fun e=>h34 (by rw[ex,e];rfl)) (fun e=>h92 (by rw[ex,e];rfl)))];rfl
  have HOS:=U.mk hos2;have HU:U (¬ (u=34∨u=92)):=⟨fun h=>h.elim (fun e=>h34 (by rw[ex,e];rfl)) (fun e=>h92 (by rw[ex,e];rfl))⟩;have hcx:wr.cell? ⟨G,x,none⟩ = some (.slice none 0 0):=by rw[rep_cell BG.out x hx2,if_neg h34,if_neg h92]
  have p2:(0≤(x:Int))=True:=eq_true (by omega);have q2:((x:Int) < 256)=True:=eq_true (by omega);clear hos hos2 ex eu hx2 h34 h92;have hj1 : 0≤(ofs s i:Int):=by omega
  have hlen:(escU u).length=1:=by unfold escU;rw[if_neg HU.out];rfl
  have hm:ofs s i + 1≤ofs s s.size:=by have h:=HM.out;rw[hlen] at h;exact h
  have hd0:(escQ s).getD (ofs s i) 0=u:=by have h:=HD.out 0 (by rw[hlen];decide);rw[Nat.add_zero] at h;rw[h];simp only[escU,if_neg HU.out];rfl
  have HP:=U.mk (bufA_put1 s i (x:Int) HOS.out (by rw[hd0,HEX.out]));have hcb:wr.cell? ⟨g,ofs s i,none⟩ = some (bufV s i (ofs s i)):=(qq HBB.out _).trans (by rw[bufA_at,if_pos (by omega)]);have hcb:wr.cell? ⟨g,ofs s i,none⟩ = some (.int .u8 0):=hcb.trans (by unfold bufV;rw[if_neg (Nat.lt_irrefl _)]);have hfb:=I HBB.out (ofs s i);have p3:(0≤(ofs s i:Int))=True:=eq_true hj1;have q3:((ofs s i:Int) < (ofs s s.size:Int))=True:=eq_true (by omega);have w1:wrap64 ((ofs s i:Int) + 1)=((ofs s i + 1:Nat):Int):=by have:=HN.out;unfold wrap64;omega
  clear hm hd0 hlen hj1;go_wp2;try simp only[e3,w1]
  go_roundw
  case rel=>exact⟨i + 1,by rw[HOS.out],rfl,⟨HLT.out⟩,⟨qz HB.out HGB.out⟩,⟨blk_put HBB.out _ _ HP.out⟩⟩
  case measure =>
   show s.size - (((i + 1:Nat):Int)).toNat < s.size - ((i:Int)).toNat
   rw[Int.toNat_natCast,Int.toNat_natCast];exact Nat.sub_lt_sub_left HLT.out (Nat.lt_succ_self i)
 ·obtain rfl:i=s.size:=by have:=HI.out;omega
  have hl1:decide ((s.size:Int) < (s.size:Int))=false:=decide_eq_false (by omega);have hl2:decide (s.size < s.size)=false:=decide_eq_false (by omega)
  have hcv:(convert 44 9 (.slice (some ⟨g,0,none⟩) (ofs s s.size) (ofs s s.size))).run Tryz.prog wr=.ok (.string (escB s)) wr:=by
   rw[← buf_str];refine run_convert_bytes_arg wr 44 5 Tryz.underlying44 Tryz.underlying5 g 0 (ofs s s.size) (ofs s s.size) ((List.range (ofs s s.size)).map fun p=>(((escQ s).getD p 0).toNat:Int)) (by simp) (fun j hj=>?_) 9 Tryz.underlying9;rw[Nat.zero_add,qq HBB.out j,bufA_at,if_pos hj];unfold bufV;rw[if_pos hj,show((List.range (ofs s s.size)).map fun p=>(((escQ s).getD p 0).toNat:Int)).getD j 0=(((escQ s).getD j 0).toNat:Int) by rw[List.getD_eq_getElem?_getD,List.getElem?_map,List.getElem?_range hj];rfl]
  clear hlt HI;go_wp2;go_ret
  exact⟨rfl,HB.out⟩
theorem str_other {W:World} {g0 o j k:Nat} {u:Value} {q:ByteArray} {n:Int} (h:W.cell? ⟨o,k,none⟩ = some (.string q)) (hs0:∃ x,W.cell? ⟨o,0,none⟩ = some (.string x)) (h0:W.cell? ⟨g0,0,none⟩ = some (.int .u32 n)):(W.setCell ⟨g0,j,none⟩ u).cell? ⟨o,k,none⟩ = some (.string q):=by
 obtain⟨x,hx⟩:=hs0;have hne:g0≠o:=by rintro rfl;rw[hx] at h0;cases h0
 exact(World.cell?_setCell_other _ ⟨g0,j,none⟩ ⟨o,k,none⟩ _ (fun h=>hne (congrArg Addr.block h))).trans h
set_option maxHeartbeats 4000000 in
theorem replReplace_calls (b0 g0 o c:Nat) (s:ByteArray) (w:World) (hs:s.size≤1000000) (hb0:b0≤g0) (hg:w.heap[g0]? = some (.cells (rplC 0 0 .nilIface (.slice (some ⟨o,0,none⟩) 4 c)) 120 (0,0))) (hs0:w.cell? ⟨o,0,none⟩ = some (.string q92)) (hs1:w.cell? ⟨o,1,none⟩ = some (.string q9292)) (hs2:w.cell? ⟨o,2,none⟩ = some (.string q34)) (hs3:w.cell? ⟨o,3,none⟩ = some (.string q9234)) :
  Calls Tryz.prog 92 #[.pointer (some ⟨g0,0,none⟩),.string s] w fun e w'=>e=.returned (.string (escB s))∧Below b0 w w':=by
 have h00:w.cell? ⟨g0,0,none⟩ = some (.int .u32 0):=(qq hg 0).trans rfl;have h01:w.cell? ⟨g0,1,none⟩ = some (.int .i32 0):=(qq hg 1).trans rfl;have hB:=blk_put (cs':=rplC 0 1 .nilIface (.slice (some ⟨o,0,none⟩) 4 c)) hg 1 (.int .i32 1) rfl;have hC:=buildOnce_calls b0 g0 o c (w.setCell ⟨g0,1,none⟩ (.int .i32 1)) hb0 hB (str_other hs0 ⟨_,hs0⟩ h00) (str_other hs1 ⟨_,hs0⟩ h00) (str_other hs2 ⟨_,hs0⟩ h00) (str_other hs3 ⟨_,hs0⟩ h00);have hBe:Below b0 w (w.setCell ⟨g0,1,none⟩ (.int .i32 1)):=(Below.refl b0 w).setCell (p:=⟨g0,1,none⟩) hb0 _
 have HD:=U.mk (sy_do g0 0 ⟨g0,0,none⟩ w (fun w1=>∃ G:Nat,w1.heap[g0]? = some (.cells (rplC 0 1 (.iface 148 (.pointer (some ⟨G,0,none⟩))) (.slice none 0 0)) 120 (0,0))∧RepOk w1 G∧Below b0 w w1) h00 h01 (I hg 1) (hC.mono fun e w' h=>by
  obtain⟨he,G,h1,h2,h3⟩:=h;exact⟨he,⟨G,h1,h2,hBe.trans h3⟩,(qq h1 0).trans rfl,(qq h1 1).trans rfl,I h1 0,I h1 1⟩))
 have HS:=U.mk hs;have HL:=U.mk hb0;have HLW:U (b0≤w.heap.size):=⟨by have:=blk_lt hg;omega⟩;clear hC hB hBe hs0 hs1 hs2 hs3 hg h00 h01 hs;go_enter Tryz.func92,Tryz.ntmps92;go_wp2_with (first|(go_at_call 102;go_loud (refine HD.out.mono ?_;rintro e w2 ⟨rfl,w1,⟨G,hg1,hR1,hB1⟩,rfl⟩;have BK0:=blk_put (w:=w1.drew) (cs':=rplC 1 1 (.iface 148 (.pointer (some ⟨G,0,none⟩))) (.slice none 0 0)) hg1 0 (.int .u32 1) rfl;have BK1:=blk_put (cs':=rplC 1 0 (.iface 148 (.pointer (some ⟨G,0,none⟩))) (.slice none 0 0)) BK0 1 (.int .i32 0) rfl;have RO0:=RepOk.other (W:=w1.drew) (j:=0) (u:=.int .u32 1) hR1 hg1 ⟨0,rfl⟩;have RO1:=U.mk (RO0.other (j:=1) (u:=.int .i32 0) BK0 ⟨1,rfl⟩);have HB1:=U.mk ((hB1.drew.setCell (p:=⟨g0,0,none⟩) HL.out (.int .u32 1)).setCell (p:=⟨g0,1,none⟩) HL.out (.int .i32 0));have hc3:(onceEnd g0 0 w1).cell? ⟨g0,3,none⟩ = some (.iface 148 (.pointer (some ⟨G,0,none⟩))):=(qq BK1 3).trans rfl;replace RO1:U (RepOk (onceEnd g0 0 w1) G):=RO1;replace HB1:U (Below b0 w (onceEnd g0 0 w1)):=HB1;clear hg1 hR1 hB1 BK0 BK1 RO0;generalize onceEnd g0 0 w1=w2 at RO1 HB1 hc3 ⊢)))
 have hm : ∀ (n G : Nat) (W : World), Sem.run Tryz.prog (method (n + 1) 148 (.pointer (some ⟨G, 0, none⟩)) "Replace") W = .ok (176, .pointer (some ⟨G, 0, none⟩)) W := fun _ _ _ => by kernel_rfl
 rw[hm];clear hm;go_wp2_with (first|(go_at_call 176;go_loud (refine(bsrReplace_calls G s w2 RO1.out HS.out).mono ?_;rintro e w3 ⟨rfl,hB3⟩;have HB3:=U.mk (HB1.out.trans (hB3.mono (Nat.le_trans HLW.out HB1.out.size)));clear hB3)))
 go_ret
 exact⟨rfl,HB3.out⟩
def quoteB (s:ByteArray):ByteArray:=(⟨#[34]⟩ : ByteArray) ++ escB s ++ (⟨#[34]⟩ : ByteArray)
def qqk.f (s:ByteArray):Option ByteArray:=if s.size≤1000000 then some (quoteB s) else none
set_option maxHeartbeats 4000000 in
theorem qqk.calls (a0:ByteArray) (r:ByteArray) (w:World) (h:qqk.f a0=some r) :
  Calls Tryz.prog 73 #[.string a0] w fun e w'=>e=.returned (.string r)∧Below w.heap.size w w':=by
 unfold qqk.f at h
 by_cases hs:a0.size≤1000000
 case neg=>rw[if_neg hs] at h;cases h
 rw[if_pos hs] at h;obtain rfl:=Option.some.inj h;have HS:=U.mk hs
 have hle:(escB a0).size≤2 * a0.size:=by
  have h1:=ofs_le a0 a0.size (Nat.le_refl _);rw[ofs_end] at h1;exact h1
 have h1:¬ 9223372036854775807 < 1 + (escB a0).size:=by omega
 have h2:¬ 9223372036854775807 < 1 + (escB a0).size + 1:=by omega
 clear hle;clear h hs;go_enter Tryz.func73,Tryz.ntmps73;go_wp2_with (first|((with_reducible refine gate_dst (N:=3) rfl ?_);refine Kd.R_lit Kd.string _ 9 ?hg (N:=3) ?hd (xs:=([q92,q9292,q34,q9234]:List ByteArray)) (inner:=[.string q92,.string q9292,.string q34,.string q9234]) (ok:=fun _=>True) (okp:=fun _=>True) ?hr ?hp (fun _ hk=>hk) trivial (Below.refl _ _) (Nat.le_refl _) (by simp) ?_;(case hd=>rfl);(case hg=>rfl);(case hr=>first|(go_simp;done)|(go_simp;rfl));(case hp=>exact(Reps.one (show Kd.M Kd.string _ _ _ q92 [.string q92] from rfl) (Reps.one (show Kd.M Kd.string _ _ _ q9292 [.string q9292] from rfl) (Reps.one (show Kd.M Kd.string _ _ _ q34 [.string q34] from rfl) (Reps.one (show Kd.M Kd.string _ _ _ q9234 [.string q9234] from rfl) (Reps.none _ _))))));intro v1 w1 ho hb hg_ hnew_;clear hg_ hnew_;obtain⟨A1,c1,e1,_,hC1⟩:=Kd.R_reads ho;subst e1;have HC1:U (Kd.C Kd.string w1 A1 4 [q92,q9292,q34,q9234]):=⟨hC1⟩;have HB1:=U.mk hb;clear ho hb hC1)|(go_at_call 91;go_loud (refine(newReplacer_calls A1 c1 w1 HC1.out).mono ?_;rintro e w2 ⟨g0,o,c,rfl,hB2,hG,hg,hs0,hs1,hs2,hs3⟩;have HR:U (Calls Tryz.prog 92 #[.pointer (some ⟨g0,0,none⟩),.string a0] w2 fun e w'=>e=.returned (.string (escB a0))∧Below w.heap.size w2 w'):=⟨replReplace_calls w.heap.size g0 o c a0 w2 HS.out (Nat.le_trans HB1.out.size hG) hg hs0 hs1 hs2 hs3⟩;have HB2:=U.mk (HB1.out.trans (hB2.mono HB1.out.size));clear hB2 hG hg hs0 hs1 hs2 hs3))|(go_at_call 92;go_loud (refine HR.out.mono ?_;rintro e w3 ⟨rfl,hB3⟩;have HB3:=U.mk (HB2.out.trans hB3);clear hB3)))
 go_ret
 exact⟨rfl,HB3.out⟩
def zqv.f (a0:Bool):Option (ByteArray):=if a0=true then(some (⟨#[116,114,117,101]⟩ : ByteArray)) else(some (⟨#[102,97,108,115,101]⟩ : ByteArray))
theorem zqv.calls (a0:Bool) (r:ByteArray) (w:World) (h:zqv.f a0=some r) :
  Calls Tryz.prog 89 #[.bool a0] w fun e w'=>e=.returned (.string r)∧Drawn0 w w':=by
 unfold zqv.f at h;have H:=h;clear h
 by_cases c2:a0=true
 ·subst c2;have H1:(some (⟨#[116,114,117,101]⟩ : ByteArray))=some r:=by rw[if_pos rfl] at H;exact H
  clear H;have H:=H1;clear H1;obtain rfl:=Option.some.inj H;go_enter Tryz.func89,Tryz.ntmps89;go_wp2;go_ret
  exact⟨by first|rfl|(simp;done)|(simp[*];done),by repeat(first|exact Drawn0.refl _|apply Drawn0.step)⟩
 ·replace c2:=jq9.mpr c2;subst c2;have H1:(some (⟨#[102,97,108,115,101]⟩ : ByteArray))=some r:=by rw[if_neg (show ¬ (false=true) by decide)] at H;exact H
  clear H;have H:=H1;clear H1;obtain rfl:=Option.some.inj H;go_enter Tryz.func89,Tryz.ntmps89;go_wp2;go_ret
  exact⟨by first|rfl|(simp;done)|(simp[*];done),by repeat(first|exact Drawn0.refl _|apply Drawn0.step)⟩
def zqk.f (a0:Bool):Option (ByteArray):=(zqv.f a0).bind fun t101=>(some t101)
theorem zqk.calls (a0:Bool) (r:ByteArray) (w:World) (h:zqk.f a0=some r) :
  Calls Tryz.prog 71 #[.bool a0] w fun e w'=>e=.returned (.string r)∧Drawn0 w w':=by
 have H:((zqv.f a0).bind fun t101=>(some t101))=some r:=h;clear h;replace H:=jq8.mp H;obtain⟨t101,A20,H⟩:=H;replace H:(some t101)=some r:=H;have A2:=U.mk A20;clear A20;obtain rfl:=Option.some.inj H;go_enter Tryz.func71,Tryz.ntmps71;go_wp2_with (first|((with_reducible refine zx (f:=89) rfl ?_);refine goesL_ (some 4) rfl rfl Tryz.func89 (by kernel_rfl) rfl #[.bool a0] rfl (by(try simp only[jq0,jq1,jq2]);first|done|rfl|(simp only[jq3,jq4];rfl)) ?_;(with_reducible refine(zqv.calls a0 t101 _ A2.out).mono ?_);rintro e w' ⟨rfl,⟨nd,rfl⟩⟩;refine⟨_,rfl,?_⟩))
 go_ret
 exact⟨by first|rfl|(simp;done)|(simp[*];done),by repeat(first|exact Drawn0.refl _|apply Drawn0.step)⟩
def vk.l0:Nat→Int→ByteArray→Int→Int→Int→ByteArray→ByteArray→Option (ByteArray)
 | 0,_,_,_,_,_,_,_=>none
 | k + 1,x6,x7,x8,x102000,x102001,x102002,x102003=>if x8 ≥ 0 then(if 0≤x8 then((strconv_Itoa.f (Go.bits .and .i64 (shr .i64 x6 x8) 255)).bind fun t111=>(if t111.size + 1≤9223372036854775807 then(if x7.size + (t111 ++ (⟨#[46]⟩ : ByteArray)).size≤9223372036854775807 then(vk.l0 k x6 (x7 ++ (t111 ++ (⟨#[46]⟩ : ByteArray))) (wrap64 (x8 - 8)) x102000 x102001 x102002 x102003) else(none)) else(none))) else(none)) else(if 0≤(wrap64 ((x7.size:Int) - 1)) then(if (wrap64 ((x7.size:Int) - 1))≤(x7.size:Int) then(if (x7.extract 0 ((wrap64 ((x7.size:Int) - 1)):Int).toNat).size + 1≤9223372036854775807 then((strconv_Itoa.f (Int.tmod x102001 64)).bind fun t112=>(if ((x7.extract 0 ((wrap64 ((x7.size:Int) - 1)):Int).toNat) ++ (⟨#[47]⟩ : ByteArray)).size + t112.size≤9223372036854775807 then(some (((x7.extract 0 ((wrap64 ((x7.size:Int) - 1)):Int).toNat) ++ (⟨#[47]⟩ : ByteArray)) ++ t112)) else(none))) else(none)) else(none)) else(none))
def vk.f (k:Nat) (a0_0:Int) (a0_1:Int) (a0_2:ByteArray) (a0_3:ByteArray):Option (ByteArray):=(vw.f k a0_0 a0_1 a0_2 a0_3).bind fun t102=>(if t102=true then(if a0_0=1 then((zqk.f (a0_1 == 1)).bind fun t103=>(some t103)) else(if a0_0=2 then((strconv_Itoa.f a0_1).bind fun t104=>(some t104)) else(if a0_0=3 then((qqk.f a0_2).bind fun t105=>(some t105)) else(if a0_0=4 then(if a0_3.size + 2≤9223372036854775807 then((qqk.f a0_2).bind fun t106=>(if (a0_3 ++ (⟨#[58,58]⟩ : ByteArray)).size + t106.size≤9223372036854775807 then(some ((a0_3 ++ (⟨#[58,58]⟩ : ByteArray)) ++ t106)) else(none))) else(none)) else(if a0_0=5 then(if a0_1 < 0 then((zqw.f (IntKind.u64.wrap ((Int.tmod (IntKind.u64.wrap (-(IntKind.u64.wrap (a0_1)))) 10000) + 10000)) 10).bind fun t107=>((zqw.f (IntKind.u64.wrap (Int.tdiv (IntKind.u64.wrap (-(IntKind.u64.wrap (a0_1)))) 10000)) 10).bind fun t108=>(if 1 + t108.size≤9223372036854775807 then(if ((⟨#[45]⟩ : ByteArray) ++ t108).size + 1≤9223372036854775807 then(if 1≤(t107.size:Int) then(if (((⟨#[45]⟩ : ByteArray) ++ t108) ++ (⟨#[46]⟩ : ByteArray)).size + (t107.extract 1 t107.size).size≤9223372036854775807 then(some ((((⟨#[45]⟩ : ByteArray) ++ t108) ++ (⟨#[46]⟩ : ByteArray)) ++ (t107.extract 1 t107.size))) else(none)) else(none)) else(none)) else(none)))) else((zqw.f (IntKind.u64.wrap ((Int.tmod (IntKind.u64.wrap (a0_1)) 10000) + 10000)) 10).bind fun t109=>((zqw.f (IntKind.u64.wrap (Int.tdiv (IntKind.u64.wrap (a0_1)) 10000)) 10).bind fun t110=>(if 0 + t110.size≤9223372036854775807 then(if ((⟨#[]⟩ : ByteArray) ++ t110).size + 1≤9223372036854775807 then(if 1≤(t109.size:Int) then(if (((⟨#[]⟩ : ByteArray) ++ t110) ++ (⟨#[46]⟩ : ByteArray)).size + (t109.extract 1 t109.size).size≤9223372036854775807 then(some ((((⟨#[]⟩ : ByteArray) ++ t110) ++ (⟨#[46]⟩ : ByteArray)) ++ (t109.extract 1 t109.size))) else(none)) else(none)) else(none)) else(none))))) else(if a0_0=6 then(vk.l0 k (wrap64 (Int.tdiv a0_1 64)) (⟨#[]⟩ : ByteArray) 24 a0_0 a0_1 a0_2 a0_3) else((strconv_Itoa.f a0_1).bind fun t113=>(if 1 + t113.size≤9223372036854775807 then(some ((⟨#[64]⟩ : ByteArray) ++ t113)) else(none))))))))) else(some (⟨#[]⟩ : ByteArray)))
def vk.T11:Bool × List (List Nat × List Nat):=(true,[([],[]),([0],[0]),([1],[1]),([],[]),([3],[3]),([4],[4]),([2,5],[2,5]),([6,5,0,1,2,3,4,5,6],[6])])
def vk.B11:List Nat:=[0,1,3,0,8,24,63,127]
theorem vk.tab11:rtab .any (opsOf Tryz.f44 11)=vk.T11:=by kernel_rfl
theorem vk.bits11:waitsOk vk.T11.2 vk.B11=true:=by kernel_rfl
def vk.T17:Bool × List (List Nat × List Nat):=(true,[([],[]),([],[]),([1],[1]),([2],[2]),([0,3],[0,3]),([4],[4]),([],[]),([6],[6]),([5,7],[5,7]),([8,3,0,1,2,3,4,5,6,7,8],[8])])
def vk.B17:List Nat:=[0,0,2,6,15,31,0,64,255,511]
theorem vk.tab17:rtab .any (opsOf Tryz.f44 17)=vk.T17:=by kernel_rfl
theorem vk.bits17:waitsOk vk.T17.2 vk.B17=true:=by kernel_rfl
def vk.T25:Bool × List (List Nat × List Nat):=(true,[([],[]),([],[]),([1],[1]),([2],[2]),([0,3],[0,3]),([4],[4]),([],[]),([6],[6]),([7],[7]),([8],[8]),([5,9],[5,9]),([10,9,0,1,2,3,4,5,6,7,8,9,10],[10])])
def vk.B25:List Nat:=[0,0,2,6,15,31,0,64,192,448,1023,2047]
theorem vk.tab25:rtab .any (opsOf Tryz.f44 25)=vk.T25:=by kernel_rfl
theorem vk.bits25:waitsOk vk.T25.2 vk.B25=true:=by kernel_rfl
theorem vk.calls (k:Nat) (a0_0:Int) (a0_1:Int) (a0_2:ByteArray) (a0_3:ByteArray) (r:ByteArray) (w:World) (htab:TabW w) (h:vk.f k a0_0 a0_1 a0_2 a0_3=some r) :
  Calls Tryz.prog 44 #[.agg #[.int .i64 a0_0,.int .i64 a0_1,.string a0_2,.string a0_3]] w fun e w'=>e=.returned (.string r)∧Below w.heap.size w w':=by
 have HTAB:=U.mk htab;clear htab;have hu30:=Tryz.underlying30;have HB:=U.mk (Below.refl w.heap.size w);unfold vk.f at h;have H:=h;clear h;replace H:=jq8.mp H;obtain⟨t102,A20,H⟩:=H;try dsimp only at H
 have A2:=U.mk A20;clear A20
 by_cases c3:t102=true
 ·subst c3;have H1:(if a0_0=1 then((zqk.f (a0_1 == 1)).bind fun t103=>(some t103)) else(if a0_0=2 then((strconv_Itoa.f a0_1).bind fun t104=>(some t104)) else(if a0_0=3 then((qqk.f a0_2).bind fun t105=>(some t105)) else(if a0_0=4 then(if a0_3.size + 2≤9223372036854775807 then((qqk.f a0_2).bind fun t106=>(if (a0_3 ++ (⟨#[58,58]⟩ : ByteArray)).size + t106.size≤9223372036854775807 then(some ((a0_3 ++ (⟨#[58,58]⟩ : ByteArray)) ++ t106)) else(none))) else(none)) else(if a0_0=5 then(if a0_1 < 0 then((zqw.f (IntKind.u64.wrap ((Int.tmod (IntKind.u64.wrap (-(IntKind.u64.wrap (a0_1)))) 10000) + 10000)) 10).bind fun t107=>((zqw.f (IntKind.u64.wrap (Int.tdiv (IntKind.u64.wrap (-(IntKind.u64.wrap (a0_1)))) 10000)) 10).bind fun t108=>(if 1 + t108.size≤9223372036854775807 then(if ((⟨#[45]⟩ : ByteArray) ++ t108).size + 1≤9223372036854775807 then(if 1≤(t107.size:Int) then(if (((⟨#[45]⟩ : ByteArray) ++ t108) ++ (⟨#[46]⟩ : ByteArray)).size + (t107.extract 1 t107.size).size≤9223372036854775807 then(some ((((⟨#[45]⟩ : ByteArray) ++ t108) ++ (⟨#[46]⟩ : ByteArray)) ++ (t107.extract 1 t107.size))) else(none)) else(none)) else(none)) else(none)))) else((zqw.f (IntKind.u64.wrap ((Int.tmod (IntKind.u64.wrap (a0_1)) 10000) + 10000)) 10).bind fun t109=>((zqw.f (IntKind.u64.wrap (Int.tdiv (IntKind.u64.wrap (a0_1)) 10000)) 10).bind fun t110=>(if 0 + t110.size≤9223372036854775807 then(if ((⟨#[]⟩ : ByteArray) ++ t110).size + 1≤9223372036854775807 then(if 1≤(t109.size:Int) then(if (((⟨#[]⟩ : ByteArray) ++ t110) ++ (⟨#[46]⟩ : ByteArray)).size + (t109.extract 1 t109.size).size≤9223372036854775807 then(some ((((⟨#[]⟩ : ByteArray) ++ t110) ++ (⟨#[46]⟩ : ByteArray)) ++ (t109.extract 1 t109.size))) else(none)) else(none)) else(none)) else(none))))) else(if a0_0=6 then(vk.l0 k (wrap64 (Int.tdiv a0_1 64)) (⟨#[]⟩ : ByteArray) 24 a0_0 a0_1 a0_2 a0_3) else((strconv_Itoa.f a0_1).bind fun t113=>(if 1 + t113.size≤9223372036854775807 then(some ((⟨#[64]⟩ : ByteArray) ++ t113)) else(none)))))))))=some r:=by rw[if_pos rfl] at H;exact H
  clear H;have H:=H1;clear H1
  by_cases c4:a0_0=1
  ·rw[if_pos c4] at H;have c4b0:(a0_0 == 1)=true:=beq_iff_eq.mpr c4;have c4b1:(a0_0 != 1)=false:=bne_eq_false_iff_eq.mpr c4;clear c4;replace H:=jq8.mp H;obtain⟨t103,A50,H⟩:=H;replace H:(some t103)=some r:=H;have A5:=U.mk A50;clear A50;obtain rfl:=Option.some.inj H;go_enter Tryz.func44,Tryz.ntmps44;go_wp2_with (first|((with_reducible refine gate_dst (N:=1) rfl ?_);refine box_event ?hg (N:=1) ?hd (cs:=#[.int .i64 a0_0,.int .i64 a0_1,.string a0_2,.string a0_3]) (t:=30) ?hr ?_;(case hd=>rfl);(case hg=>rfl);(case hr=>first|(go_simp;done)|(go_simp;rfl));intro gb101 hg w6 hbox hb;have BK101:=U.mk (hbox);have GW101:=U.mk ((by rw[hg];exact(zq (by solve_by_elim only[HB.out,L,O,J])):w.heap.size≤gb101));have GE101:=GW101;replace HB:=U.mk (qx (by solve_by_elim only[HB.out,L,O,J]) hb);clear hb hbox hg;obtain⟨y7_0,y7_1,y7_2,y7_3,z7_0,z7_1,z7_2,z7_3⟩:=bx4f BK101.out)|((with_reducible refine zx (f:=64) rfl ?_);refine goesL_ (some 10) rfl rfl Tryz.func64 (by kernel_rfl) rfl #[.agg #[.int .i64 a0_0,.int .i64 a0_1,.string a0_2,.string a0_3]] rfl (by(try simp only[jq0,jq1,jq2]);first|done|rfl|(simp only[jq3,jq4];rfl)) ?_;(with_reducible refine(vw.calls k a0_0 a0_1 a0_2 a0_3 true _ A2.out).mono ?_);rintro e w8 ⟨rfl,hb⟩;refine⟨_,rfl,?_⟩;replace BK101:=U.mk (jx (by solve_by_elim only[BK101.out,qk,qv,qj]) hb);replace HB:=U.mk (qx (by solve_by_elim (maxDepth:=20) only[HB.out,L,O,J,qz,GE101.out]) hb);(try clear hb);obtain⟨y9_0,y9_1,y9_2,y9_3,z9_0,z9_1,z9_2,z9_3⟩:=bx4f BK101.out)|((with_reducible refine zx (f:=71) rfl ?_);refine goesL_ (some 19) rfl rfl Tryz.func71 (by kernel_rfl) rfl #[.bool (a0_1 == 1)] rfl (by(try simp only[jq0,jq1,jq2]);first|done|rfl|(simp only[jq3,jq4];rfl)) ?_;(with_reducible refine(zqk.calls (a0_1 == 1) t103 _ A5.out).mono ?_);rintro e w' ⟨rfl,⟨nd,rfl⟩⟩;refine⟨_,rfl,?_⟩))
   go_ret
   exact⟨by first|rfl|(simp[*,zw,zv] <;> rfl),by solve_by_elim (maxDepth:=20) only[HB.out,L,O,J,qz,GE101.out]⟩
  ·rw[if_neg c4] at H;have c4b0:(a0_0 == 1)=false:=beq_eq_false_iff_ne.mpr c4;have c4b1:(a0_0 != 1)=true:=bne_iff_ne.mpr c4
   by_cases c10:a0_0=2
   ·rw[if_pos c10] at H;have c10b0:(a0_0 == 2)=true:=beq_iff_eq.mpr c10;have c10b1:(a0_0 != 2)=false:=bne_eq_false_iff_eq.mpr c10;clear c10;replace H:=jq8.mp H;obtain⟨t104,A110,H⟩:=H;replace H:(some t104)=some r:=H;have A11:=U.mk A110;clear A110;obtain rfl:=Option.some.inj H;go_enter Tryz.func44,Tryz.ntmps44;go_wp2_with (first|((with_reducible refine gate_dst (N:=1) rfl ?_);refine box_event ?hg (N:=1) ?hd (cs:=#[.int .i64 a0_0,.int .i64 a0_1,.string a0_2,.string a0_3]) (t:=30) ?hr ?_;(case hd=>rfl);(case hg=>rfl);(case hr=>first|(go_simp;done)|(go_simp;rfl));intro gb101 hg w12 hbox hb;have BK101:=U.mk (hbox);have GW101:=U.mk ((by rw[hg];exact(zq (by solve_by_elim only[HB.out,L,O,J])):w.heap.size≤gb101));have GE101:=GW101;replace HB:=U.mk (qx (by solve_by_elim only[HB.out,L,O,J]) hb);clear hb hbox hg;obtain⟨y13_0,y13_1,y13_2,y13_3,z13_0,z13_1,z13_2,z13_3⟩:=bx4f BK101.out)|((with_reducible refine zx (f:=64) rfl ?_);refine goesL_ (some 10) rfl rfl Tryz.func64 (by kernel_rfl) rfl #[.agg #[.int .i64 a0_0,.int .i64 a0_1,.string a0_2,.string a0_3]] rfl (by(try simp only[jq0,jq1,jq2]);first|done|rfl|(simp only[jq3,jq4];rfl)) ?_;(with_reducible refine(vw.calls k a0_0 a0_1 a0_2 a0_3 true _ A2.out).mono ?_);rintro e w14 ⟨rfl,hb⟩;refine⟨_,rfl,?_⟩;replace BK101:=U.mk (jx (by solve_by_elim only[BK101.out,qk,qv,qj]) hb);replace HB:=U.mk (qx (by solve_by_elim (maxDepth:=20) only[HB.out,L,O,J,qz,GE101.out]) hb);(try clear hb);obtain⟨y15_0,y15_1,y15_2,y15_3,z15_0,z15_1,z15_2,z15_3⟩:=bx4f BK101.out)|((with_reducible refine zx (f:=72) rfl ?_);refine goesL_ (some 24) rfl rfl Tryz.func72 (by kernel_rfl) rfl #[.int .i64 a0_1] rfl (by(try simp only[jq0,jq1,jq2]);first|done|rfl|(simp only[jq3,jq4];rfl)) ?_;(with_reducible refine(strconv_Itoa.calls a0_1 t104 _ ?tabw A11.out).mono ?_);(case tabw=>first|(with_reducible first|exact HTAB.out|exact TabW_below HTAB.out HB.out)|exact TabW_below HTAB.out (by with_reducible repeat(first|exact HB.out|apply L|apply O|apply J|refine qz ?_ GE101.out))|(repeat(first|exact HTAB.out|exact TabW_below HTAB.out HB.out|(with_reducible refine TabW_drewN ?_ _)|(with_reducible refine TabW_drew ?_)|(with_reducible refine TabW_alloc ?_ _))));rintro e w16 ⟨rfl,hb⟩;refine⟨_,rfl,?_⟩;replace BK101:=U.mk (jx (by solve_by_elim only[BK101.out,qk,qv,qj]) hb);replace HB:=U.mk (qx (by solve_by_elim (maxDepth:=20) only[HB.out,L,O,J,qz,GE101.out]) hb);(try clear hb)))
    go_ret
    exact⟨by first|rfl|(simp[*,zw,zv] <;> rfl),by solve_by_elim (maxDepth:=20) only[HB.out,L,O,J,qz,GE101.out]⟩
   ·rw[if_neg c10] at H;have c10b0:(a0_0 == 2)=false:=beq_eq_false_iff_ne.mpr c10;have c10b1:(a0_0 != 2)=true:=bne_iff_ne.mpr c10
    by_cases c17:a0_0=3
    ·rw[if_pos c17] at H;have c17b0:(a0_0 == 3)=true:=beq_iff_eq.mpr c17;have c17b1:(a0_0 != 3)=false:=bne_eq_false_iff_eq.mpr c17;clear c17;replace H:=jq8.mp H;obtain⟨t105,A180,H⟩:=H;replace H:(some t105)=some r:=H;have A18:=U.mk A180;clear A180;obtain rfl:=Option.some.inj H;go_enter Tryz.func44,Tryz.ntmps44;go_wp2_with (first|((with_reducible refine gate_dst (N:=1) rfl ?_);refine box_event ?hg (N:=1) ?hd (cs:=#[.int .i64 a0_0,.int .i64 a0_1,.string a0_2,.string a0_3]) (t:=30) ?hr ?_;(case hd=>rfl);(case hg=>rfl);(case hr=>first|(go_simp;done)|(go_simp;rfl));intro gb101 hg w19 hbox hb;have BK101:=U.mk (hbox);have GW101:=U.mk ((by rw[hg];exact(zq (by solve_by_elim only[HB.out,L,O,J])):w.heap.size≤gb101));have GE101:=GW101;replace HB:=U.mk (qx (by solve_by_elim only[HB.out,L,O,J]) hb);clear hb hbox hg;obtain⟨y20_0,y20_1,y20_2,y20_3,z20_0,z20_1,z20_2,z20_3⟩:=bx4f BK101.out)|((with_reducible refine zx (f:=64) rfl ?_);refine goesL_ (some 10) rfl rfl Tryz.func64 (by kernel_rfl) rfl #[.agg #[.int .i64 a0_0,.int .i64 a0_1,.string a0_2,.string a0_3]] rfl (by(try simp only[jq0,jq1,jq2]);first|done|rfl|(simp only[jq3,jq4];rfl)) ?_;(with_reducible refine(vw.calls k a0_0 a0_1 a0_2 a0_3 true _ A2.out).mono ?_);rintro e w21 ⟨rfl,hb⟩;refine⟨_,rfl,?_⟩;replace BK101:=U.mk (jx (by solve_by_elim only[BK101.out,qk,qv,qj]) hb);replace HB:=U.mk (qx (by solve_by_elim (maxDepth:=20) only[HB.out,L,O,J,qz,GE101.out]) hb);(try clear hb);obtain⟨y22_0,y22_1,y22_2,y22_3,z22_0,z22_1,z22_2,z22_3⟩:=bx4f BK101.out)|((with_reducible refine zx (f:=73) rfl ?_);refine goesL_ (some 29) rfl rfl Tryz.func73 (by kernel_rfl) rfl #[.string a0_2] rfl (by(try simp only[jq0,jq1,jq2]);first|done|rfl|(simp only[jq3,jq4];rfl)) ?_;(with_reducible refine(qqk.calls a0_2 t105 _ A18.out).mono ?_);rintro e w23 ⟨rfl,hb⟩;refine⟨_,rfl,?_⟩;replace BK101:=U.mk (jx (by solve_by_elim only[BK101.out,qk,qv,qj]) hb);replace HB:=U.mk (qx (by solve_by_elim (maxDepth:=20) only[HB.out,L,O,J,qz,GE101.out]) hb);(try clear hb)))
     go_ret
     exact⟨by first|rfl|(simp[*,zw,zv] <;> rfl),by solve_by_elim (maxDepth:=20) only[HB.out,L,O,J,qz,GE101.out]⟩
    ·rw[if_neg c17] at H;have c17b0:(a0_0 == 3)=false:=beq_eq_false_iff_ne.mpr c17;have c17b1:(a0_0 != 3)=true:=bne_iff_ne.mpr c17
     by_cases c24:a0_0=4
     ·rw[if_pos c24] at H;have c24b0:(a0_0 == 4)=true:=beq_iff_eq.mpr c24;have c24b1:(a0_0 != 4)=false:=bne_eq_false_iff_eq.mpr c24;clear c24
      by_cases c25:a0_3.size + 2≤9223372036854775807
      ·rw[if_pos c25] at H;have c25b0:=eq_true c25;have c25b1:decide (a0_3.size + 2≤9223372036854775807)=true:=decide_eq_true c25;try have c25b2:(9223372036854775807 < a0_3.size + 2)=False:=eq_false (Nat.not_lt.2 c25)
       replace H:=jq8.mp H;obtain⟨t106,A260,H⟩:=H;try dsimp only at H
       have A26:=U.mk A260;clear A260
       by_cases c27:(a0_3 ++ (⟨#[58,58]⟩ : ByteArray)).size + t106.size≤9223372036854775807
       ·rw[if_pos c27] at H;have c27b0:=eq_true c27;have c27b1:decide ((a0_3 ++ (⟨#[58,58]⟩ : ByteArray)).size + t106.size≤9223372036854775807)=true:=decide_eq_true c27;try have c27b2:(9223372036854775807 < (a0_3 ++ (⟨#[58,58]⟩ : ByteArray)).size + t106.size)=False:=eq_false (Nat.not_lt.2 c27)
        try (have c27b9:=c27b2;simp only[ByteArray.size_append,show(⟨#[58,58]⟩ : ByteArray).size=2 from rfl] at c27b9)
        obtain rfl:=Option.some.inj H;go_enter Tryz.func44,Tryz.ntmps44;try go_wp2_with (first|((with_reducible refine gate_dst (N:=1) rfl ?_);refine box_event ?hg (N:=1) ?hd (cs:=#[.int .i64 a0_0,.int .i64 a0_1,.string a0_2,.string a0_3]) (t:=30) ?hr ?_;(case hd=>rfl);(case hg=>rfl);(case hr=>first|(go_simp;done)|(go_simp;rfl));intro gb101 hg w28 hbox hb;have BK101:=U.mk (hbox);have GW101:=U.mk ((by rw[hg];exact(zq (by solve_by_elim only[HB.out,L,O,J])):w.heap.size≤gb101));have GE101:=GW101;replace HB:=U.mk (qx (by solve_by_elim only[HB.out,L,O,J]) hb);clear hb hbox hg;obtain⟨y29_0,y29_1,y29_2,y29_3,z29_0,z29_1,z29_2,z29_3⟩:=bx4f BK101.out)|((with_reducible refine zx (f:=64) rfl ?_);refine goesL_ (some 10) rfl rfl Tryz.func64 (by kernel_rfl) rfl #[.agg #[.int .i64 a0_0,.int .i64 a0_1,.string a0_2,.string a0_3]] rfl (by(try simp only[jq0,jq1,jq2]);first|done|rfl|(simp only[jq3,jq4];rfl)) ?_;(with_reducible refine(vw.calls k a0_0 a0_1 a0_2 a0_3 true _ A2.out).mono ?_);rintro e w30 ⟨rfl,hb⟩;refine⟨_,rfl,?_⟩;replace BK101:=U.mk (jx (by solve_by_elim only[BK101.out,qk,qv,qj]) hb);replace HB:=U.mk (qx (by solve_by_elim (maxDepth:=20) only[HB.out,L,O,J,qz,GE101.out]) hb);(try clear hb);obtain⟨y31_0,y31_1,y31_2,y31_3,z31_0,z31_1,z31_2,z31_3⟩:=bx4f BK101.out))
        replace BK101:=U.mk (qv BK101.out);replace HB:=U.mk (J HB.out);refine start_ (n:=8) (S:=fun w'=>w'.cell? ⟨gb101,0,none⟩ = some (.int .i64 a0_0)∧w'.cell? ⟨gb101,1,none⟩ = some (.int .i64 a0_1)∧w'.cell? ⟨gb101,2,none⟩ = some (.string a0_2)∧w'.cell? ⟨gb101,3,none⟩ = some (.string a0_3)) (ds:=[]) #[Y,Y,Y,Y,Y,Y,Y,Y] (by kernel_rfl) rfl rfl ⟨(qq BK101.out 0).trans rfl,(qq BK101.out 1).trans rfl,(qq BK101.out 2).trans rfl,(qq BK101.out 3).trans rfl⟩ (fun hHeld=>?_);refine with_tabW vk.tab11 vk.bits11 (fun HT_ HW_=>?_)
        generalize w30.drew=w32 at BK101 HB hHeld ⊢;refine pure_ (i:=0) (N:=some 32) (v:=?_) (a':=?_) #[Z,Y,Y,Y,Y,Y,Y,Y] rfl rfl (any_of HT_.out (by kernel_rfl)) (fun _ _ _ h=>h) (Or.inl ⟨by rfl,?_⟩) ?_ ?_;rotate_left
        ·intro w'
         go_simp
         with_reducible rfl
        rotate_left
        ·simp only[Act.put,jq5,jq6,jq7,i64_w,i32_w]
         rfl
        refine pure_ (i:=3) (N:=some 35) (v:=?_) (a':=?_) #[Z,Y,Y,Z,Y,Y,Y,Y] rfl rfl (any_of HT_.out (by kernel_rfl)) (fun _ _ _ h=>h) (Or.inl ⟨by rfl,?_⟩) ?_ ?_;rotate_left
        ·intro w'
         go_simp
         with_reducible rfl
        rotate_left
        ·simp only[Act.put,jq5,jq6,jq7,i64_w,i32_w]
         rfl
        refine take_ (i:=1) (N:=some 33) (v:=?_) (a':=?_) #[Z,Z,Y,Z,Y,Y,Y,Y] rfl rfl (take_ofW HT_.out HW_.out (by kernel_rfl)) (fun _ _ _ h=>h) (Or.inl ⟨by rfl,?_⟩) hHeld ?_ ?_;rotate_left
        ·rintro w' ⟨s0,s1,s2,s3⟩
         go_simp
         with_reducible rfl
        rotate_left
        ·simp only[Act.put,jq5,jq6,jq7,i64_w,i32_w]
         rfl
        refine pure_ (i:=2) (N:=some 34) (v:=?_) (a':=?_) #[Z,Z,Z,Z,Y,Y,Y,Y] rfl rfl (any_of HT_.out (by kernel_rfl)) (fun _ _ _ h=>h) (Or.inl ⟨by rfl,?_⟩) ?_ ?_;rotate_left
        ·intro w'
         go_simp
         with_reducible rfl
        rotate_left
        ·simp only[Act.put,jq5,jq6,jq7,i64_w,i32_w]
         rfl
        refine take_ (i:=4) (N:=some 36) (v:=?_) (a':=?_) #[Z,Z,Z,Z,Z,Y,Y,Y] rfl rfl (take_ofW HT_.out HW_.out (by kernel_rfl)) (fun _ _ _ h=>h) (Or.inl ⟨by rfl,?_⟩) hHeld ?_ ?_;rotate_left
        ·rintro w' ⟨s0,s1,s2,s3⟩
         go_simp
         with_reducible rfl
        rotate_left
        ·simp only[Act.put,jq5,jq6,jq7,i64_w,i32_w]
         rfl
        refine one_ (i:=5) (N:=some 37) #[Z,Z,Z,Z,Z,Z,Y,Y] rfl rfl (one_of HT_.out (by kernel_rfl)) (by decide) (fun K hK=>?_);refine goes_ Tryz.func73 (by kernel_rfl) rfl #[.string a0_2] (by rfl) rfl rfl (by(try simp only[jq0,jq1,jq2]);first|done|rfl|(simp only[jq3,jq4];rfl)) ?_
        with_reducible refine(qqk.calls a0_2 t106 _ A26.out).mono ?_
        rintro e w33 ⟨rfl,hb⟩
        refine⟨_,rfl,?_⟩;replace BK101:=U.mk (jx (by solve_by_elim only[BK101.out,qk,qv,qj]) hb);replace HB:=U.mk (qx (by solve_by_elim (maxDepth:=20) only[HB.out,L,O,J,qz,GE101.out]) hb)
        (try clear hb)
        (try clear hb2)
        (try clear hk)
        (try clear hi)
        refine hK.out _ _ (by(repeat' apply And.intro) <;> first|exact(qq BK101.out _).trans rfl) (fun hHeld=>?_);clear hK K;refine norm_ (a':=?_) ?_ ?_;rotate_left
        ·show Act.put _ (some 37) _=_
         simp only[Act.put,jq5,jq6,jq7,i64_w,i32_w]
         rfl
        refine pure_ (i:=6) (N:=some 38) (v:=?_) (a':=?_) #[Z,Z,Z,Z,Z,Z,Z,Y] rfl rfl (any_of HT_.out (by kernel_rfl)) (fun _ _ _ h=>h) (Or.inl ⟨by rfl,?_⟩) ?_ ?_;rotate_left
        ·intro w'
         go_simp
         with_reducible rfl
        rotate_left
        ·simp only[Act.put,jq5,jq6,jq7,i64_w,i32_w]
         rfl
        refine pure_ (i:=7) (N:=some 2) (v:=?_) (a':=?_) #[Z,Z,Z,Z,Z,Z,Z,Z] rfl rfl (any_of HT_.out (by kernel_rfl)) (fun _ _ _ h=>h) (Or.inl ⟨by rfl,?_⟩) ?_ ?_;rotate_left
        ·intro w'
         go_simp
         with_reducible rfl
        rotate_left
        ·simp only[Act.put,jq5,jq6,jq7,i64_w,i32_w]
         rfl
        refine done_ (done_of HT_.out (by kernel_rfl)) ?_;try go_wp2
        go_ret
        exact⟨by first|rfl|(simp[*,zw,zv] <;> rfl),by solve_by_elim (maxDepth:=20) only[HB.out,L,O,J,qz,GE101.out]⟩
       ·rw[if_neg c27] at H;exact absurd H (by simp)
      ·rw[if_neg c25] at H;exact absurd H (by simp)
     ·rw[if_neg c24] at H;have c24b0:(a0_0 == 4)=false:=beq_eq_false_iff_ne.mpr c24;have c24b1:(a0_0 != 4)=true:=bne_iff_ne.mpr c24
      by_cases c34:a0_0=5
      ·rw[if_pos c34] at H;have c34b0:(a0_0 == 5)=true:=beq_iff_eq.mpr c34;have c34b1:(a0_0 != 5)=false:=bne_eq_false_iff_eq.mpr c34;clear c34
       by_cases c35:a0_1 < 0
       ·rw[if_pos c35] at H;have c35b0:decide (a0_1 < 0)=true:=decide_eq_true c35;clear c35;replace H:=jq8.mp H;obtain⟨t107,A360,H⟩:=H;try dsimp only at H
        have A36:=U.mk A360;clear A360;replace H:=jq8.mp H;obtain⟨t108,A370,H⟩:=H;try dsimp only at H
        have A37:=U.mk A370;clear A370
        by_cases c38 : 1 + t108.size≤9223372036854775807
        ·rw[if_pos c38] at H;have c38b0:=eq_true c38;have c38b1:decide (1 + t108.size≤9223372036854775807)=true:=decide_eq_true c38;try have c38b2:(9223372036854775807 < 1 + t108.size)=False:=eq_false (Nat.not_lt.2 c38)
         by_cases c39:((⟨#[45]⟩ : ByteArray) ++ t108).size + 1≤9223372036854775807
         ·rw[if_pos c39] at H;have c39b0:=eq_true c39;have c39b1:decide (((⟨#[45]⟩ : ByteArray) ++ t108).size + 1≤9223372036854775807)=true:=decide_eq_true c39;try have c39b2:(9223372036854775807 < ((⟨#[45]⟩ : ByteArray) ++ t108).size + 1)=False:=eq_false (Nat.not_lt.2 c39)
          try (have c39b9:=c39b2;simp only[ByteArray.size_append,show(⟨#[45]⟩ : ByteArray).size=1 from rfl] at c39b9)
          by_cases c40 : 1≤(t107.size:Int)
          ·rw[if_pos c40] at H;have c40b0:=eq_true c40;have c40b1:decide (1≤(t107.size:Int))=true:=decide_eq_true c40;clear c40
           by_cases c41:(((⟨#[45]⟩ : ByteArray) ++ t108) ++ (⟨#[46]⟩ : ByteArray)).size + (t107.extract 1 t107.size).size≤9223372036854775807
           ·rw[if_pos c41] at H;have c41b0:=eq_true c41;have c41b1:decide ((((⟨#[45]⟩ : ByteArray) ++ t108) ++ (⟨#[46]⟩ : ByteArray)).size + (t107.extract 1 t107.size).size≤9223372036854775807)=true:=decide_eq_true c41;try have c41b2:(9223372036854775807 < (((⟨#[45]⟩ : ByteArray) ++ t108) ++ (⟨#[46]⟩ : ByteArray)).size + (t107.extract 1 t107.size).size)=False:=eq_false (Nat.not_lt.2 c41)
            have c41b5:(9223372036854775807 < 1 + t108.size + 1 + (t107.size - 1))=False:=eq_false (by
             have e_:=c41;simp only[ByteArray.size_append,ByteArray.size_extract,Nat.min_self,Nat.zero_add,show(⟨#[]⟩ : ByteArray).size=0 from rfl,show(⟨#[45]⟩ : ByteArray).size=1 from rfl,show(⟨#[46]⟩ : ByteArray).size=1 from rfl] at e_;exact Nat.not_lt.2 e_)
            try (have c41b9:=c41b2;simp only[ByteArray.size_append,show(⟨#[45]⟩ : ByteArray).size=1 from rfl,show(⟨#[46]⟩ : ByteArray).size=1 from rfl] at c41b9)
            obtain rfl:=Option.some.inj H;go_enter Tryz.func44,Tryz.ntmps44;try go_wp2_with (first|((with_reducible refine gate_dst (N:=1) rfl ?_);refine box_event ?hg (N:=1) ?hd (cs:=#[.int .i64 a0_0,.int .i64 a0_1,.string a0_2,.string a0_3]) (t:=30) ?hr ?_;(case hd=>rfl);(case hg=>rfl);(case hr=>first|(go_simp;done)|(go_simp;rfl));intro gb101 hg w42 hbox hb;have BK101:=U.mk (hbox);have GW101:=U.mk ((by rw[hg];exact(zq (by solve_by_elim only[HB.out,L,O,J])):w.heap.size≤gb101));have GE101:=GW101;replace HB:=U.mk (qx (by solve_by_elim only[HB.out,L,O,J]) hb);clear hb hbox hg;obtain⟨y43_0,y43_1,y43_2,y43_3,z43_0,z43_1,z43_2,z43_3⟩:=bx4f BK101.out)|((with_reducible refine zx (f:=64) rfl ?_);refine goesL_ (some 10) rfl rfl Tryz.func64 (by kernel_rfl) rfl #[.agg #[.int .i64 a0_0,.int .i64 a0_1,.string a0_2,.string a0_3]] rfl (by(try simp only[jq0,jq1,jq2]);first|done|rfl|(simp only[jq3,jq4];rfl)) ?_;(with_reducible refine(vw.calls k a0_0 a0_1 a0_2 a0_3 true _ A2.out).mono ?_);rintro e w44 ⟨rfl,hb⟩;refine⟨_,rfl,?_⟩;replace BK101:=U.mk (jx (by solve_by_elim only[BK101.out,qk,qv,qj]) hb);replace HB:=U.mk (qx (by solve_by_elim (maxDepth:=20) only[HB.out,L,O,J,qz,GE101.out]) hb);(try clear hb);obtain⟨y45_0,y45_1,y45_2,y45_3,z45_0,z45_1,z45_2,z45_3⟩:=bx4f BK101.out))
            replace BK101:=U.mk (qv BK101.out);replace HB:=U.mk (J HB.out);refine start_ (n:=5) (S:=fun w'=>w'.cell? ⟨gb101,0,none⟩ = some (.int .i64 a0_0)∧w'.cell? ⟨gb101,1,none⟩ = some (.int .i64 a0_1)∧w'.cell? ⟨gb101,2,none⟩ = some (.string a0_2)∧w'.cell? ⟨gb101,3,none⟩ = some (.string a0_3)) (ds:=[]) #[Y,Y,Y,Y,Y] (by kernel_rfl) rfl rfl ⟨(qq BK101.out 0).trans rfl,(qq BK101.out 1).trans rfl,(qq BK101.out 2).trans rfl,(qq BK101.out 3).trans rfl⟩ (fun hHeld=>?_);generalize w44.drew=w46 at BK101 HB hHeld ⊢;refine pure_ (i:=0) (N:=some 41) (v:=?_) (a':=?_) #[Z,Y,Y,Y,Y] rfl rfl (by kernel_rfl) (fun _ _ _ h=>h) (Or.inl ⟨by rfl,?_⟩) ?_ ?_;rotate_left
            ·intro w'
             go_simp
             with_reducible rfl
            rotate_left
            ·simp only[Act.put,jq5,jq6,jq7,i64_w,i32_w]
             rfl
            refine pure_ (i:=3) (N:=some 3) (v:=?_) (a':=?_) #[Z,Y,Y,Z,Y] rfl rfl (by kernel_rfl) (fun _ _ _ h=>h) (Or.inl ⟨by rfl,?_⟩) ?_ ?_;rotate_left
            ·intro w'
             go_simp
             with_reducible rfl
            rotate_left
            ·simp only[Act.put,jq5,jq6,jq7,i64_w,i32_w]
             rfl
            refine take_ (i:=1) (N:=some 42) (v:=?_) (a':=?_) #[Z,Z,Y,Z,Y] rfl rfl (by kernel_rfl) (fun _ _ _ h=>h) (Or.inl ⟨by rfl,?_⟩) hHeld ?_ ?_;rotate_left
            ·rintro w' ⟨s0,s1,s2,s3⟩
             go_simp
             with_reducible rfl
            rotate_left
            ·simp only[Act.put,jq5,jq6,jq7,i64_w,i32_w]
             rfl
            refine pure_ (i:=2) (N:=some 43) (v:=?_) (a':=?_) #[Z,Z,Z,Z,Y] rfl rfl (by kernel_rfl) (fun _ _ _ h=>h) (Or.inl ⟨by rfl,?_⟩) ?_ ?_;rotate_left
            ·intro w'
             go_simp
             with_reducible rfl
            rotate_left
            ·simp only[Act.put,jq5,jq6,jq7,i64_w,i32_w]
             rfl
            refine pure_ (i:=4) (N:=some 4) (v:=?_) (a':=?_) #[Z,Z,Z,Z,Z] rfl rfl (by kernel_rfl) (fun _ _ _ h=>h) (Or.inl ⟨by rfl,?_⟩) ?_ ?_;rotate_left
            ·intro w'
             go_simp
             with_reducible rfl
            rotate_left
            ·simp only[Act.put,jq5,jq6,jq7,i64_w,i32_w]
             rfl
            refine done_ (by kernel_rfl) ?_;obtain⟨y47_0,y47_1,y47_2,y47_3,z47_0,z47_1,z47_2,z47_3⟩:=bx4f BK101.out;try go_wp2_with (first|((with_reducible refine zx (f:=74) rfl ?_);refine goesL_ (some 52) rfl rfl Tryz.func74 (by kernel_rfl) rfl #[.int .u64 (IntKind.u64.wrap ((Int.tmod (IntKind.u64.wrap (-(IntKind.u64.wrap (a0_1)))) 10000) + 10000)),.int .i64 10] rfl (by(try simp only[jq0,jq1,jq2]);first|done|rfl|(simp only[jq3,jq4];rfl)) ?_;(with_reducible refine(zqw.calls (IntKind.u64.wrap ((Int.tmod (IntKind.u64.wrap (-(IntKind.u64.wrap (a0_1)))) 10000) + 10000)) 10 t107 _ ?tabw A36.out).mono ?_);(case tabw=>first|(with_reducible first|exact HTAB.out|exact TabW_below HTAB.out HB.out)|exact TabW_below HTAB.out (by with_reducible repeat(first|exact HB.out|apply L|apply O|apply J|refine qz ?_ GE101.out))|(repeat(first|exact HTAB.out|exact TabW_below HTAB.out HB.out|(with_reducible refine TabW_drewN ?_ _)|(with_reducible refine TabW_drew ?_)|(with_reducible refine TabW_alloc ?_ _))));rintro e w48 ⟨rfl,hb⟩;refine⟨_,rfl,?_⟩;replace BK101:=U.mk (jx (by solve_by_elim only[BK101.out,qk,qv,qj]) hb);replace HB:=U.mk (qx (by solve_by_elim (maxDepth:=20) only[HB.out,L,O,J,qz,GE101.out]) hb);(try clear hb)))
            replace BK101:=U.mk (qv BK101.out);replace HB:=U.mk (J HB.out);refine start_ (n:=10) (S:=fun w'=>True) (ds:=[]) #[Y,Y,Y,Y,Y,Y,Y,Y,Y,Y] (by kernel_rfl) rfl rfl trivial (fun hHeld=>?_);refine with_tabW vk.tab17 vk.bits17 (fun HT_ HW_=>?_)
            generalize w48.drew=w49 at BK101 HB hHeld ⊢;refine pure_ (i:=0) (N:=some 53) (v:=?_) (a':=?_) #[Z,Y,Y,Y,Y,Y,Y,Y,Y,Y] rfl rfl (any_of HT_.out (by kernel_rfl)) (fun _ _ _ h=>h) (Or.inl ⟨by rfl,?_⟩) ?_ ?_;rotate_left
            ·intro w'
             go_simp
             with_reducible rfl
            rotate_left
            ·simp only[Act.put,jq5,jq6,jq7,i64_w,i32_w]
             rfl
            refine pure_ (i:=1) (N:=some 54) (v:=?_) (a':=?_) #[Z,Z,Y,Y,Y,Y,Y,Y,Y,Y] rfl rfl (any_of HT_.out (by kernel_rfl)) (fun _ _ _ h=>h) (Or.inl ⟨by rfl,?_⟩) ?_ ?_;rotate_left
            ·intro w'
             go_simp
             with_reducible rfl
            rotate_left
            ·simp only[Act.put,jq5,jq6,jq7,i64_w,i32_w]
             rfl
            refine pure_ (i:=2) (N:=some 55) (v:=?_) (a':=?_) #[Z,Z,Z,Y,Y,Y,Y,Y,Y,Y] rfl rfl (any_of HT_.out (by kernel_rfl)) (fun _ _ _ h=>h) (Or.inl ⟨by rfl,?_⟩) ?_ ?_;rotate_left
            ·intro w'
             go_simp
             with_reducible rfl
            rotate_left
            ·simp only[Act.put,jq5,jq6,jq7,i64_w,i32_w]
             rfl
            refine pure_ (i:=6) (N:=some 59) (v:=?_) (a':=?_) #[Z,Z,Z,Y,Y,Y,Z,Y,Y,Y] rfl rfl (any_of HT_.out (by kernel_rfl)) (fun _ _ _ h=>h) (Or.inl ⟨by rfl,?_⟩) ?_ ?_;rotate_left
            ·intro w'
             go_simp
             with_reducible rfl
            rotate_left
            ·simp only[Act.put,jq5,jq6,jq7,i64_w,i32_w]
             rfl
            refine pure_ (i:=7) (N:=some 60) (v:=?_) (a':=?_) #[Z,Z,Z,Y,Y,Y,Z,Z,Y,Y] rfl rfl (any_of HT_.out (by kernel_rfl)) (fun _ _ _ h=>h) (Or.inl ⟨by rfl,?_⟩) ?_ ?_;rotate_left
            ·intro w'
             go_simp
             with_reducible rfl
            rotate_left
            ·simp only[Act.put,jq5,jq6,jq7,i64_w,i32_w]
             rfl
            refine one_ (i:=3) (N:=some 56) #[Z,Z,Z,Z,Y,Y,Z,Z,Y,Y] rfl rfl (one_of HT_.out (by kernel_rfl)) (by decide) (fun K hK=>?_);refine goes_ Tryz.func74 (by kernel_rfl) rfl #[.int .u64 (IntKind.u64.wrap (Int.tdiv (IntKind.u64.wrap (-(IntKind.u64.wrap (a0_1)))) 10000)),.int .i64 10] (by rfl) rfl rfl (by(try simp only[jq0,jq1,jq2]);first|done|rfl|(simp only[jq3,jq4];rfl)) ?_
            with_reducible refine(zqw.calls (IntKind.u64.wrap (Int.tdiv (IntKind.u64.wrap (-(IntKind.u64.wrap (a0_1)))) 10000)) 10 t108 _ ?tabw A37.out).mono ?_
            (case tabw=>repeat(first|exact HTAB.out|exact TabW_below HTAB.out HB.out|(with_reducible refine TabW_drewN ?_ _)|(with_reducible refine TabW_drew ?_)|(with_reducible refine TabW_alloc ?_ _)))
            rintro e w50 ⟨rfl,hb⟩
            refine⟨_,rfl,?_⟩;replace BK101:=U.mk (jx (by solve_by_elim only[BK101.out,qk,qv,qj]) hb);replace HB:=U.mk (qx (by solve_by_elim (maxDepth:=20) only[HB.out,L,O,J,qz,GE101.out]) hb)
            (try clear hb)
            (try clear hb2)
            (try clear hk)
            (try clear hi)
            refine hK.out _ _ trivial (fun hHeld=>?_);clear hK K;refine norm_ (a':=?_) ?_ ?_;rotate_left
            ·show Act.put _ (some 56) _=_
             simp only[Act.put,jq5,jq6,jq7,i64_w,i32_w]
             rfl
            refine pure_ (i:=4) (N:=some 57) (v:=?_) (a':=?_) #[Z,Z,Z,Z,Z,Y,Z,Z,Y,Y] rfl rfl (any_of HT_.out (by kernel_rfl)) (fun _ _ _ h=>h) (Or.inl ⟨by rfl,?_⟩) ?_ ?_;rotate_left
            ·intro w'
             go_simp
             with_reducible rfl
            rotate_left
            ·simp only[Act.put,jq5,jq6,jq7,i64_w,i32_w]
             rfl
            refine pure_ (i:=5) (N:=some 58) (v:=?_) (a':=?_) #[Z,Z,Z,Z,Z,Z,Z,Z,Y,Y] rfl rfl (any_of HT_.out (by kernel_rfl)) (fun _ _ _ h=>h) (Or.inl ⟨by rfl,?_⟩) ?_ ?_;rotate_left
            ·intro w'
             go_simp
             with_reducible rfl
            rotate_left
            ·simp only[Act.put,jq5,jq6,jq7,i64_w,i32_w]
             rfl
            refine pure_ (i:=8) (N:=some 61) (v:=?_) (a':=?_) #[Z,Z,Z,Z,Z,Z,Z,Z,Z,Y] rfl rfl (any_of HT_.out (by kernel_rfl)) (fun _ _ _ h=>h) (Or.inl ⟨by rfl,?_⟩) ?_ ?_;rotate_left
            ·intro w'
             go_simp
             with_reducible rfl
            rotate_left
            ·simp only[Act.put,jq5,jq6,jq7,i64_w,i32_w]
             rfl
            refine pure_ (i:=9) (N:=some 2) (v:=?_) (a':=?_) #[Z,Z,Z,Z,Z,Z,Z,Z,Z,Z] rfl rfl (any_of HT_.out (by kernel_rfl)) (fun _ _ _ h=>h) (Or.inl ⟨by rfl,?_⟩) ?_ ?_;rotate_left
            ·intro w'
             go_simp
             with_reducible rfl
            rotate_left
            ·simp only[Act.put,jq5,jq6,jq7,i64_w,i32_w]
             rfl
            refine done_ (done_of HT_.out (by kernel_rfl)) ?_;try go_wp2
            go_ret
            exact⟨by first|rfl|(simp[*,zw,zv] <;> rfl),by solve_by_elim (maxDepth:=20) only[HB.out,L,O,J,qz,GE101.out]⟩
           ·rw[if_neg c41] at H;exact absurd H (by simp)
          ·rw[if_neg c40] at H;exact absurd H (by simp)
         ·rw[if_neg c39] at H;exact absurd H (by simp)
        ·rw[if_neg c38] at H;exact absurd H (by simp)
       ·rw[if_neg c35] at H;have c35b0:decide (a0_1 < 0)=false:=decide_eq_false c35;clear c35;replace H:=jq8.mp H;obtain⟨t109,A510,H⟩:=H;try dsimp only at H
        have A51:=U.mk A510;clear A510;replace H:=jq8.mp H;obtain⟨t110,A520,H⟩:=H;try dsimp only at H
        have A52:=U.mk A520;clear A520
        by_cases c53 : 0 + t110.size≤9223372036854775807
        ·rw[if_pos c53] at H;have c53b0:=eq_true c53;have c53b1:decide (0 + t110.size≤9223372036854775807)=true:=decide_eq_true c53;try have c53b2:(9223372036854775807 < 0 + t110.size)=False:=eq_false (Nat.not_lt.2 c53)
         have c53b5:(9223372036854775807 < t110.size)=False:=eq_false (by
          have e_:=c53;simp only[ByteArray.size_append,ByteArray.size_extract,Nat.min_self,Nat.zero_add,show(⟨#[]⟩ : ByteArray).size=0 from rfl,show(⟨#[45]⟩ : ByteArray).size=1 from rfl,show(⟨#[46]⟩ : ByteArray).size=1 from rfl] at e_;exact Nat.not_lt.2 e_)
         by_cases c54:((⟨#[]⟩ : ByteArray) ++ t110).size + 1≤9223372036854775807
         ·rw[if_pos c54] at H;have c54b0:=eq_true c54;have c54b1:decide (((⟨#[]⟩ : ByteArray) ++ t110).size + 1≤9223372036854775807)=true:=decide_eq_true c54;try have c54b2:(9223372036854775807 < ((⟨#[]⟩ : ByteArray) ++ t110).size + 1)=False:=eq_false (Nat.not_lt.2 c54)
          have c54b5:(9223372036854775807 < t110.size + 1)=False:=eq_false (by
           have e_:=c54;simp only[ByteArray.size_append,ByteArray.size_extract,Nat.min_self,Nat.zero_add,show(⟨#[]⟩ : ByteArray).size=0 from rfl,show(⟨#[45]⟩ : ByteArray).size=1 from rfl,show(⟨#[46]⟩ : ByteArray).size=1 from rfl] at e_;exact Nat.not_lt.2 e_)
          try (have c54b9:=c54b2;simp only[ByteArray.size_append,show(⟨#[]⟩ : ByteArray).size=0 from rfl] at c54b9)
          by_cases c55 : 1≤(t109.size:Int)
          ·rw[if_pos c55] at H;have c55b0:=eq_true c55;have c55b1:decide (1≤(t109.size:Int))=true:=decide_eq_true c55;clear c55
           by_cases c56:(((⟨#[]⟩ : ByteArray) ++ t110) ++ (⟨#[46]⟩ : ByteArray)).size + (t109.extract 1 t109.size).size≤9223372036854775807
           ·rw[if_pos c56] at H;have c56b0:=eq_true c56;have c56b1:decide ((((⟨#[]⟩ : ByteArray) ++ t110) ++ (⟨#[46]⟩ : ByteArray)).size + (t109.extract 1 t109.size).size≤9223372036854775807)=true:=decide_eq_true c56;try have c56b2:(9223372036854775807 < (((⟨#[]⟩ : ByteArray) ++ t110) ++ (⟨#[46]⟩ : ByteArray)).size + (t109.extract 1 t109.size).size)=False:=eq_false (Nat.not_lt.2 c56)
            have c56b5:(9223372036854775807 < t110.size + 1 + (t109.size - 1))=False:=eq_false (by
             have e_:=c56;simp only[ByteArray.size_append,ByteArray.size_extract,Nat.min_self,Nat.zero_add,show(⟨#[]⟩ : ByteArray).size=0 from rfl,show(⟨#[45]⟩ : ByteArray).size=1 from rfl,show(⟨#[46]⟩ : ByteArray).size=1 from rfl] at e_;exact Nat.not_lt.2 e_)
            try (have c56b9:=c56b2;simp only[ByteArray.size_append,show(⟨#[]⟩ : ByteArray).size=0 from rfl,show(⟨#[46]⟩ : ByteArray).size=1 from rfl] at c56b9)
            obtain rfl:=Option.some.inj H;go_enter Tryz.func44,Tryz.ntmps44;try go_wp2_with (first|((with_reducible refine gate_dst (N:=1) rfl ?_);refine box_event ?hg (N:=1) ?hd (cs:=#[.int .i64 a0_0,.int .i64 a0_1,.string a0_2,.string a0_3]) (t:=30) ?hr ?_;(case hd=>rfl);(case hg=>rfl);(case hr=>first|(go_simp;done)|(go_simp;rfl));intro gb101 hg w57 hbox hb;have BK101:=U.mk (hbox);have GW101:=U.mk ((by rw[hg];exact(zq (by solve_by_elim only[HB.out,L,O,J])):w.heap.size≤gb101));have GE101:=GW101;replace HB:=U.mk (qx (by solve_by_elim only[HB.out,L,O,J]) hb);clear hb hbox hg;obtain⟨y58_0,y58_1,y58_2,y58_3,z58_0,z58_1,z58_2,z58_3⟩:=bx4f BK101.out)|((with_reducible refine zx (f:=64) rfl ?_);refine goesL_ (some 10) rfl rfl Tryz.func64 (by kernel_rfl) rfl #[.agg #[.int .i64 a0_0,.int .i64 a0_1,.string a0_2,.string a0_3]] rfl (by(try simp only[jq0,jq1,jq2]);first|done|rfl|(simp only[jq3,jq4];rfl)) ?_;(with_reducible refine(vw.calls k a0_0 a0_1 a0_2 a0_3 true _ A2.out).mono ?_);rintro e w59 ⟨rfl,hb⟩;refine⟨_,rfl,?_⟩;replace BK101:=U.mk (jx (by solve_by_elim only[BK101.out,qk,qv,qj]) hb);replace HB:=U.mk (qx (by solve_by_elim (maxDepth:=20) only[HB.out,L,O,J,qz,GE101.out]) hb);(try clear hb);obtain⟨y60_0,y60_1,y60_2,y60_3,z60_0,z60_1,z60_2,z60_3⟩:=bx4f BK101.out))
            replace BK101:=U.mk (qv BK101.out);replace HB:=U.mk (J HB.out);refine start_ (n:=5) (S:=fun w'=>w'.cell? ⟨gb101,0,none⟩ = some (.int .i64 a0_0)∧w'.cell? ⟨gb101,1,none⟩ = some (.int .i64 a0_1)∧w'.cell? ⟨gb101,2,none⟩ = some (.string a0_2)∧w'.cell? ⟨gb101,3,none⟩ = some (.string a0_3)) (ds:=[]) #[Y,Y,Y,Y,Y] (by kernel_rfl) rfl rfl ⟨(qq BK101.out 0).trans rfl,(qq BK101.out 1).trans rfl,(qq BK101.out 2).trans rfl,(qq BK101.out 3).trans rfl⟩ (fun hHeld=>?_);generalize w59.drew=w61 at BK101 HB hHeld ⊢;refine pure_ (i:=0) (N:=some 41) (v:=?_) (a':=?_) #[Z,Y,Y,Y,Y] rfl rfl (by kernel_rfl) (fun _ _ _ h=>h) (Or.inl ⟨by rfl,?_⟩) ?_ ?_;rotate_left
            ·intro w'
             go_simp
             with_reducible rfl
            rotate_left
            ·simp only[Act.put,jq5,jq6,jq7,i64_w,i32_w]
             rfl
            refine pure_ (i:=3) (N:=some 3) (v:=?_) (a':=?_) #[Z,Y,Y,Z,Y] rfl rfl (by kernel_rfl) (fun _ _ _ h=>h) (Or.inl ⟨by rfl,?_⟩) ?_ ?_;rotate_left
            ·intro w'
             go_simp
             with_reducible rfl
            rotate_left
            ·simp only[Act.put,jq5,jq6,jq7,i64_w,i32_w]
             rfl
            refine take_ (i:=1) (N:=some 42) (v:=?_) (a':=?_) #[Z,Z,Y,Z,Y] rfl rfl (by kernel_rfl) (fun _ _ _ h=>h) (Or.inl ⟨by rfl,?_⟩) hHeld ?_ ?_;rotate_left
            ·rintro w' ⟨s0,s1,s2,s3⟩
             go_simp
             with_reducible rfl
            rotate_left
            ·simp only[Act.put,jq5,jq6,jq7,i64_w,i32_w]
             rfl
            refine pure_ (i:=2) (N:=some 43) (v:=?_) (a':=?_) #[Z,Z,Z,Z,Y] rfl rfl (by kernel_rfl) (fun _ _ _ h=>h) (Or.inl ⟨by rfl,?_⟩) ?_ ?_;rotate_left
            ·intro w'
             go_simp
             with_reducible rfl
            rotate_left
            ·simp only[Act.put,jq5,jq6,jq7,i64_w,i32_w]
             rfl
            refine pure_ (i:=4) (N:=some 4) (v:=?_) (a':=?_) #[Z,Z,Z,Z,Z] rfl rfl (by kernel_rfl) (fun _ _ _ h=>h) (Or.inl ⟨by rfl,?_⟩) ?_ ?_;rotate_left
            ·intro w'
             go_simp
             with_reducible rfl
            rotate_left
            ·simp only[Act.put,jq5,jq6,jq7,i64_w,i32_w]
             rfl
            refine done_ (by kernel_rfl) ?_;obtain⟨y62_0,y62_1,y62_2,y62_3,z62_0,z62_1,z62_2,z62_3⟩:=bx4f BK101.out;try go_wp2_with (first|((with_reducible refine zx (f:=74) rfl ?_);refine goesL_ (some 52) rfl rfl Tryz.func74 (by kernel_rfl) rfl #[.int .u64 (IntKind.u64.wrap ((Int.tmod (IntKind.u64.wrap (a0_1)) 10000) + 10000)),.int .i64 10] rfl (by(try simp only[jq0,jq1,jq2]);first|done|rfl|(simp only[jq3,jq4];rfl)) ?_;(with_reducible refine(zqw.calls (IntKind.u64.wrap ((Int.tmod (IntKind.u64.wrap (a0_1)) 10000) + 10000)) 10 t109 _ ?tabw A51.out).mono ?_);(case tabw=>first|(with_reducible first|exact HTAB.out|exact TabW_below HTAB.out HB.out)|exact TabW_below HTAB.out (by with_reducible repeat(first|exact HB.out|apply L|apply O|apply J|refine qz ?_ GE101.out))|(repeat(first|exact HTAB.out|exact TabW_below HTAB.out HB.out|(with_reducible refine TabW_drewN ?_ _)|(with_reducible refine TabW_drew ?_)|(with_reducible refine TabW_alloc ?_ _))));rintro e w63 ⟨rfl,hb⟩;refine⟨_,rfl,?_⟩;replace BK101:=U.mk (jx (by solve_by_elim only[BK101.out,qk,qv,qj]) hb);replace HB:=U.mk (qx (by solve_by_elim (maxDepth:=20) only[HB.out,L,O,J,qz,GE101.out]) hb);(try clear hb)))
            replace BK101:=U.mk (qv BK101.out);replace HB:=U.mk (J HB.out);refine start_ (n:=10) (S:=fun w'=>True) (ds:=[]) #[Y,Y,Y,Y,Y,Y,Y,Y,Y,Y] (by kernel_rfl) rfl rfl trivial (fun hHeld=>?_);refine with_tabW vk.tab17 vk.bits17 (fun HT_ HW_=>?_)
            generalize w63.drew=w64 at BK101 HB hHeld ⊢;refine pure_ (i:=0) (N:=some 53) (v:=?_) (a':=?_) #[Z,Y,Y,Y,Y,Y,Y,Y,Y,Y] rfl rfl (any_of HT_.out (by kernel_rfl)) (fun _ _ _ h=>h) (Or.inl ⟨by rfl,?_⟩) ?_ ?_;rotate_left
            ·intro w'
             go_simp
             with_reducible rfl
            rotate_left
            ·simp only[Act.put,jq5,jq6,jq7,i64_w,i32_w]
             rfl
            refine pure_ (i:=1) (N:=some 54) (v:=?_) (a':=?_) #[Z,Z,Y,Y,Y,Y,Y,Y,Y,Y] rfl rfl (any_of HT_.out (by kernel_rfl)) (fun _ _ _ h=>h) (Or.inl ⟨by rfl,?_⟩) ?_ ?_;rotate_left
            ·intro w'
             go_simp
             with_reducible rfl
            rotate_left
            ·simp only[Act.put,jq5,jq6,jq7,i64_w,i32_w]
             rfl
            refine pure_ (i:=2) (N:=some 55) (v:=?_) (a':=?_) #[Z,Z,Z,Y,Y,Y,Y,Y,Y,Y] rfl rfl (any_of HT_.out (by kernel_rfl)) (fun _ _ _ h=>h) (Or.inl ⟨by rfl,?_⟩) ?_ ?_;rotate_left
            ·intro w'
             go_simp
             with_reducible rfl
            rotate_left
            ·simp only[Act.put,jq5,jq6,jq7,i64_w,i32_w]
             rfl
            refine pure_ (i:=6) (N:=some 59) (v:=?_) (a':=?_) #[Z,Z,Z,Y,Y,Y,Z,Y,Y,Y] rfl rfl (any_of HT_.out (by kernel_rfl)) (fun _ _ _ h=>h) (Or.inl ⟨by rfl,?_⟩) ?_ ?_;rotate_left
            ·intro w'
             go_simp
             with_reducible rfl
            rotate_left
            ·simp only[Act.put,jq5,jq6,jq7,i64_w,i32_w]
             rfl
            refine pure_ (i:=7) (N:=some 60) (v:=?_) (a':=?_) #[Z,Z,Z,Y,Y,Y,Z,Z,Y,Y] rfl rfl (any_of HT_.out (by kernel_rfl)) (fun _ _ _ h=>h) (Or.inl ⟨by rfl,?_⟩) ?_ ?_;rotate_left
            ·intro w'
             go_simp
             with_reducible rfl
            rotate_left
            ·simp only[Act.put,jq5,jq6,jq7,i64_w,i32_w]
             rfl
            refine one_ (i:=3) (N:=some 56) #[Z,Z,Z,Z,Y,Y,Z,Z,Y,Y] rfl rfl (one_of HT_.out (by kernel_rfl)) (by decide) (fun K hK=>?_);refine goes_ Tryz.func74 (by kernel_rfl) rfl #[.int .u64 (IntKind.u64.wrap (Int.tdiv (IntKind.u64.wrap (a0_1)) 10000)),.int .i64 10] (by rfl) rfl rfl (by(try simp only[jq0,jq1,jq2]);first|done|rfl|(simp only[jq3,jq4];rfl)) ?_
            with_reducible refine(zqw.calls (IntKind.u64.wrap (Int.tdiv (IntKind.u64.wrap (a0_1)) 10000)) 10 t110 _ ?tabw A52.out).mono ?_
            (case tabw=>repeat(first|exact HTAB.out|exact TabW_below HTAB.out HB.out|(with_reducible refine TabW_drewN ?_ _)|(with_reducible refine TabW_drew ?_)|(with_reducible refine TabW_alloc ?_ _)))
            rintro e w65 ⟨rfl,hb⟩
            refine⟨_,rfl,?_⟩;replace BK101:=U.mk (jx (by solve_by_elim only[BK101.out,qk,qv,qj]) hb);replace HB:=U.mk (qx (by solve_by_elim (maxDepth:=20) only[HB.out,L,O,J,qz,GE101.out]) hb)
            (try clear hb)
            (try clear hb2)
            (try clear hk)
            (try clear hi)
            refine hK.out _ _ trivial (fun hHeld=>?_);clear hK K;refine norm_ (a':=?_) ?_ ?_;rotate_left
            ·show Act.put _ (some 56) _=_
             simp only[Act.put,jq5,jq6,jq7,i64_w,i32_w]
             rfl
            refine pure_ (i:=4) (N:=some 57) (v:=?_) (a':=?_) #[Z,Z,Z,Z,Z,Y,Z,Z,Y,Y] rfl rfl (any_of HT_.out (by kernel_rfl)) (fun _ _ _ h=>h) (Or.inl ⟨by rfl,?_⟩) ?_ ?_;rotate_left
            ·intro w'
             go_simp
             with_reducible rfl
            rotate_left
            ·simp only[Act.put,jq5,jq6,jq7,i64_w,i32_w]
             rfl
            refine pure_ (i:=5) (N:=some 58) (v:=?_) (a':=?_) #[Z,Z,Z,Z,Z,Z,Z,Z,Y,Y] rfl rfl (any_of HT_.out (by kernel_rfl)) (fun _ _ _ h=>h) (Or.inl ⟨by rfl,?_⟩) ?_ ?_;rotate_left
            ·intro w'
             go_simp
             with_reducible rfl
            rotate_left
            ·simp only[Act.put,jq5,jq6,jq7,i64_w,i32_w]
             rfl
            refine pure_ (i:=8) (N:=some 61) (v:=?_) (a':=?_) #[Z,Z,Z,Z,Z,Z,Z,Z,Z,Y] rfl rfl (any_of HT_.out (by kernel_rfl)) (fun _ _ _ h=>h) (Or.inl ⟨by rfl,?_⟩) ?_ ?_;rotate_left
            ·intro w'
             go_simp
             with_reducible rfl
            rotate_left
            ·simp only[Act.put,jq5,jq6,jq7,i64_w,i32_w]
             rfl
            refine pure_ (i:=9) (N:=some 2) (v:=?_) (a':=?_) #[Z,Z,Z,Z,Z,Z,Z,Z,Z,Z] rfl rfl (any_of HT_.out (by kernel_rfl)) (fun _ _ _ h=>h) (Or.inl ⟨by rfl,?_⟩) ?_ ?_;rotate_left
            ·intro w'
             go_simp
             with_reducible rfl
            rotate_left
            ·simp only[Act.put,jq5,jq6,jq7,i64_w,i32_w]
             rfl
            refine done_ (done_of HT_.out (by kernel_rfl)) ?_;try go_wp2
            go_ret
            exact⟨by first|rfl|(simp[*,zw,zv] <;> rfl),by solve_by_elim (maxDepth:=20) only[HB.out,L,O,J,qz,GE101.out]⟩
           ·rw[if_neg c56] at H;exact absurd H (by simp)
          ·rw[if_neg c55] at H;exact absurd H (by simp)
         ·rw[if_neg c54] at H;exact absurd H (by simp)
        ·rw[if_neg c53] at H;exact absurd H (by simp)
      ·rw[if_neg c34] at H;have c34b0:(a0_0 == 5)=false:=beq_eq_false_iff_ne.mpr c34;have c34b1:(a0_0 != 5)=true:=bne_iff_ne.mpr c34
       by_cases c66:a0_0=6
       ·rw[if_pos c66] at H;have c66b0:(a0_0 == 6)=true:=beq_iff_eq.mpr c66;have c66b1:(a0_0 != 6)=false:=bne_eq_false_iff_eq.mpr c66;clear c66;have H':=U.mk H;clear H;go_enter Tryz.func44,Tryz.ntmps44;go_wp2_with (first|((with_reducible refine gate_dst (N:=1) rfl ?_);refine box_event ?hg (N:=1) ?hd (cs:=#[.int .i64 a0_0,.int .i64 a0_1,.string a0_2,.string a0_3]) (t:=30) ?hr ?_;(case hd=>rfl);(case hg=>rfl);(case hr=>first|(go_simp;done)|(go_simp;rfl));intro gb101 hg w67 hbox hb;have BK101:=U.mk (hbox);have GW101:=U.mk ((by rw[hg];exact(zq (by solve_by_elim only[HB.out,L,O,J])):w.heap.size≤gb101));have GE101:=GW101;replace HB:=U.mk (qx (by solve_by_elim only[HB.out,L,O,J]) hb);clear hb hbox hg;obtain⟨y68_0,y68_1,y68_2,y68_3,z68_0,z68_1,z68_2,z68_3⟩:=bx4f BK101.out)|((with_reducible refine zx (f:=64) rfl ?_);refine goesL_ (some 10) rfl rfl Tryz.func64 (by kernel_rfl) rfl #[.agg #[.int .i64 a0_0,.int .i64 a0_1,.string a0_2,.string a0_3]] rfl (by(try simp only[jq0,jq1,jq2]);first|done|rfl|(simp only[jq3,jq4];rfl)) ?_;(with_reducible refine(vw.calls k a0_0 a0_1 a0_2 a0_3 true _ A2.out).mono ?_);rintro e w69 ⟨rfl,hb⟩;refine⟨_,rfl,?_⟩;replace BK101:=U.mk (jx (by solve_by_elim only[BK101.out,qk,qv,qj]) hb);replace HB:=U.mk (qx (by solve_by_elim (maxDepth:=20) only[HB.out,L,O,J,qz,GE101.out]) hb);(try clear hb);obtain⟨y70_0,y70_1,y70_2,y70_3,z70_0,z70_1,z70_2,z70_3⟩:=bx4f BK101.out))
        go_loopg [7,8] k (fun kq v7 v8 w'=>∃ (x7_1:ByteArray) (x8_1:Int),v7=.string x7_1∧v8=.int .i64 x8_1∧U (vk.l0 kq (wrap64 (Int.tdiv a0_1 64)) x7_1 x8_1 a0_0 a0_1 a0_2 a0_3=some r)∧U (kq≤k)∧U (w'.heap[gb101]? = some (.cells #[.int .i64 a0_0,.int .i64 a0_1,.string a0_2,.string a0_3] 30 (0,0)))∧U (Below w.heap.size w w'))
        case atStart=>exact⟨((⟨#[]⟩ : ByteArray)),(24),(by first|rfl|(simp;done)|(simp[*];done)),(by first|rfl|(simp;done)|(simp[*];done)),H',⟨Nat.le_refl _⟩,⟨by(with_reducible repeat(first|refine qk ?_ _|refine qv ?_|refine qj ?_ _));exact BK101.out⟩,⟨by solve_by_elim (maxDepth:=20) only[HB.out,L,O,J,qz,GE101.out]⟩⟩
        case round =>
         clear H';try clear c1
         try clear c2
         try clear p2
         try clear c3
         try clear c4
         try clear c5
         try clear c6
         try clear p6
         try clear c7
         try clear c10
         try clear c10b0
         try clear c10b1
         try clear c17
         try clear c17b0
         try clear c17b1
         try clear c24
         try clear c24b0
         try clear c24b1
         try clear c25
         try clear c25b0
         try clear c25b1
         try clear c25b2
         try clear c27
         try clear c27b0
         try clear c27b1
         try clear c27b2
         try clear c34
         try clear c34b0
         try clear c34b1
         try clear c35
         try clear c35b0
         try clear c38
         try clear c38b0
         try clear c38b1
         try clear c38b2
         try clear c39
         try clear c39b0
         try clear c39b1
         try clear c39b2
         try clear c40
         try clear c40b0
         try clear c40b1
         try clear c41
         try clear c41b0
         try clear c41b1
         try clear c41b2
         try clear c44
         try clear c53
         try clear c53b0
         try clear c53b1
         try clear c53b2
         try clear c54
         try clear c54b0
         try clear c54b1
         try clear c54b2
         try clear c55
         try clear c55b0
         try clear c55b1
         try clear c56
         try clear c56b0
         try clear c56b1
         try clear c56b2
         try clear c64
         try clear p64
         try clear c66
         try clear c66b0
         try clear c66b1
         try clear y13_0 y13_1 y13_2 y13_3 z13_0 z13_1 z13_2 z13_3
         try clear y15_0 y15_1 y15_2 y15_3 z15_0 z15_1 z15_2 z15_3
         try clear y20_0 y20_1 y20_2 y20_3 z20_0 z20_1 z20_2 z20_3
         try clear y22_0 y22_1 y22_2 y22_3 z22_0 z22_1 z22_2 z22_3
         try clear y29_0 y29_1 y29_2 y29_3 z29_0 z29_1 z29_2 z29_3
         try clear y31_0 y31_1 y31_2 y31_3 z31_0 z31_1 z31_2 z31_3
         try clear y43_0 y43_1 y43_2 y43_3 z43_0 z43_1 z43_2 z43_3
         try clear y45_0 y45_1 y45_2 y45_3 z45_0 z45_1 z45_2 z45_3
         try clear y47_0 y47_1 y47_2 y47_3 z47_0 z47_1 z47_2 z47_3
         try clear y58_0 y58_1 y58_2 y58_3 z58_0 z58_1 z58_2 z58_3
         try clear y60_0 y60_1 y60_2 y60_3 z60_0 z60_1 z60_2 z60_3
         try clear y62_0 y62_1 y62_2 y62_3 z62_0 z62_1 z62_2 z62_3
         try clear y68_0 y68_1 y68_2 y68_3 z68_0 z68_1 z68_2 z68_3
         try clear y70_0 y70_1 y70_2 y70_3 z70_0 z70_1 z70_2 z70_3
         obtain⟨x7_1,x8_1,rfl,rfl,HA,HK1,BK101,HB⟩:=hrel
         cases gk with
         | zero=>exact absurd HA.out (by simp[vk.l0])
         | succ k1 =>
          have H:=HA.out;clear HA;simp only[vk.l0] at H
          by_cases c71:x8_1 ≥ 0
          ·rw[if_pos c71] at H;have c71b0:decide (0≤x8_1)=true:=decide_eq_true c71;clear c71
           by_cases c72 : 0≤x8_1
           ·rw[if_pos c72] at H;have c72b0:=eq_true c72;have c72b1:decide (0≤x8_1)=true:=decide_eq_true c72;clear c72;obtain⟨ji73,hji73⟩ : ∃ j_:Int,(shr .i64 (wrap64 (Int.tdiv a0_1 64)) x8_1)=j_:=⟨_,rfl⟩;replace H:((strconv_Itoa.f (Go.bits .and .i64 (ji73) 255)).bind fun t111=>(if t111.size + 1≤9223372036854775807 then(if x7_1.size + (t111 ++ (⟨#[46]⟩ : ByteArray)).size≤9223372036854775807 then(vk.l0 k1 (wrap64 (Int.tdiv a0_1 64)) (x7_1 ++ (t111 ++ (⟨#[46]⟩ : ByteArray))) (wrap64 (x8_1 - 8)) a0_0 a0_1 a0_2 a0_3) else(none)) else(none)))=some r:=by first|(rw[hji73] at H;exact H)|(simp only[hji73] at H ⊢;exact H)
            have hji73_:((wrap64 (Int.tdiv a0_1 64)) / 2 ^ min x8_1.toNat 64)=ji73:=hji73;have hji73z:x8_1≤64→((wrap64 (Int.tdiv a0_1 64)) / 2 ^ x8_1.toNat)=ji73:=shr_small hji73;replace H:=jq8.mp H;obtain⟨t111,A740,H⟩:=H;try dsimp only at H
            have A74:=U.mk A740;clear A740
            by_cases c75:t111.size + 1≤9223372036854775807
            ·rw[if_pos c75] at H;have c75b0:=eq_true c75;have c75b1:decide (t111.size + 1≤9223372036854775807)=true:=decide_eq_true c75;try have c75b2:(9223372036854775807 < t111.size + 1)=False:=eq_false (Nat.not_lt.2 c75)
             by_cases c76:x7_1.size + (t111 ++ (⟨#[46]⟩ : ByteArray)).size≤9223372036854775807
             ·rw[if_pos c76] at H;have c76b0:=eq_true c76;have c76b1:decide (x7_1.size + (t111 ++ (⟨#[46]⟩ : ByteArray)).size≤9223372036854775807)=true:=decide_eq_true c76;try have c76b2:(9223372036854775807 < x7_1.size + (t111 ++ (⟨#[46]⟩ : ByteArray)).size)=False:=eq_false (Nat.not_lt.2 c76)
              try (have c76b9:=c76b2;simp only[ByteArray.size_append,show(⟨#[46]⟩ : ByteArray).size=1 from rfl] at c76b9)
              have H':=U.mk H;clear H;go_wp2_with (first|((with_reducible refine zx (f:=72) rfl ?_);refine goesL_ (some 76) rfl rfl Tryz.func72 (by kernel_rfl) rfl #[.int .i64 (Go.bits .and .i64 (ji73) 255)] rfl (by(try simp only[jq0,jq1,jq2]);first|done|(simp only[hji73];rfl)|rfl|(simp only[jq3,jq4];rfl)) ?_;(with_reducible refine(strconv_Itoa.calls (Go.bits .and .i64 (ji73) 255) t111 _ ?tabw A74.out).mono ?_);(case tabw=>first|(with_reducible first|exact HTAB.out|exact TabW_below HTAB.out HB.out)|exact TabW_below HTAB.out (by with_reducible repeat(first|exact HB.out|apply L|apply O|apply J|refine qz ?_ GE101.out))|(repeat(first|exact HTAB.out|exact TabW_below HTAB.out HB.out|(with_reducible refine TabW_drewN ?_ _)|(with_reducible refine TabW_drew ?_)|(with_reducible refine TabW_alloc ?_ _))));rintro e w77 ⟨rfl,hb⟩;refine⟨_,rfl,?_⟩;replace BK101:=U.mk (jx (by solve_by_elim only[BK101.out,qk,qv,qj]) hb);replace HB:=U.mk (qx (by solve_by_elim (maxDepth:=20) only[HB.out,L,O,J,qz,GE101.out]) hb);(try clear hb)))
              go_roundg k1
              case measure=>have:=HK1.out;omega
              case rel=>exact⟨(x7_1 ++ (t111 ++ (⟨#[46]⟩ : ByteArray))),(wrap64 (x8_1 - 8)),(by first|rfl|(simp;done)|(simp[*];done)),(by first|rfl|(simp;done)|(simp[*];done)),H',⟨by have:=HK1.out;omega⟩,⟨by(with_reducible repeat(first|refine qk ?_ _|refine qv ?_|refine qj ?_ _));exact BK101.out⟩,⟨by solve_by_elim (maxDepth:=20) only[HB.out,L,O,J,qz,GE101.out]⟩⟩
             ·rw[if_neg c76] at H;exact absurd H (by simp)
            ·rw[if_neg c75] at H;exact absurd H (by simp)
           ·rw[if_neg c72] at H;exact absurd H (by simp)
          ·rw[if_neg c71] at H;have c71b0:decide (0≤x8_1)=false:=decide_eq_false c71;clear c71;obtain⟨ji78,hji78⟩ : ∃ j_:Int,(wrap64 ((x7_1.size:Int) - 1))=j_:=⟨_,rfl⟩;replace H:(if 0≤(ji78) then(if (ji78)≤(x7_1.size:Int) then(if (x7_1.extract 0 ((ji78):Int).toNat).size + 1≤9223372036854775807 then((strconv_Itoa.f (Int.tmod a0_1 64)).bind fun t112=>(if ((x7_1.extract 0 ((ji78):Int).toNat) ++ (⟨#[47]⟩ : ByteArray)).size + t112.size≤9223372036854775807 then(some (((x7_1.extract 0 ((ji78):Int).toNat) ++ (⟨#[47]⟩ : ByteArray)) ++ t112)) else(none))) else(none)) else(none)) else(none))=some r:=by first|(rw[hji78] at H;exact H)|(simp only[hji78] at H ⊢;exact H)
           have hji78w:(IntKind.i64.wrap ((x7_1.size:Int) - 1))=ji78:=(i64_w _).trans hji78
           by_cases c79 : 0≤(ji78)
           ·rw[if_pos c79] at H;have c79b0:=eq_true c79;have c79b1:decide (0≤(ji78))=true:=decide_eq_true c79;clear c79
            by_cases c80:(ji78)≤(x7_1.size:Int)
            ·rw[if_pos c80] at H;have c80b0:=eq_true c80;have c80b1:decide ((ji78)≤(x7_1.size:Int))=true:=decide_eq_true c80;clear c80
             by_cases c81:(x7_1.extract 0 ((ji78):Int).toNat).size + 1≤9223372036854775807
             ·rw[if_pos c81] at H;have c81b0:=eq_true c81;have c81b1:decide ((x7_1.extract 0 ((ji78):Int).toNat).size + 1≤9223372036854775807)=true:=decide_eq_true c81;try have c81b2:(9223372036854775807 < (x7_1.extract 0 ((ji78):Int).toNat).size + 1)=False:=eq_false (Nat.not_lt.2 c81)
              have c81b5:(9223372036854775807 < ji78.toNat + 1)=False:=eq_false (by
               have e_:=c81
               have e1_:(ji78:Int).toNat≤x7_1.size:=by
                have e2_:=of_eq_true c80b0;clear hji78 hji78w
                omega
               simp only[ByteArray.size_append,ByteArray.size_extract,Nat.min_eq_left e1_,Nat.sub_zero,Nat.min_self,show(⟨#[46]⟩ : ByteArray).size=1 from rfl,show(⟨#[47]⟩ : ByteArray).size=1 from rfl] at e_;exact Nat.not_lt.2 e_)
              replace H:=jq8.mp H;obtain⟨t112,A820,H⟩:=H;try dsimp only at H
              have A82:=U.mk A820;clear A820
              by_cases c83:((x7_1.extract 0 ((ji78):Int).toNat) ++ (⟨#[47]⟩ : ByteArray)).size + t112.size≤9223372036854775807
              ·rw[if_pos c83] at H;have c83b0:=eq_true c83;have c83b1:decide (((x7_1.extract 0 ((ji78):Int).toNat) ++ (⟨#[47]⟩ : ByteArray)).size + t112.size≤9223372036854775807)=true:=decide_eq_true c83;try have c83b2:(9223372036854775807 < ((x7_1.extract 0 ((ji78):Int).toNat) ++ (⟨#[47]⟩ : ByteArray)).size + t112.size)=False:=eq_false (Nat.not_lt.2 c83)
               have c83b5:(9223372036854775807 < ji78.toNat + 1 + t112.size)=False:=eq_false (by
                have e_:=c83
                have e1_:(ji78:Int).toNat≤x7_1.size:=by
                 have e2_:=of_eq_true c80b0;clear hji78 hji78w
                 omega
                simp only[ByteArray.size_append,ByteArray.size_extract,Nat.min_eq_left e1_,Nat.sub_zero,Nat.min_self,show(⟨#[46]⟩ : ByteArray).size=1 from rfl,show(⟨#[47]⟩ : ByteArray).size=1 from rfl] at e_;exact Nat.not_lt.2 e_)
               try (have c83b9:=c83b2;simp only[ByteArray.size_append,show(⟨#[47]⟩ : ByteArray).size=1 from rfl] at c83b9)
               obtain rfl:=Option.some.inj H;try go_wp2
               replace BK101:=U.mk (qv BK101.out);replace HB:=U.mk (J HB.out);refine start_ (n:=12) (S:=fun w'=>w'.cell? ⟨gb101,0,none⟩ = some (.int .i64 a0_0)∧w'.cell? ⟨gb101,1,none⟩ = some (.int .i64 a0_1)∧w'.cell? ⟨gb101,2,none⟩ = some (.string a0_2)∧w'.cell? ⟨gb101,3,none⟩ = some (.string a0_3)) (ds:=[]) #[Y,Y,Y,Y,Y,Y,Y,Y,Y,Y,Y,Y] (by kernel_rfl) rfl rfl ⟨(qq BK101.out 0).trans rfl,(qq BK101.out 1).trans rfl,(qq BK101.out 2).trans rfl,(qq BK101.out 3).trans rfl⟩ (fun hHeld=>?_);refine with_tabW vk.tab25 vk.bits25 (fun HT_ HW_=>?_)
               generalize wr.drew=w84 at BK101 HB hHeld ⊢;refine pure_ (i:=0) (N:=some 79) (v:=?_) (a':=?_) #[Z,Y,Y,Y,Y,Y,Y,Y,Y,Y,Y,Y] rfl rfl (any_of HT_.out (by kernel_rfl)) (fun _ _ _ h=>h) (Or.inl ⟨by rfl,?_⟩) ?_ ?_;rotate_left
               ·intro w'
                go_simp
                with_reducible rfl
               rotate_left
               ·simp only[Act.put,jq5,jq6,jq7,i64_w,i32_w]
                rfl
               refine pure_ (i:=1) (N:=some 80) (v:=?_) (a':=?_) #[Z,Z,Y,Y,Y,Y,Y,Y,Y,Y,Y,Y] rfl rfl (any_of HT_.out (by kernel_rfl)) (fun _ _ _ h=>h) (Or.inl ⟨by rfl,?_⟩) ?_ ?_;rotate_left
               ·intro w'
                go_simp
                with_reducible rfl
               rotate_left
               ·simp only[Act.put,jq5,jq6,jq7,i64_w,i32_w]
                rfl
               refine pure_ (i:=2) (N:=some 81) (v:=?_) (a':=?_) #[Z,Z,Z,Y,Y,Y,Y,Y,Y,Y,Y,Y] rfl rfl (any_of HT_.out (by kernel_rfl)) (fun _ _ _ h=>h) (Or.inl ⟨by rfl,?_⟩) ?_ ?_;rotate_left
               ·intro w'
                go_simp
                with_reducible rfl
               rotate_left
               ·simp only[Act.put,jq5,jq6,jq7,i64_w,i32_w]
                rfl
               refine pure_ (i:=3) (N:=some 82) (v:=?_) (a':=?_) #[Z,Z,Z,Z,Y,Y,Y,Y,Y,Y,Y,Y] rfl rfl (any_of HT_.out (by kernel_rfl)) (fun _ _ _ h=>h) (Or.inl ⟨by rfl,?_⟩) ?_ ?_;rotate_left
               ·intro w'
                go_simp
                with_reducible rfl
               rotate_left
               ·simp only[Act.put,jq5,jq6,jq7,i64_w,i32_w]
                rfl
               refine pure_ (i:=4) (N:=some 83) (v:=?_) (a':=?_) #[Z,Z,Z,Z,Z,Y,Y,Y,Y,Y,Y,Y] rfl rfl (any_of HT_.out (by kernel_rfl)) (fun _ _ _ h=>h) (Or.inl ⟨by rfl,?_⟩) ?_ ?_;rotate_left
               ·intro w'
                go_simp
                with_reducible rfl
               rotate_left
               ·simp only[Act.put,jq5,jq6,jq7,i64_w,i32_w]
                rfl
               refine pure_ (i:=5) (N:=some 84) (v:=?_) (a':=?_) #[Z,Z,Z,Z,Z,Z,Y,Y,Y,Y,Y,Y] rfl rfl (any_of HT_.out (by kernel_rfl)) (fun _ _ _ h=>h) (Or.inl ⟨by rfl,?_⟩) ?_ ?_;rotate_left
               ·intro w'
                go_simp
                with_reducible rfl
               rotate_left
               ·simp only[Act.put,jq5,jq6,jq7,i64_w,i32_w]
                rfl
               refine pure_ (i:=6) (N:=some 85) (v:=?_) (a':=?_) #[Z,Z,Z,Z,Z,Z,Z,Y,Y,Y,Y,Y] rfl rfl (any_of HT_.out (by kernel_rfl)) (fun _ _ _ h=>h) (Or.inl ⟨by rfl,?_⟩) ?_ ?_;rotate_left
               ·intro w'
                go_simp
                with_reducible rfl
               rotate_left
               ·simp only[Act.put,jq5,jq6,jq7,i64_w,i32_w]
                rfl
               refine take_ (i:=7) (N:=some 86) (v:=?_) (a':=?_) #[Z,Z,Z,Z,Z,Z,Z,Z,Y,Y,Y,Y] rfl rfl (take_ofW HT_.out HW_.out (by kernel_rfl)) (fun _ _ _ h=>h) (Or.inl ⟨by rfl,?_⟩) hHeld ?_ ?_;rotate_left
               ·rintro w' ⟨s0,s1,s2,s3⟩
                go_simp
                with_reducible rfl
               rotate_left
               ·simp only[Act.put,jq5,jq6,jq7,i64_w,i32_w]
                rfl
               refine pure_ (i:=8) (N:=some 87) (v:=?_) (a':=?_) #[Z,Z,Z,Z,Z,Z,Z,Z,Z,Y,Y,Y] rfl rfl (any_of HT_.out (by kernel_rfl)) (fun _ _ _ h=>h) (Or.inl ⟨by rfl,?_⟩) ?_ ?_;rotate_left
               ·intro w'
                go_simp
                with_reducible rfl
               rotate_left
               ·simp only[Act.put,jq5,jq6,jq7,i64_w,i32_w]
                rfl
               refine one_ (i:=9) (N:=some 88) #[Z,Z,Z,Z,Z,Z,Z,Z,Z,Z,Y,Y] rfl rfl (one_of HT_.out (by kernel_rfl)) (by decide) (fun K hK=>?_);refine goes_ Tryz.func72 (by kernel_rfl) rfl #[.int .i64 (Int.tmod a0_1 64)] (by rfl) rfl rfl (by(try simp only[jq0,jq1,jq2]);first|done|rfl|(simp only[jq3,jq4];rfl)) ?_
               with_reducible refine(strconv_Itoa.calls (Int.tmod a0_1 64) t112 _ ?tabw A82.out).mono ?_
               (case tabw=>repeat(first|exact HTAB.out|exact TabW_below HTAB.out HB.out|(with_reducible refine TabW_drewN ?_ _)|(with_reducible refine TabW_drew ?_)|(with_reducible refine TabW_alloc ?_ _)))
               rintro e w85 ⟨rfl,hb⟩
               refine⟨_,rfl,?_⟩;replace BK101:=U.mk (jx (by solve_by_elim only[BK101.out,qk,qv,qj]) hb);replace HB:=U.mk (qx (by solve_by_elim (maxDepth:=20) only[HB.out,L,O,J,qz,GE101.out]) hb)
               (try clear hb)
               (try clear hb2)
               (try clear hk)
               (try clear hi)
               refine hK.out _ _ (by(repeat' apply And.intro) <;> first|exact(qq BK101.out _).trans rfl) (fun hHeld=>?_);clear hK K;refine norm_ (a':=?_) ?_ ?_;rotate_left
               ·show Act.put _ (some 88) _=_
                simp only[Act.put,jq5,jq6,jq7,i64_w,i32_w]
                rfl
               refine pure_ (i:=10) (N:=some 89) (v:=?_) (a':=?_) #[Z,Z,Z,Z,Z,Z,Z,Z,Z,Z,Z,Y] rfl rfl (any_of HT_.out (by kernel_rfl)) (fun _ _ _ h=>h) (Or.inl ⟨by rfl,?_⟩) ?_ ?_;rotate_left
               ·intro w'
                go_simp
                with_reducible rfl
               rotate_left
               ·simp only[Act.put,jq5,jq6,jq7,i64_w,i32_w]
                rfl
               refine pure_ (i:=11) (N:=some 2) (v:=?_) (a':=?_) #[Z,Z,Z,Z,Z,Z,Z,Z,Z,Z,Z,Z] rfl rfl (any_of HT_.out (by kernel_rfl)) (fun _ _ _ h=>h) (Or.inl ⟨by rfl,?_⟩) ?_ ?_;rotate_left
               ·intro w'
                go_simp
                with_reducible rfl
               rotate_left
               ·simp only[Act.put,jq5,jq6,jq7,i64_w,i32_w]
                rfl
               refine done_ (done_of HT_.out (by kernel_rfl)) ?_;try go_wp2
               go_ret
               exact⟨by first|rfl|(simp[zw,zv] <;> rfl)|(simp only[← hji78];first|rfl|(simp[zw,zv] <;> rfl))|(simp[*,zw,zv] <;> rfl),by solve_by_elim (maxDepth:=20) only[HB.out,L,O,J,qz,GE101.out]⟩
              ·rw[if_neg c83] at H;exact absurd H (by simp)
             ·rw[if_neg c81] at H;exact absurd H (by simp)
            ·rw[if_neg c80] at H;exact absurd H (by simp)
           ·rw[if_neg c79] at H;exact absurd H (by simp)
       ·rw[if_neg c66] at H;have c66b0:(a0_0 == 6)=false:=beq_eq_false_iff_ne.mpr c66;have c66b1:(a0_0 != 6)=true:=bne_iff_ne.mpr c66;replace H:=jq8.mp H;obtain⟨t113,A860,H⟩:=H;try dsimp only at H
        have A86:=U.mk A860;clear A860
        by_cases c87 : 1 + t113.size≤9223372036854775807
        ·rw[if_pos c87] at H;have c87b0:=eq_true c87;have c87b1:decide (1 + t113.size≤9223372036854775807)=true:=decide_eq_true c87;try have c87b2:(9223372036854775807 < 1 + t113.size)=False:=eq_false (Nat.not_lt.2 c87)
         obtain rfl:=Option.some.inj H;go_enter Tryz.func44,Tryz.ntmps44;go_wp2_with (first|((with_reducible refine gate_dst (N:=1) rfl ?_);refine box_event ?hg (N:=1) ?hd (cs:=#[.int .i64 a0_0,.int .i64 a0_1,.string a0_2,.string a0_3]) (t:=30) ?hr ?_;(case hd=>rfl);(case hg=>rfl);(case hr=>first|(go_simp;done)|(go_simp;rfl));intro gb101 hg w88 hbox hb;have BK101:=U.mk (hbox);have GW101:=U.mk ((by rw[hg];exact(zq (by solve_by_elim only[HB.out,L,O,J])):w.heap.size≤gb101));have GE101:=GW101;replace HB:=U.mk (qx (by solve_by_elim only[HB.out,L,O,J]) hb);clear hb hbox hg;obtain⟨y89_0,y89_1,y89_2,y89_3,z89_0,z89_1,z89_2,z89_3⟩:=bx4f BK101.out)|((with_reducible refine zx (f:=64) rfl ?_);refine goesL_ (some 10) rfl rfl Tryz.func64 (by kernel_rfl) rfl #[.agg #[.int .i64 a0_0,.int .i64 a0_1,.string a0_2,.string a0_3]] rfl (by(try simp only[jq0,jq1,jq2]);first|done|rfl|(simp only[jq3,jq4];rfl)) ?_;(with_reducible refine(vw.calls k a0_0 a0_1 a0_2 a0_3 true _ A2.out).mono ?_);rintro e w90 ⟨rfl,hb⟩;refine⟨_,rfl,?_⟩;replace BK101:=U.mk (jx (by solve_by_elim only[BK101.out,qk,qv,qj]) hb);replace HB:=U.mk (qx (by solve_by_elim (maxDepth:=20) only[HB.out,L,O,J,qz,GE101.out]) hb);(try clear hb);obtain⟨y91_0,y91_1,y91_2,y91_3,z91_0,z91_1,z91_2,z91_3⟩:=bx4f BK101.out)|((with_reducible refine zx (f:=72) rfl ?_);refine goesL_ (some 92) rfl rfl Tryz.func72 (by kernel_rfl) rfl #[.int .i64 a0_1] rfl (by(try simp only[jq0,jq1,jq2]);first|done|rfl|(simp only[jq3,jq4];rfl)) ?_;(with_reducible refine(strconv_Itoa.calls a0_1 t113 _ ?tabw A86.out).mono ?_);(case tabw=>first|(with_reducible first|exact HTAB.out|exact TabW_below HTAB.out HB.out)|exact TabW_below HTAB.out (by with_reducible repeat(first|exact HB.out|apply L|apply O|apply J|refine qz ?_ GE101.out))|(repeat(first|exact HTAB.out|exact TabW_below HTAB.out HB.out|(with_reducible refine TabW_drewN ?_ _)|(with_reducible refine TabW_drew ?_)|(with_reducible refine TabW_alloc ?_ _))));rintro e w92 ⟨rfl,hb⟩;refine⟨_,rfl,?_⟩;replace BK101:=U.mk (jx (by solve_by_elim only[BK101.out,qk,qv,qj]) hb);replace HB:=U.mk (qx (by solve_by_elim (maxDepth:=20) only[HB.out,L,O,J,qz,GE101.out]) hb);(try clear hb)))
         go_ret
         exact⟨by first|rfl|(simp[*,zw,zv] <;> rfl),by solve_by_elim (maxDepth:=20) only[HB.out,L,O,J,qz,GE101.out]⟩
        ·rw[if_neg c87] at H;exact absurd H (by simp)
 ·replace c3:=jq9.mpr c3;subst c3;have H1:(some (⟨#[]⟩ : ByteArray))=some r:=by rw[if_neg (show ¬ (false=true) by decide)] at H;exact H
  clear H;have H:=H1;clear H1;obtain rfl:=Option.some.inj H;go_enter Tryz.func44,Tryz.ntmps44;go_wp2_with (first|((with_reducible refine gate_dst (N:=1) rfl ?_);refine box_event ?hg (N:=1) ?hd (cs:=#[.int .i64 a0_0,.int .i64 a0_1,.string a0_2,.string a0_3]) (t:=30) ?hr ?_;(case hd=>rfl);(case hg=>rfl);(case hr=>first|(go_simp;done)|(go_simp;rfl));intro gb101 hg w93 hbox hb;have BK101:=U.mk (hbox);have GW101:=U.mk ((by rw[hg];exact(zq (by solve_by_elim only[HB.out,L,O,J])):w.heap.size≤gb101));have GE101:=GW101;replace HB:=U.mk (qx (by solve_by_elim only[HB.out,L,O,J]) hb);clear hb hbox hg;obtain⟨y94_0,y94_1,y94_2,y94_3,z94_0,z94_1,z94_2,z94_3⟩:=bx4f BK101.out)|((with_reducible refine zx (f:=64) rfl ?_);refine goesL_ (some 10) rfl rfl Tryz.func64 (by kernel_rfl) rfl #[.agg #[.int .i64 a0_0,.int .i64 a0_1,.string a0_2,.string a0_3]] rfl (by(try simp only[jq0,jq1,jq2]);first|done|rfl|(simp only[jq3,jq4];rfl)) ?_;(with_reducible refine(vw.calls k a0_0 a0_1 a0_2 a0_3 false _ A2.out).mono ?_);rintro e w95 ⟨rfl,hb⟩;refine⟨_,rfl,?_⟩;replace BK101:=U.mk (jx (by solve_by_elim only[BK101.out,qk,qv,qj]) hb);replace HB:=U.mk (qx (by solve_by_elim (maxDepth:=20) only[HB.out,L,O,J,qz,GE101.out]) hb);(try clear hb)))
  go_ret
  exact⟨by first|rfl|(simp[*,zw,zv] <;> rfl),by solve_by_elim (maxDepth:=20) only[HB.out,L,O,J,qz,GE101.out]⟩
def ww.l0:Nat→List ByteArray→List (S30)→Int→Int→Int→Int→Int→ByteArray→ByteArray→List (S30)→List ByteArray→Option (ByteArray)
 | 0,_,_,_,_,_,_,_,_,_,_,_=>none
 | k + 1,x3,x11,x12,x13,x102000,x102001,x102002,x102003,x102004,x102005,x102006=>if x13 < x12 then(if 0≤x13 then(if x13 < (x11.length:Int) then((vk.f k ((kw x11 x13).f0) ((kw x11 x13).f1) ((kw x11 x13).f2) ((kw x11 x13).f3)).bind fun t105=>(if x102000=3 then(if x13 < (x102006.length:Int) then(if (rdOf ByteArray.empty x102006 x13).size + 1≤9223372036854775807 then(if ((rdOf ByteArray.empty x102006 x13) ++ (⟨#[58]⟩ : ByteArray)).size + t105.size≤9223372036854775807 then(if x3.length < 8796093022208 then(ww.l0 k (x3 ++ [((rdOf ByteArray.empty x102006 x13) ++ (⟨#[58]⟩ : ByteArray)) ++ t105]) x11 x12 (wrap64 (x13 + 1)) x102000 x102001 x102002 x102003 x102004 x102005 x102006) else(none)) else(none)) else(none)) else(none)) else(none))) else(none)) else(none)) else(if x102000=2 then(none) else(if x102000=3 then((zqx.f x3 (⟨#[44]⟩ : ByteArray)).bind fun t114=>(if 1 + t114.size≤9223372036854775807 then(if ((⟨#[123]⟩ : ByteArray) ++ t114).size + 1≤9223372036854775807 then(some (((⟨#[123]⟩ : ByteArray) ++ t114) ++ (⟨#[125]⟩ : ByteArray))) else(none)) else(none))) else(none)))
def ww.f (k:Nat) (a0_0:Int) (a0_1:Int) (a0_2:Int) (a0_3:ByteArray) (a0_4:ByteArray) (l0_5:List (S30)) (l0_6:List ByteArray):Option (ByteArray):=(wq.f k a0_0 a0_1 a0_2 a0_3 a0_4 l0_5 l0_6).bind fun t102=>(if t102=true then(ww.l0 k ([]:List ByteArray) l0_5 (l0_5.length:Int) 0 a0_0 a0_1 a0_2 a0_3 a0_4 l0_5 l0_6) else(some (⟨#[]⟩ : ByteArray)))
theorem ww.calls (k:Nat) (a0_0:Int) (a0_1:Int) (a0_2:Int) (a0_3:ByteArray) (a0_4:ByteArray) (A0_5:Option Addr) (c0_5:Nat) (l0_5:List (S30)) (A0_6:Option Addr) (c0_6:Nat) (l0_6:List ByteArray) (r:ByteArray) (w:World) (htab:TabW w) (hr0_5:Kd.C k30 w A0_5 l0_5.length l0_5) (hc0_5:l0_5.length≤c0_5) (hr0_6:Kd.C Kd.string w A0_6 l0_6.length l0_6) (hc0_6:l0_6.length≤c0_6) (h:ww.f k a0_0 a0_1 a0_2 a0_3 a0_4 l0_5 l0_6=some r) :
  Calls Tryz.prog 25 #[.agg #[.int .i64 a0_0,.int .i64 a0_1,.int .i64 a0_2,.string a0_3,.string a0_4,.slice A0_5 l0_5.length c0_5,.slice A0_6 l0_6.length c0_6]] w fun e w'=>e=.returned (.string r)∧Below w.heap.size w w':=by
 have HTAB:=U.mk htab;clear htab;have hu33:=Tryz.underlying33;have hu30:=Tryz.underlying30;have HR0_5:=U.mk hr0_5;have HC0_5:=U.mk hc0_5;clear hr0_5 hc0_5;have HR0_6:=U.mk hr0_6;have HC0_6:=U.mk hc0_6;clear hr0_6 hc0_6;have HB:=U.mk (Below.refl w.heap.size w);unfold ww.f at h;have H:=h;clear h;replace H:=jq8.mp H;obtain⟨t102,A20,H⟩:=H;try dsimp only at H
 have A2:=U.mk A20;clear A20
 by_cases c3:t102=true
 ·subst c3;have H1:(ww.l0 k ([]:List ByteArray) l0_5 (l0_5.length:Int) 0 a0_0 a0_1 a0_2 a0_3 a0_4 l0_5 l0_6)=some r:=by rw[if_pos rfl] at H;exact H
  clear H;have H:=H1;clear H1;have H':=U.mk H;clear H;go_enter Tryz.func25,Tryz.ntmps25;go_wp2_with (first|((with_reducible refine gate_dst (N:=1) rfl ?_);refine box_event ?hg (N:=1) ?hd (cs:=#[.int .i64 a0_0,.int .i64 a0_1,.int .i64 a0_2,.string a0_3,.string a0_4,.slice A0_5 l0_5.length c0_5,.slice A0_6 l0_6.length c0_6]) (t:=33) ?hr ?_;(case hd=>rfl);(case hg=>rfl);(case hr=>first|(go_simp;done)|(go_simp;rfl));intro gb101 hg w4 hbox hb;have BK101:=U.mk (hbox);have GW101:=U.mk ((by rw[hg];exact(zq (by solve_by_elim only[HB.out,L,O,J])):w.heap.size≤gb101));have GE101:=GW101;replace HB:=U.mk (qx (by solve_by_elim only[HB.out,L,O,J]) hb);clear hb hbox hg;obtain⟨y5_0,y5_1,y5_2,y5_3,y5_4,y5_5,y5_6,z5_0,z5_1,z5_2,z5_3,z5_4,z5_5,z5_6⟩:=bx7f BK101.out)|((with_reducible refine zx (f:=43) rfl ?_);refine goesL_ (some 8) rfl rfl Tryz.func43 (by kernel_rfl) rfl #[.agg #[.int .i64 a0_0,.int .i64 a0_1,.int .i64 a0_2,.string a0_3,.string a0_4,.slice A0_5 l0_5.length c0_5,.slice A0_6 l0_6.length c0_6]] rfl (by(try simp only[jq0,jq1,jq2]);first|done|rfl|(simp only[jq3,jq4];rfl)) ?_;(with_reducible refine(wq.calls k a0_0 a0_1 a0_2 a0_3 a0_4 _ _ l0_5 _ _ l0_6 true _ ?side1 ?side2 ?side3 ?side4 A2.out).mono ?_);(case side1=>solve_by_elim only[(Kd.C_below HR0_5.out HB.out),Kd.C_alloc,Kd.C_drewN,Kd.C_drew]);(case side2=>exact HC0_5.out);(case side3=>solve_by_elim only[(Kd.C_below HR0_6.out HB.out),Kd.C_alloc,Kd.C_drewN,Kd.C_drew]);(case side4=>exact HC0_6.out);rintro e w6 ⟨rfl,hb⟩;refine⟨_,rfl,?_⟩;replace BK101:=U.mk (jx (by solve_by_elim only[BK101.out,qk,qv,qj]) hb);replace HB:=U.mk (qx (by solve_by_elim (maxDepth:=20) only[HB.out,L,O,J,qz,GE101.out]) hb);(try clear hb);obtain⟨y7_0,y7_1,y7_2,y7_3,y7_4,y7_5,y7_6,z7_0,z7_1,z7_2,z7_3,z7_4,z7_5,z7_6⟩:=bx7f BK101.out))
  go_loopg [3,13] k (fun kq v3 v13 w'=>∃ (x3_1:List ByteArray) (x13_1:Int),v13=.int .i64 x13_1∧U (ww.l0 kq x3_1 l0_5 (l0_5.length:Int) x13_1 a0_0 a0_1 a0_2 a0_3 a0_4 l0_5 l0_6=some r)∧U (kq≤k)∧U (Kd.R Kd.string 9 w' w.heap.size (fun _=>True) v3 x3_1)∧U (w'.heap[gb101]? = some (.cells #[.int .i64 a0_0,.int .i64 a0_1,.int .i64 a0_2,.string a0_3,.string a0_4,(.slice A0_5 l0_5.length c0_5),(.slice A0_6 l0_6.length c0_6)] 33 (0,0)))∧U (Below w.heap.size w w'))
  case atStart=>exact⟨(([]:List ByteArray)),(0),(by first|rfl|(simp;done)|(simp[*];done)),H',⟨Nat.le_refl _⟩,⟨by first|exact Kd.R_nil _ _ _ _ _|exact Kd.N_nil _ _ _ _ _|exact Kd.V_nil _ _ _ _ _|exact Kd.Q_nil _ _ _ _ _|exact Kd.S_nil _ _ _ _ _⟩,⟨by(with_reducible repeat(first|refine qk ?_ _|refine qv ?_|refine qj ?_ _));exact BK101.out⟩,⟨by solve_by_elim (maxDepth:=20) only[HB.out,L,O,J,qz,GE101.out]⟩⟩
  case round =>
   clear H';try clear c2
   try clear p2
   try clear c3
   try clear c4
   try clear y5_0 y5_1 y5_2 y5_3 y5_4 y5_5 y5_6 z5_0 z5_1 z5_2 z5_3 z5_4 z5_5 z5_6
   try clear y7_0 y7_1 y7_2 y7_3 y7_4 y7_5 y7_6 z7_0 z7_1 z7_2 z7_3 z7_4 z7_5 z7_6
   obtain⟨x3_1,x13_1,rfl,HA,HK1,HO_3,BK101,HB⟩:=hrel
   cases gk with
   | zero=>exact absurd HA.out (by simp[ww.l0])
   | succ k1 =>
    have H:=HA.out;clear HA;simp only[ww.l0] at H
    by_cases c8:x13_1 < (l0_5.length:Int)
    ·rw[if_pos c8] at H;have c8b0:decide (x13_1 < (l0_5.length:Int))=true:=decide_eq_true c8;clear c8
     by_cases c9 : 0≤x13_1
     ·rw[if_pos c9] at H;have c9b0:decide (0≤x13_1)=true:=decide_eq_true c9;clear c9
      by_cases c10:x13_1 < (l0_5.length:Int)
      ·rw[if_pos c10] at H;have c10b0:decide (x13_1 < (l0_5.length:Int))=true:=decide_eq_true c10;clear c10;replace H:=jq8.mp H;obtain⟨t105,A110,H⟩:=H;try dsimp only at H
       have A11:=U.mk A110;clear A110
       by_cases c12:a0_0=3
       ·rw[if_pos c12] at H;have c12b0:(a0_0 == 3)=true:=beq_iff_eq.mpr c12;have c12b1:(a0_0 != 3)=false:=bne_eq_false_iff_eq.mpr c12;clear c12
        by_cases c13:x13_1 < (l0_6.length:Int)
        ·rw[if_pos c13] at H;have c13b0:decide (x13_1 < (l0_6.length:Int))=true:=decide_eq_true c13;clear c13
         by_cases c14:(rdOf ByteArray.empty l0_6 x13_1).size + 1≤9223372036854775807
         ·rw[if_pos c14] at H;have c14b0:=eq_true c14;have c14b1:decide ((rdOf ByteArray.empty l0_6 x13_1).size + 1≤9223372036854775807)=true:=decide_eq_true c14;try have c14b2:(9223372036854775807 < (rdOf ByteArray.empty l0_6 x13_1).size + 1)=False:=eq_false (Nat.not_lt.2 c14)
          by_cases c15:((rdOf ByteArray.empty l0_6 x13_1) ++ (⟨#[58]⟩ : ByteArray)).size + t105.size≤9223372036854775807
          ·rw[if_pos c15] at H;have c15b0:=eq_true c15;have c15b1:decide (((rdOf ByteArray.empty l0_6 x13_1) ++ (⟨#[58]⟩ : ByteArray)).size + t105.size≤9223372036854775807)=true:=decide_eq_true c15;try have c15b2:(9223372036854775807 < ((rdOf ByteArray.empty l0_6 x13_1) ++ (⟨#[58]⟩ : ByteArray)).size + t105.size)=False:=eq_false (Nat.not_lt.2 c15)
           try (have c15b9:=c15b2;simp only[ByteArray.size_append,show(⟨#[58]⟩ : ByteArray).size=1 from rfl] at c15b9)
           by_cases c16:x3_1.length < 8796093022208
           ·rw[if_pos c16] at H;have LMc16:=U.mk c16;clear c16;obtain⟨y107,hy107⟩ : ∃ y_:List ByteArray,y_=(x3_1 ++ [((rdOf ByteArray.empty l0_6 x13_1) ++ (⟨#[58]⟩ : ByteArray)) ++ t105]):=⟨_,rfl⟩;replace H:(ww.l0 k1 y107 l0_5 (l0_5.length:Int) (wrap64 (x13_1 + 1)) a0_0 a0_1 a0_2 a0_3 a0_4 l0_5 l0_6)=some r:=by first|(rw[hy107];with_reducible exact H)|(have H2_:=(Option.bind_some _ _).symm.trans H;rw[hy107];with_reducible exact H2_)|(have H2_:=(Option.bind_some _ _).symm.trans H;with_reducible exact H2_)|with_reducible exact H|(rw[hy107];exact H)|exact H
            have Ny107:=U.mk hy107;clear hy107;have H':=U.mk H;clear H;have p103 : 0≤(x13_1:Int):=of_decide_eq_true (by assumption);have q103:x13_1 < (l0_5.length:Int):=of_decide_eq_true (by assumption);obtain⟨ad103,e103,hx103_0,hx103_1,hx103_2,hx103_3⟩:=at_T30 HR0_5.out x13_1 p103 q103
            cases e103
            replace hx103_0:=(HB.out.cell (World.block_lt_of_cell? w _ hx103_0)).trans hx103_0;replace hx103_1:=(HB.out.cell (World.block_lt_of_cell? w _ hx103_1)).trans hx103_1;replace hx103_2:=(HB.out.cell (World.block_lt_of_cell? w _ hx103_2)).trans hx103_2;replace hx103_3:=(HB.out.cell (World.block_lt_of_cell? w _ hx103_3)).trans hx103_3;replace p103:=eq_true p103;replace q103:=eq_true q103;go_wp2_with (first|((with_reducible refine gate_dst (N:=5) rfl ?_);refine box_event ?hg (N:=5) ?hd (cs:=#[.int .i64 0,.int .i64 0,.string (⟨#[]⟩ : ByteArray),.string (⟨#[]⟩ : ByteArray)]) (t:=30) ?hr ?_;(case hd=>rfl);(case hg=>rfl);(case hr=>first|(go_simp;done)|(go_simp;rfl));intro gb104 hg w17 hbox hb;replace HO_3:=U.mk (Kd.R_below (by solve_by_elim only[HO_3.out,Kd.zj,Kd.zz,Kd.zk]) hb);have BK104:=U.mk (hbox);have GW104:=U.mk ((by rw[hg];exact(zq (by solve_by_elim (maxDepth:=20) only[HB.out,L,O,J,qz,GE101.out])):w.heap.size≤gb104));have GE104:=GW104;replace HB:=U.mk (qx (by solve_by_elim (maxDepth:=20) only[HB.out,L,O,J,qz,GE101.out]) hb);have NB101_104:=U.mk ((by rw[hg];exact Nat.ne_of_lt (blk_lt (by solve_by_elim only[BK101.out,qk,qv,qj])):gb101≠gb104));have NB104_101:=U.mk ((by rw[hg];exact Nat.ne_of_gt (blk_lt (by solve_by_elim only[BK101.out,qk,qv,qj])):gb104≠gb101));replace BK101:=U.mk (jx (by solve_by_elim only[BK101.out,qk,qv,qj]) hb);clear hb hbox hg;have hnb18:=NB104_101.out;have hnc18:=NB101_104.out;obtain⟨y19_0,y19_1,y19_2,y19_3,z19_0,z19_1,z19_2,z19_3⟩:=bx4f BK104.out)|((with_reducible refine zx (f:=44) rfl ?_);refine goesL_ (some 19) rfl rfl Tryz.func44 (by kernel_rfl) rfl #[.agg #[.int .i64 ((kw l0_5 x13_1).f0),.int .i64 ((kw l0_5 x13_1).f1),.string ((kw l0_5 x13_1).f2),.string ((kw l0_5 x13_1).f3)]] rfl (by(try simp only[jq0,jq1,jq2]);first|done|rfl|(simp only[jq3,jq4];rfl)) ?_;(with_reducible refine(vk.calls k1 ((kw l0_5 x13_1).f0) ((kw l0_5 x13_1).f1) ((kw l0_5 x13_1).f2) ((kw l0_5 x13_1).f3) t105 _ ?tabw A11.out).mono ?_);(case tabw=>first|(with_reducible first|exact HTAB.out|exact TabW_below HTAB.out HB.out)|exact TabW_below HTAB.out (by with_reducible repeat(first|exact HB.out|apply L|apply O|apply J|refine qz ?_ GE101.out|refine qz ?_ GE104.out))|(repeat(first|exact HTAB.out|exact TabW_below HTAB.out HB.out|(with_reducible refine TabW_drewN ?_ _)|(with_reducible refine TabW_drew ?_)|(with_reducible refine TabW_alloc ?_ _))));rintro e w20 ⟨rfl,hb⟩;refine⟨_,rfl,?_⟩;replace HO_3:=U.mk (Kd.R_below (by(with_reducible repeat(first|apply Kd.zj|apply Kd.zz|apply Kd.zk));exact(Kd.R_mono (Kd.R_far (p:=⟨gb104,3,none⟩) (Kd.R_far (p:=⟨gb104,2,none⟩) (Kd.R_far (p:=⟨gb104,1,none⟩) (Kd.R_far (p:=⟨gb104,0,none⟩) (Kd.R_types HO_3.out BK104.out (by decide)) (fun _ hk=>hk.2) (.int .i64 ((kw l0_5 x13_1).f0))) (fun _ hk=>hk.2) (.int .i64 ((kw l0_5 x13_1).f1))) (fun _ hk=>hk.2) (.string ((kw l0_5 x13_1).f2))) (fun _ hk=>hk.2) (.string ((kw l0_5 x13_1).f3))) (fun _ h_=>h_.1))) hb);replace BK101:=U.mk (jx (g:=gb101) (o:=.cells #[.int .i64 a0_0,.int .i64 a0_1,.int .i64 a0_2,.string a0_3,.string a0_4,.slice (some ad103) l0_5.length c0_5,.slice A0_6 l0_6.length c0_6] 33 (0,0)) (by(with_reducible repeat(first|refine qk ?_ _|refine qv ?_|refine qj ?_ _));refine blk_far ?_ NB101_104.out _;(with_reducible repeat(first|refine qk ?_ _|refine qv ?_|refine qj ?_ _));refine blk_far ?_ NB101_104.out _;(with_reducible repeat(first|refine qk ?_ _|refine qv ?_|refine qj ?_ _));refine blk_far ?_ NB101_104.out _;(with_reducible repeat(first|refine qk ?_ _|refine qv ?_|refine qj ?_ _));refine blk_far ?_ NB101_104.out _;(with_reducible repeat(first|refine qk ?_ _|refine qv ?_|refine qj ?_ _));exact BK101.out) hb);replace BK104:=U.mk (jx (g:=gb104) (o:=.cells #[.int .i64 ((kw l0_5 x13_1).f0),.int .i64 ((kw l0_5 x13_1).f1),.string ((kw l0_5 x13_1).f2),.string ((kw l0_5 x13_1).f3)] 30 (0,0)) (by(with_reducible repeat(first|refine qk ?_ _|refine qv ?_|refine qj ?_ _));refine blk_put (cs:=#[.int .i64 ((kw l0_5 x13_1).f0),.int .i64 ((kw l0_5 x13_1).f1),.string ((kw l0_5 x13_1).f2),.string (⟨#[]⟩ : ByteArray)]) ?_ 3 _ rfl;(with_reducible repeat(first|refine qk ?_ _|refine qv ?_|refine qj ?_ _));refine blk_put (cs:=#[.int .i64 ((kw l0_5 x13_1).f0),.int .i64 ((kw l0_5 x13_1).f1),.string (⟨#[]⟩ : ByteArray),.string (⟨#[]⟩ : ByteArray)]) ?_ 2 _ rfl;(with_reducible repeat(first|refine qk ?_ _|refine qv ?_|refine qj ?_ _));refine blk_put (cs:=#[.int .i64 ((kw l0_5 x13_1).f0),.int .i64 0,.string (⟨#[]⟩ : ByteArray),.string (⟨#[]⟩ : ByteArray)]) ?_ 1 _ rfl;(with_reducible repeat(first|refine qk ?_ _|refine qv ?_|refine qj ?_ _));refine blk_put (cs:=#[.int .i64 0,.int .i64 0,.string (⟨#[]⟩ : ByteArray),.string (⟨#[]⟩ : ByteArray)]) ?_ 0 _ rfl;(with_reducible repeat(first|refine qk ?_ _|refine qv ?_|refine qj ?_ _));exact BK104.out) hb);replace HB:=U.mk (qx (by repeat(first|(with_reducible first|exact HB.out|apply L|apply O|apply J|refine qz ?_ GE101.out|refine qz ?_ GE104.out)|exact HB.out)) hb);(try clear hb);obtain⟨y21_0,y21_1,y21_2,y21_3,y21_4,y21_5,y21_6,z21_0,z21_1,z21_2,z21_3,z21_4,z21_5,z21_6⟩:=bx7f BK101.out;have p106 : 0≤(x13_1:Int):=of_decide_eq_true (by assumption);have q106:x13_1 < (l0_6.length:Int):=of_decide_eq_true (by assumption);obtain⟨ad106,e106,hx106_0⟩:=Kd.at_string HR0_6.out x13_1 p106 q106;cases e106;replace hx106_0:=(HB.out.cell (World.block_lt_of_cell? w _ hx106_0)).trans hx106_0;replace p106:=eq_true p106;replace q106:=eq_true q106)|((with_reducible refine gate_builtin (b:=.append) (xs:=#[.tmp 31,.tmp 33]) rfl ?_);at_builtin;refine Kd.R_append Kd.string (w0:=w) w.heap.size rfl (.tmp 31) (.tmp 33) 25 9 (.string ⟨#[]⟩) 16 rfl Tryz.underlying25 info9 rfl (by decide) (by omega) u3 x3_1 (((rdOf ByteArray.empty l0_6 x13_1) ++ (⟨#[58]⟩ : ByteArray)) ++ t105) [.string (((rdOf ByteArray.empty l0_6 x13_1) ++ (⟨#[58]⟩ : ByteArray)) ++ t105)] (fun _=>True) (fun _=>False) rfl rfl ?aP (fun _ hk=>hk.elim) ?aF ?aO ?aB ?aS ?aL ?_;(case aP=>exact rfl);(case aB=>exact(by repeat(first|(with_reducible first|exact HB.out|apply L|apply O|apply J|refine qz ?_ GE101.out|refine qz ?_ GE104.out)|exact HB.out)));(case aF=>exact(fun _ _=>trivial));(case aO=>exact(by solve_by_elim only[HO_3.out,Kd.zj,Kd.zz,Kd.zk]));(case aS=>exact(zq (by repeat(first|(with_reducible first|exact HB.out|apply L|apply O|apply J|refine qz ?_ GE101.out|refine qz ?_ GE104.out)|exact HB.out))));(case aL=>have:=LMc16.out;omega);intro v108 w22 ho hb hg hat;rw[← Ny107.out] at ho;replace BK101:=U.mk (blk_grown (by solve_by_elim only[BK101.out,qk,qv,qj]) hg (Kd.R_ne HO_3.out BK101.out (by decide)));replace BK104:=U.mk (blk_grown (by solve_by_elim only[BK104.out,qk,qv,qj]) hg (Kd.R_ne HO_3.out BK104.out (by decide)));replace HB:=U.mk (hb);have HO109:=U.mk (ho);clear HO_3;clear ho hb hg hat))
            go_roundg k1
            case measure=>have:=HK1.out;omega
            case rel=>exact⟨(y107),(wrap64 (x13_1 + 1)),(by first|rfl|(simp;done)|(simp[*];done)),H',⟨by have:=HK1.out;omega⟩,⟨by(with_reducible repeat(first|apply Kd.zj|apply Kd.zz|apply Kd.zk));exact HO109.out⟩,⟨by(with_reducible repeat(first|refine qk ?_ _|refine qv ?_|refine qj ?_ _));exact BK101.out⟩,⟨by repeat(first|(with_reducible first|exact HB.out|apply L|apply O|apply J|refine qz ?_ GE101.out|refine qz ?_ GE104.out)|exact HB.out)⟩⟩
           ·rw[if_neg c16] at H;exact absurd H (by simp)
          ·rw[if_neg c15] at H;exact absurd H (by simp)
         ·rw[if_neg c14] at H;exact absurd H (by simp)
        ·rw[if_neg c13] at H;exact absurd H (by simp)
       ·rw[if_neg c12] at H;exact absurd H (by simp)
      ·rw[if_neg c10] at H;exact absurd H (by simp)
     ·rw[if_neg c9] at H;exact absurd H (by simp)
    ·rw[if_neg c8] at H;have c8b0:decide (x13_1 < (l0_5.length:Int))=false:=decide_eq_false c8;clear c8
     by_cases c30:a0_0=2
     ·rw[if_pos c30] at H;exact absurd H (by simp)
     ·rw[if_neg c30] at H;have c30b0:(a0_0 == 2)=false:=beq_eq_false_iff_ne.mpr c30;have c30b1:(a0_0 != 2)=true:=bne_iff_ne.mpr c30
      by_cases c37:a0_0=3
      ·rw[if_pos c37] at H;have c37b0:(a0_0 == 3)=true:=beq_iff_eq.mpr c37;have c37b1:(a0_0 != 3)=false:=bne_eq_false_iff_eq.mpr c37;clear c37;replace H:=jq8.mp H;obtain⟨t114,A380,H⟩:=H;try dsimp only at H
       have A38:=U.mk A380;clear A380
       by_cases c39 : 1 + t114.size≤9223372036854775807
       ·rw[if_pos c39] at H;have c39b0:=eq_true c39;have c39b1:decide (1 + t114.size≤9223372036854775807)=true:=decide_eq_true c39;try have c39b2:(9223372036854775807 < 1 + t114.size)=False:=eq_false (Nat.not_lt.2 c39)
        by_cases c40:((⟨#[123]⟩ : ByteArray) ++ t114).size + 1≤9223372036854775807
        ·rw[if_pos c40] at H;have c40b0:=eq_true c40;have c40b1:decide (((⟨#[123]⟩ : ByteArray) ++ t114).size + 1≤9223372036854775807)=true:=decide_eq_true c40;try have c40b2:(9223372036854775807 < ((⟨#[123]⟩ : ByteArray) ++ t114).size + 1)=False:=eq_false (Nat.not_lt.2 c40)
         try (have c40b9:=c40b2;simp only[ByteArray.size_append,show(⟨#[123]⟩ : ByteArray).size=1 from rfl] at c40b9)
         obtain rfl:=Option.some.inj H;obtain⟨y41_0,y41_1,y41_2,y41_3,y41_4,y41_5,y41_6,z41_0,z41_1,z41_2,z41_3,z41_4,z41_5,z41_6⟩:=bx7f BK101.out;obtain⟨Ao42,co42,eo42⟩:=Kd.R_slice HO_3.out;subst eo42;go_wp2_with (first|((with_reducible refine zx (f:=45) rfl ?_);refine goesL_ (some 47) rfl rfl Tryz.func45 (by kernel_rfl) rfl #[.slice Ao42 x3_1.length co42,.string (⟨#[44]⟩ : ByteArray)] rfl (by(try simp only[jq0,jq1,jq2]);first|done|rfl|(simp only[jq3,jq4];rfl)) ?_;(with_reducible refine(zqx.calls _ _ x3_1 (⟨#[44]⟩ : ByteArray) t114 _ ?side1 ?side2 A38.out).mono ?_);(case side1=>solve_by_elim only[(Kd.R_reads' HO_3.out).2.2,Kd.C_alloc,Kd.C_drewN,Kd.C_drew]);(case side2=>exact(Kd.R_reads' HO_3.out).2.1);rintro e w43 ⟨rfl,hb⟩;refine⟨_,rfl,?_⟩;replace HO_3:=U.mk (Kd.R_below (by solve_by_elim only[HO_3.out,Kd.zj,Kd.zz,Kd.zk]) hb);replace BK101:=U.mk (jx (by solve_by_elim only[BK101.out,qk,qv,qj]) hb);replace HB:=U.mk (qx (by solve_by_elim (maxDepth:=20) only[HB.out,L,O,J,qz,GE101.out]) hb);(try clear hb)))
         go_ret
         exact⟨by first|rfl|(simp[*,zw,zv] <;> rfl),by solve_by_elim (maxDepth:=20) only[HB.out,L,O,J,qz,GE101.out]⟩
        ·rw[if_neg c40] at H;exact absurd H (by simp)
       ·rw[if_neg c39] at H;exact absurd H (by simp)
      ·rw[if_neg c37] at H;exact absurd H (by simp)
 ·replace c3:=jq9.mpr c3;subst c3;have H1:(some (⟨#[]⟩ : ByteArray))=some r:=by rw[if_neg (show ¬ (false=true) by decide)] at H;exact H
  clear H;have H:=H1;clear H1;obtain rfl:=Option.some.inj H;go_enter Tryz.func25,Tryz.ntmps25;go_wp2_with (first|((with_reducible refine gate_dst (N:=1) rfl ?_);refine box_event ?hg (N:=1) ?hd (cs:=#[.int .i64 a0_0,.int .i64 a0_1,.int .i64 a0_2,.string a0_3,.string a0_4,.slice A0_5 l0_5.length c0_5,.slice A0_6 l0_6.length c0_6]) (t:=33) ?hr ?_;(case hd=>rfl);(case hg=>rfl);(case hr=>first|(go_simp;done)|(go_simp;rfl));intro gb101 hg w47 hbox hb;have BK101:=U.mk (hbox);have GW101:=U.mk ((by rw[hg];exact(zq (by solve_by_elim only[HB.out,L,O,J])):w.heap.size≤gb101));have GE101:=GW101;replace HB:=U.mk (qx (by solve_by_elim only[HB.out,L,O,J]) hb);clear hb hbox hg;obtain⟨y48_0,y48_1,y48_2,y48_3,y48_4,y48_5,y48_6,z48_0,z48_1,z48_2,z48_3,z48_4,z48_5,z48_6⟩:=bx7f BK101.out)|((with_reducible refine zx (f:=43) rfl ?_);refine goesL_ (some 8) rfl rfl Tryz.func43 (by kernel_rfl) rfl #[.agg #[.int .i64 a0_0,.int .i64 a0_1,.int .i64 a0_2,.string a0_3,.string a0_4,.slice A0_5 l0_5.length c0_5,.slice A0_6 l0_6.length c0_6]] rfl (by(try simp only[jq0,jq1,jq2]);first|done|rfl|(simp only[jq3,jq4];rfl)) ?_;(with_reducible refine(wq.calls k a0_0 a0_1 a0_2 a0_3 a0_4 _ _ l0_5 _ _ l0_6 false _ ?side1 ?side2 ?side3 ?side4 A2.out).mono ?_);(case side1=>solve_by_elim only[(Kd.C_below HR0_5.out HB.out),Kd.C_alloc,Kd.C_drewN,Kd.C_drew]);(case side2=>exact HC0_5.out);(case side3=>solve_by_elim only[(Kd.C_below HR0_6.out HB.out),Kd.C_alloc,Kd.C_drewN,Kd.C_drew]);(case side4=>exact HC0_6.out);rintro e w49 ⟨rfl,hb⟩;refine⟨_,rfl,?_⟩;replace BK101:=U.mk (jx (by solve_by_elim only[BK101.out,qk,qv,qj]) hb);replace HB:=U.mk (qx (by solve_by_elim (maxDepth:=20) only[HB.out,L,O,J,qz,GE101.out]) hb);(try clear hb)))
  go_ret
  exact⟨by first|rfl|(simp[*,zw,zv] <;> rfl),by solve_by_elim (maxDepth:=20) only[HB.out,L,O,J,qz,GE101.out]⟩
def qqq.f (l0:List Int):Option (Int):=if (l0.length:Int) < 4 then(some 0) else(if 0 < (l0.length:Int) then(if 1 < (l0.length:Int) then(if 2 < (l0.length:Int) then(if 3 < (l0.length:Int) then(some (Go.bits .or .i64 (Go.bits .or .i64 (Go.bits .or .i64 (wrap64 (rd l0 0)) (wrap64 ((wrap64 (rd l0 1)) * 256))) (wrap64 ((wrap64 (rd l0 2)) * 65536))) (wrap64 ((wrap64 (rd l0 3)) * 16777216)))) else(none)) else(none)) else(none)) else(none))
theorem qqq.calls (A0:Option Addr) (c0:Nat) (l0:List Int) (r:Int) (w:World) (hr0:Kd.C (Kd.int .u8) w A0 l0.length l0) (hc0:l0.length≤c0) (h:qqq.f l0=some r) :
  Calls Tryz.prog 48 #[.slice A0 l0.length c0] w fun e w'=>e=.returned (.int .i64 r)∧Drawn0 w w':=by
 have HR0:=U.mk hr0;have HC0:=U.mk hc0;clear hr0 hc0;unfold qqq.f at h;have H:=h;clear h
 by_cases c2:(l0.length:Int) < 4
 ·rw[if_pos c2] at H;have c2b0:decide ((l0.length:Int) < 4)=true:=decide_eq_true c2;have c2b1:decide (l0.length < 4)=true:=decide_eq_true (by omega);clear c2;obtain rfl:=Option.some.inj H;go_enter Tryz.func48,Tryz.ntmps48;go_wp2
  repeat(go_quiet (fail);try go_wp2)
  go_ret
  exact⟨by first|rfl|(simp;done)|(simp[*];done),by repeat(first|exact Drawn0.refl _|apply Drawn0.step)⟩
 ·rw[if_neg c2] at H;have c2b0:decide ((l0.length:Int) < 4)=false:=decide_eq_false c2;have c2b1:decide (l0.length < 4)=false:=decide_eq_false (by omega);clear c2
  by_cases c3 : 0 < (l0.length:Int)
  ·rw[if_pos c3] at H;have c3b0:decide (0 < (l0.length:Int))=true:=decide_eq_true c3;have c3b1:decide (0 < l0.length)=true:=decide_eq_true (by omega);clear c3
   by_cases c4 : 1 < (l0.length:Int)
   ·rw[if_pos c4] at H;have c4b0:decide (1 < (l0.length:Int))=true:=decide_eq_true c4;have c4b1:decide (1 < l0.length)=true:=decide_eq_true (by omega);clear c4
    by_cases c5 : 2 < (l0.length:Int)
    ·rw[if_pos c5] at H;have c5b0:decide (2 < (l0.length:Int))=true:=decide_eq_true c5;have c5b1:decide (2 < l0.length)=true:=decide_eq_true (by omega);clear c5
     by_cases c6 : 3 < (l0.length:Int)
     ·rw[if_pos c6] at H;have c6b0:decide (3 < (l0.length:Int))=true:=decide_eq_true c6;have c6b1:decide (3 < l0.length)=true:=decide_eq_true (by omega);clear c6;obtain rfl:=Option.some.inj H;have p101 : 0≤(0:Int):=(by omega);have q101 : 0 < (l0.length:Int):=of_decide_eq_true (by assumption);obtain⟨ad101,e101,hx101_0⟩:=Kd.at_int HR0.out 0 p101 q101
      cases e101
      have qi101:(0 < l0.length)=True:=eq_true (by omega)
      (try rw[show((0:Int)).toNat=0 from rfl] at hx101_0)
      (try rw[Addr.add_zero'] at hx101_0)
      replace p101:=eq_true p101;replace q101:=eq_true q101;have p102 : 0≤(1:Int):=(by omega);have q102 : 1 < (l0.length:Int):=of_decide_eq_true (by assumption);obtain⟨ad102,e102,hx102_0⟩:=Kd.at_int HR0.out 1 p102 q102;obtain rfl:ad101=ad102:=(by injection e102)
      (try simp only[show(1:Int).toNat=1 from rfl,Nat.reduceMul,Nat.reduceEqDiff,Go.Addr.add,↓reduceIte] at hx102_0)
      have qi102:(1 < l0.length)=True:=eq_true (by omega)
      (try rw[show((1:Int)).toNat=1 from rfl] at hx102_0)
      replace p102:=eq_true p102;replace q102:=eq_true q102;have p103 : 0≤(2:Int):=(by omega);have q103 : 2 < (l0.length:Int):=of_decide_eq_true (by assumption);obtain⟨ad103,e103,hx103_0⟩:=Kd.at_int HR0.out 2 p103 q103;obtain rfl:ad101=ad103:=(by injection e103)
      (try simp only[show(2:Int).toNat=2 from rfl,Nat.reduceMul,Nat.reduceEqDiff,Go.Addr.add,↓reduceIte] at hx103_0)
      have qi103:(2 < l0.length)=True:=eq_true (by omega)
      (try rw[show((2:Int)).toNat=2 from rfl] at hx103_0)
      replace p103:=eq_true p103;replace q103:=eq_true q103;have p104 : 0≤(3:Int):=(by omega);have q104 : 3 < (l0.length:Int):=of_decide_eq_true (by assumption);obtain⟨ad104,e104,hx104_0⟩:=Kd.at_int HR0.out 3 p104 q104;obtain rfl:ad101=ad104:=(by injection e104)
      (try simp only[show(3:Int).toNat=3 from rfl,Nat.reduceMul,Nat.reduceEqDiff,Go.Addr.add,↓reduceIte] at hx104_0)
      have qi104:(3 < l0.length)=True:=eq_true (by omega)
      (try rw[show((3:Int)).toNat=3 from rfl] at hx104_0)
      replace p104:=eq_true p104;replace q104:=eq_true q104;go_enter Tryz.func48,Tryz.ntmps48;go_wp2
      repeat(go_quiet (fail);try go_wp2)
      go_ret
      exact⟨by first|rfl|(simp;done)|(simp[*];done),by repeat(first|exact Drawn0.refl _|apply Drawn0.step)⟩
     ·rw[if_neg c6] at H;exact absurd H (by simp)
    ·rw[if_neg c5] at H;exact absurd H (by simp)
   ·rw[if_neg c4] at H;exact absurd H (by simp)
  ·rw[if_neg c3] at H;exact absurd H (by simp)
def wj.j0:Nat→List Int→List Int→Bool→Option (List Int)
 | 0,_,_,_=>none
 | k + 1,x0,x1,x12=>if x12=true then(some ([]:List Int)) else((vv.f x0).bind fun t101=>((vv.f x1).bind fun t104=>(if t101.length + t104.length < 140737488355328 then((vv.f (t101 ++ t104)).bind fun t110=>(some t110)) else(none))))
def wj.f (k:Nat) (l0:List Int) (l1:List Int):Option (List Int):=if (l0.length:Int) > 20000 then(wj.j0 k l0 l1 true) else(wj.j0 k l0 l1 (decide ((l1.length:Int) > 20000)))
theorem wj.calls (k:Nat) (A0:Option Addr) (c0:Nat) (l0:List Int) (A1:Option Addr) (c1:Nat) (l1:List Int) (r:List Int) (w:World) (hr0:Kd.C (Kd.int .u8) w A0 l0.length l0) (hc0:l0.length≤c0) (hr1:Kd.C (Kd.int .u8) w A1 l1.length l1) (hc1:l1.length≤c1) (h:wj.f k l0 l1=some r) :
  Calls Tryz.prog 49 #[.slice A0 l0.length c0,.slice A1 l1.length c1] w fun e w'=>∃ v0_:Value,e=.returned (v0_)∧Kd.R (Kd.int .u8) 5 w' w.heap.size (fun _=>True) v0_ r∧Below w.heap.size w w':=by
 have HR0:=U.mk hr0;have HC0:=U.mk hc0;clear hr0 hc0;have HR1:=U.mk hr1;have HC1:=U.mk hc1;clear hr1 hc1;have HB:=U.mk (Below.refl w.heap.size w);unfold wj.f at h;have H:=h;clear h;have HC3:=U.mk H;clear H;go_enter Tryz.func49,Tryz.ntmps49;go_upto_region 1 with (fail)
 go_cut [12] (fun v12 wc=>∃ (kq:Nat) (x12_2:Bool),v12=.bool x12_2∧U (wj.j0 kq l0 l1 x12_2=some r)∧U (kq≤k)∧U (Below w.heap.size w wc))
 case first =>
  have H:=HC3.out;clear HC3
  by_cases c4:(l0.length:Int) > 20000
  ·rw[if_pos c4] at H;have c4b0:decide (20000 < (l0.length:Int))=true:=decide_eq_true c4;have c4b1:decide (20000 < l0.length)=true:=decide_eq_true (by omega);clear c4
   (first|rw[c4b0]|(simp only[i64_w,i32_w];rw[c4b0])|skip)
   have H':=U.mk H;clear H;go_wp2;go_meet
   case rel=>exact⟨_,(true),(by first|rfl|(simp;done)|(simp[*];done)),H',⟨by first|omega|exact Nat.le_refl _⟩,⟨by solve_by_elim only[HB.out,L,O,J]⟩⟩
  ·rw[if_neg c4] at H;have c4b0:decide (20000 < (l0.length:Int))=false:=decide_eq_false c4;have c4b1:decide (20000 < l0.length)=false:=decide_eq_false (by omega);clear c4
   (first|rw[c4b0]|(simp only[i64_w,i32_w];rw[c4b0])|skip)
   have H':=U.mk H;clear H;go_wp2;go_meet
   case rel=>exact⟨_,(decide ((l1.length:Int) > 20000)),(by first|rfl|(simp;done)|(simp[*];done)),H',⟨by first|omega|exact Nat.le_refl _⟩,⟨by solve_by_elim only[HB.out,L,O,J]⟩⟩
 case rest =>
  clear HC3;try clear c1
  try clear p2
  try clear c4
  try clear c4b0
  try clear c4b1
  obtain⟨kq,x12_2,rfl,HA,HJ2,HB⟩:=hcut
  cases kq with
  | zero=>exact absurd HA.out (by simp[wj.j0])
  | succ kj2 =>
   have H:=HA.out;clear HA;simp only[wj.j0] at H
   by_cases c5:x12_2=true
   ·subst c5;have H1:(some ([]:List Int))=some r:=by rw[if_pos rfl] at H;exact H
    clear H;have H:=H1;clear H1;obtain rfl:=Option.some.inj H;go_wp2;go_ret
    exact⟨_,by first|rfl|(simp[*,zw,zv] <;> rfl),by first|exact Kd.R_nil _ _ _ _ _|exact Kd.N_nil _ _ _ _ _|exact Kd.V_nil _ _ _ _ _|exact Kd.Q_nil _ _ _ _ _|exact Kd.S_nil _ _ _ _ _,by solve_by_elim only[HB.out,L,O,J]⟩
   ·replace c5:=jq9.mpr c5;subst c5;have H1:((vv.f l0).bind fun t101=>((vv.f l1).bind fun t104=>(if t101.length + t104.length < 140737488355328 then((vv.f (t101 ++ t104)).bind fun t110=>(some t110)) else(none))))=some r:=by rw[if_neg (show ¬ (false=true) by decide)] at H;exact H
    clear H;have H:=H1;clear H1;replace H:=jq8.mp H;obtain⟨t101,A60,H⟩:=H;try dsimp only at H
    have A6:=U.mk A60;clear A60;replace H:=jq8.mp H;obtain⟨t104,A70,H⟩:=H;try dsimp only at H
    have A7:=U.mk A70;clear A70
    by_cases c8:t101.length + t104.length < 140737488355328
    ·rw[if_pos c8] at H;have LMc8:=U.mk c8;clear c8;obtain⟨y107,hy107⟩ : ∃ y_:List Int,y_=(t101 ++ t104):=⟨_,rfl⟩;replace H:((vv.f y107).bind fun t110=>(some t110))=some r:=by first|(rw[hy107];with_reducible exact H)|(have H2_:=(Option.bind_some _ _).symm.trans H;rw[hy107];with_reducible exact H2_)|(have H2_:=(Option.bind_some _ _).symm.trans H;with_reducible exact H2_)|with_reducible exact H|(rw[hy107];exact H)|exact H
     have Ny107:=U.mk hy107;clear hy107;replace H:=jq8.mp H;obtain⟨t110,A90,H⟩:=H;replace H:(some t110)=some r:=H;have A9:=U.mk A90;clear A90;obtain rfl:=Option.some.inj H;go_wp2_with (first|((with_reducible refine zx (f:=78) rfl ?_);refine goesL_ (some 14) rfl rfl Tryz.func78 (by kernel_rfl) rfl #[.slice A0 l0.length c0] rfl (by(try simp only[jq0,jq1,jq2]);first|done|rfl|(simp only[jq3,jq4];rfl)) ?_;(with_reducible refine(vv.calls _ _ l0 t101 _ ?side1 ?side2 A6.out).mono ?_);(case side1=>solve_by_elim only[(Kd.C_below HR0.out HB.out),Kd.C_alloc,Kd.C_drewN,Kd.C_drew]);(case side2=>exact HC0.out);rintro e w10 ⟨v102,rfl,ho0,hb⟩;refine⟨_,rfl,?_⟩;have HO103:=U.mk (Kd.R_lower ho0 (zq (by solve_by_elim only[HB.out,L,O,J])));replace HB:=U.mk (qx (by solve_by_elim only[HB.out,L,O,J]) hb);(try clear hb ho0))|((with_reducible refine zx (f:=78) rfl ?_);refine goesL_ (some 16) rfl rfl Tryz.func78 (by kernel_rfl) rfl #[.slice A1 l1.length c1] rfl (by(try simp only[jq0,jq1,jq2]);first|done|rfl|(simp only[jq3,jq4];rfl)) ?_;(with_reducible refine(vv.calls _ _ l1 t104 _ ?side1 ?side2 A7.out).mono ?_);(case side1=>solve_by_elim only[(Kd.C_below HR1.out HB.out),Kd.C_alloc,Kd.C_drewN,Kd.C_drew]);(case side2=>exact HC1.out);rintro e w11 ⟨v105,rfl,ho0,hb⟩;refine⟨_,rfl,?_⟩;have HO106:=U.mk (Kd.R_lower (Kd.R_new' ho0 (Kd.R_lt (by solve_by_elim only[HO103.out,Kd.zj,Kd.zz,Kd.zk]))) (zq (by solve_by_elim only[HB.out,L,O,J])));replace HO103:=U.mk (Kd.R_elder' (by solve_by_elim only[HO103.out,Kd.zj,Kd.zz,Kd.zk]) (Kd.R_base ho0) hb);replace HB:=U.mk (qx (by solve_by_elim only[HB.out,L,O,J]) hb);(try clear hb ho0);obtain⟨Ao13,co13,eo13⟩:=Kd.R_slice HO106.out;subst eo13)|((with_reducible refine gate_builtin (b:=.append) (xs:=#[.tmp 14,.tmp 16]) rfl ?_);(try (refine gate_guard (by rfl) ?_;dsimp only));at_builtin;refine Kd.R_append_rows (Kd.int .u8) (w0:=w) w.heap.size rfl (.tmp 14) (.tmp 16) 44 5 (.int .u8 0) 1 rfl Tryz.underlying44 info5 rfl (by decide) (by omega) v102 t101 t104 _ _ _ (fun k_=>some k_≠(.slice Ao13 t104.length co13:Value).ownBlock) (fun _=>False) rfl rfl ?aO ?aR (fun _ _ h=>h) (fun _ h=>h.elim) ?aF ?aB ?aS ?aL ?_;(case aR=>repeat(first|exact(Kd.R_reads' HO106.out).2.2|(with_reducible refine Kd.C_alloc ?_ _)|(with_reducible refine Kd.C_drewN ?_ _)|(with_reducible refine Kd.C_drew ?_)));(case aB=>exact(by solve_by_elim only[HB.out,L,O,J]));(case aF=>exact(fun k_ hk=>Kd.fresh' (Kd.R_lt (by solve_by_elim only[HO106.out,Kd.zj,Kd.zz,Kd.zk])) k_ hk));(case aO=>exact(by(with_reducible repeat(first|apply Kd.zj|apply Kd.zz|apply Kd.zk));exact Kd.R_mono HO103.out (fun _ hk=>hk.2)));(case aS=>exact(zq (by solve_by_elim only[HB.out,L,O,J])));(case aL=>have:=LMc8.out;omega);intro v108 w12 ho hb hg hat;rw[← Ny107.out] at ho;replace HO106:=U.mk (Kd.R_after (ok:=(fun _=>True)) (by solve_by_elim only[HO106.out,Kd.zj,Kd.zz,Kd.zk]) hg hat);replace HB:=U.mk (hb);have HO109:=U.mk (ho);clear HO103;clear ho hb hg hat;obtain⟨Ao14,co14,eo14⟩:=Kd.R_slice HO109.out;subst eo14)|((with_reducible refine zx (f:=78) rfl ?_);refine goesL_ (some 18) rfl rfl Tryz.func78 (by kernel_rfl) rfl #[.slice Ao14 y107.length co14] rfl (by(try simp only[jq0,jq1,jq2]);first|done|rfl|(simp only[jq3,jq4];rfl)) ?_;(with_reducible refine(vv.calls _ _ y107 t110 _ ?side1 ?side2 A9.out).mono ?_);(case side1=>solve_by_elim only[(Kd.R_reads' HO109.out).2.2,Kd.C_alloc,Kd.C_drewN,Kd.C_drew]);(case side2=>exact(Kd.R_reads' HO109.out).2.1);rintro e w15 ⟨v111,rfl,ho0,hb⟩;refine⟨_,rfl,?_⟩;have HO112:=U.mk (Kd.R_lower (Kd.R_new' (Kd.R_new' ho0 (Kd.R_lt (by solve_by_elim only[HO106.out,Kd.zj,Kd.zz,Kd.zk]))) (Kd.R_lt (by solve_by_elim only[HO109.out,Kd.zj,Kd.zz,Kd.zk]))) (zq (by solve_by_elim only[HB.out,L,O,J])));replace HO106:=U.mk (Kd.R_elder' (by solve_by_elim only[HO106.out,Kd.zj,Kd.zz,Kd.zk]) (Kd.R_base ho0) hb);replace HO109:=U.mk (Kd.R_elder' (by solve_by_elim only[HO109.out,Kd.zj,Kd.zz,Kd.zk]) (Kd.R_base ho0) hb);replace HB:=U.mk (qx (by solve_by_elim only[HB.out,L,O,J]) hb);(try clear hb ho0)))
     go_ret
     exact⟨_,by first|rfl|(simp[*,zw,zv] <;> rfl),by(with_reducible repeat(first|apply Kd.zj|apply Kd.zz|apply Kd.zk));exact Kd.R_mono HO112.out (fun _ hk=>trivial),by solve_by_elim only[HB.out,L,O,J]⟩
    ·rw[if_neg c8] at H;exact absurd H (by simp)
def qqz.l0:Nat→Int→Int→Int→Int→Option (Int)
 | 0,_,_,_,_=>none
 | k + 1,x0,x1,x2,x7=>if x1 > 0 then(if (Go.bits .and .i64 x1 1)=1 then(if x2=0 then(none) else(qqz.l0 k (Int.tmod (wrap64 (x0 * x0)) x2) (x1 / 2) x2 (Int.tmod (wrap64 (x7 * x0)) x2))) else(if x2=0 then(none) else(qqz.l0 k (Int.tmod (wrap64 (x0 * x0)) x2) (x1 / 2) x2 x7))) else(some x7)
def qqz.f (k:Nat) (a0:Int) (a1:Int) (a2:Int):Option (Int):=if a2=0 then(none) else(qqz.l0 k (Int.tmod a0 a2) a1 a2 1)
theorem qqz.calls (k:Nat) (a0:Int) (a1:Int) (a2:Int) (r:Int) (w:World) (h:qqz.f k a0 a1 a2=some r) :
  Calls Tryz.prog 50 #[.int .i64 a0,.int .i64 a1,.int .i64 a2] w fun e w'=>e=.returned (.int .i64 r)∧Drawn0 w w':=by
 have H:(if a2=0 then(none) else(qqz.l0 k (Int.tmod a0 a2) a1 a2 1))=some r:=h;clear h
 by_cases c4:a2=0
 ·rw[if_pos c4] at H;exact absurd H (by simp)
 ·rw[if_neg c4] at H;have c4b0:(a2 == 0)=false:=beq_eq_false_iff_ne.mpr c4;have c4b1:(a2 != 0)=true:=bne_iff_ne.mpr c4;have H':=U.mk H;clear H;go_enter Tryz.func50,Tryz.ntmps50;go_wp2
  go_loopg [0,1,7] k (fun kq v0 v1 v7 w'=>∃ (x0_1:Int) (x1_1:Int) (x7_1:Int),v0=.int .i64 x0_1∧v1=.int .i64 x1_1∧v7=.int .i64 x7_1∧U (qqz.l0 kq x0_1 x1_1 a2 x7_1=some r)∧U (kq≤k)∧Drawn0 w w')
  case atStart=>exact⟨(Int.tmod a0 a2),(a1),(1),(by first|rfl|(simp;done)|(simp[*];done)),(by first|rfl|(simp;done)|(simp[*];done)),(by first|rfl|(simp;done)|(simp[*];done)),H',⟨Nat.le_refl _⟩,by repeat(first|exact Drawn0.refl _|apply Drawn0.step)⟩
  case round =>
   clear H';try clear p2
   try clear c4
   try clear c4b0
   try clear c4b1
   obtain⟨x0_1,x1_1,x7_1,rfl,rfl,rfl,HA,HK1,⟨m1,rfl⟩⟩:=hrel
   cases gk with
   | zero=>exact absurd HA.out (by simp[qqz.l0])
   | succ k1 =>
    have H:=HA.out;clear HA;simp only[qqz.l0] at H
    by_cases c5:x1_1 > 0
    ·rw[if_pos c5] at H;have c5b0:decide (0 < x1_1)=true:=decide_eq_true c5;clear c5
     by_cases c6:(Go.bits .and .i64 x1_1 1)=1
     ·rw[if_pos c6] at H;have c6b0:((Go.bits .and .i64 x1_1 1) == 1)=true:=beq_iff_eq.mpr c6;have c6b1:((Go.bits .and .i64 x1_1 1) != 1)=false:=bne_eq_false_iff_eq.mpr c6;clear c6
      by_cases c7:a2=0
      ·rw[if_pos c7] at H;exact absurd H (by simp)
      ·rw[if_neg c7] at H;have c7b0:(a2 == 0)=false:=beq_eq_false_iff_ne.mpr c7;have c7b1:(a2 != 0)=true:=bne_iff_ne.mpr c7;have H':=U.mk H;clear H;go_wp2;go_roundg k1
       case measure=>have:=HK1.out;omega
       case rel=>exact⟨(Int.tmod (wrap64 (x0_1 * x0_1)) a2),(x1_1 / 2),(Int.tmod (wrap64 (x7_1 * x0_1)) a2),(by first|rfl|(simp;done)|(simp[*];done)),(by first|rfl|(simp;done)|(simp[*];done)),(by first|rfl|(simp;done)|(simp[*];done)),H',⟨by have:=HK1.out;omega⟩,by repeat(first|exact Drawn0.refl _|apply Drawn0.step)⟩
     ·rw[if_neg c6] at H;have c6b0:((Go.bits .and .i64 x1_1 1) == 1)=false:=beq_eq_false_iff_ne.mpr c6;have c6b1:((Go.bits .and .i64 x1_1 1) != 1)=true:=bne_iff_ne.mpr c6
      by_cases c8:a2=0
      ·rw[if_pos c8] at H;exact absurd H (by simp)
      ·rw[if_neg c8] at H;have c8b0:(a2 == 0)=false:=beq_eq_false_iff_ne.mpr c8;have c8b1:(a2 != 0)=true:=bne_iff_ne.mpr c8;have H':=U.mk H;clear H;go_wp2;go_roundg k1
       case measure=>have:=HK1.out;omega
       case rel=>exact⟨(Int.tmod (wrap64 (x0_1 * x0_1)) a2),(x1_1 / 2),(x7_1),(by first|rfl|(simp;done)|(simp[*];done)),(by first|rfl|(simp;done)|(simp[*];done)),(by first|rfl|(simp;done)|(simp[*];done)),H',⟨by have:=HK1.out;omega⟩,by repeat(first|exact Drawn0.refl _|apply Drawn0.step)⟩
    ·rw[if_neg c5] at H;have c5b0:decide (0 < x1_1)=false:=decide_eq_false c5;clear c5;obtain rfl:=Option.some.inj H;go_wp2;go_ret
     exact⟨by first|rfl|(simp;done)|(simp[*];done),by repeat(first|exact Drawn0.refl _|apply Drawn0.step)⟩
def xj.f (a0:Int) (l1:List Int):Option (Int):=(xz.f a0).bind fun t101=>((vv.f l1).bind fun t104=>(if t101.length + t104.length < 140737488355328 then((vv.f (t101 ++ t104)).bind fun t110=>((qqq.f t110).bind fun t113=>(some (Int.tmod t113 1073741789)))) else(none)))
theorem xj.calls (a0:Int) (A1:Option Addr) (c1:Nat) (l1:List Int) (r:Int) (w:World) (hr1:Kd.C (Kd.int .u8) w A1 l1.length l1) (hc1:l1.length≤c1) (h:xj.f a0 l1=some r) :
  Calls Tryz.prog 51 #[.int .i64 a0,.slice A1 l1.length c1] w fun e w'=>e=.returned (.int .i64 r)∧Below w.heap.size w w':=by
 have HR1:=U.mk hr1;have HC1:=U.mk hc1;clear hr1 hc1;have HB:=U.mk (Below.refl w.heap.size w);unfold xj.f at h;have H:=h;clear h;replace H:=jq8.mp H;obtain⟨t101,A30,H⟩:=H;try dsimp only at H
 have A3:=U.mk A30;clear A30;replace H:=jq8.mp H;obtain⟨t104,A40,H⟩:=H;try dsimp only at H
 have A4:=U.mk A40;clear A40
 by_cases c5:t101.length + t104.length < 140737488355328
 ·rw[if_pos c5] at H;have LMc5:=U.mk c5;clear c5;obtain⟨y107,hy107⟩ : ∃ y_:List Int,y_=(t101 ++ t104):=⟨_,rfl⟩;replace H:((vv.f y107).bind fun t110=>((qqq.f t110).bind fun t113=>(some (Int.tmod t113 1073741789))))=some r:=by first|(rw[hy107];with_reducible exact H)|(have H2_:=(Option.bind_some _ _).symm.trans H;rw[hy107];with_reducible exact H2_)|(have H2_:=(Option.bind_some _ _).symm.trans H;with_reducible exact H2_)|with_reducible exact H|(rw[hy107];exact H)|exact H
  have Ny107:=U.mk hy107;clear hy107;replace H:=jq8.mp H;obtain⟨t110,A60,H⟩:=H;try dsimp only at H
  have A6:=U.mk A60;clear A60;replace H:=jq8.mp H;obtain⟨t113,A70,H⟩:=H;try dsimp only at H
  have A7:=U.mk A70;clear A70;obtain rfl:=Option.some.inj H;go_enter Tryz.func51,Tryz.ntmps51;go_wp2_with (first|((with_reducible refine zx (f:=28) rfl ?_);refine goesL_ (some 6) rfl rfl Tryz.func28 (by kernel_rfl) rfl #[.int .i64 a0] rfl (by(try simp only[jq0,jq1,jq2]);first|done|rfl|(simp only[jq3,jq4];rfl)) ?_;(with_reducible refine(xz.calls a0 t101 _ A3.out).mono ?_);rintro e w8 ⟨v102,rfl,ho0,hb⟩;refine⟨_,rfl,?_⟩;have HO103:=U.mk (Kd.R_lower ho0 (zq (by solve_by_elim only[HB.out,L,O,J])));replace HB:=U.mk (qx (by solve_by_elim only[HB.out,L,O,J]) hb);(try clear hb ho0))|((with_reducible refine zx (f:=78) rfl ?_);refine goesL_ (some 8) rfl rfl Tryz.func78 (by kernel_rfl) rfl #[.slice A1 l1.length c1] rfl (by(try simp only[jq0,jq1,jq2]);first|done|rfl|(simp only[jq3,jq4];rfl)) ?_;(with_reducible refine(vv.calls _ _ l1 t104 _ ?side1 ?side2 A4.out).mono ?_);(case side1=>solve_by_elim only[(Kd.C_below HR1.out HB.out),Kd.C_alloc,Kd.C_drewN,Kd.C_drew]);(case side2=>exact HC1.out);rintro e w9 ⟨v105,rfl,ho0,hb⟩;refine⟨_,rfl,?_⟩;have HO106:=U.mk (Kd.R_lower (Kd.R_new' ho0 (Kd.R_lt (by solve_by_elim only[HO103.out,Kd.zj,Kd.zz,Kd.zk]))) (zq (by solve_by_elim only[HB.out,L,O,J])));replace HO103:=U.mk (Kd.R_elder' (by solve_by_elim only[HO103.out,Kd.zj,Kd.zz,Kd.zk]) (Kd.R_base ho0) hb);replace HB:=U.mk (qx (by solve_by_elim only[HB.out,L,O,J]) hb);(try clear hb ho0);obtain⟨Ao11,co11,eo11⟩:=Kd.R_slice HO106.out;subst eo11)|((with_reducible refine gate_builtin (b:=.append) (xs:=#[.tmp 6,.tmp 8]) rfl ?_);at_builtin;refine Kd.R_append_rows (Kd.int .u8) (w0:=w) w.heap.size rfl (.tmp 6) (.tmp 8) 44 5 (.int .u8 0) 1 rfl Tryz.underlying44 info5 rfl (by decide) (by omega) v102 t101 t104 _ _ _ (fun k_=>some k_≠(.slice Ao11 t104.length co11:Value).ownBlock) (fun _=>False) rfl rfl ?aO ?aR (fun _ _ h=>h) (fun _ h=>h.elim) ?aF ?aB ?aS ?aL ?_;(case aR=>repeat(first|exact(Kd.R_reads' HO106.out).2.2|(with_reducible refine Kd.C_alloc ?_ _)|(with_reducible refine Kd.C_drewN ?_ _)|(with_reducible refine Kd.C_drew ?_)));(case aB=>exact(by solve_by_elim only[HB.out,L,O,J]));(case aF=>exact(fun k_ hk=>Kd.fresh' (Kd.R_lt (by solve_by_elim only[HO106.out,Kd.zj,Kd.zz,Kd.zk])) k_ hk));(case aO=>exact(by(with_reducible repeat(first|apply Kd.zj|apply Kd.zz|apply Kd.zk));exact Kd.R_mono HO103.out (fun _ hk=>hk.2)));(case aS=>exact(zq (by solve_by_elim only[HB.out,L,O,J])));(case aL=>have:=LMc5.out;omega);intro v108 w10 ho hb hg hat;rw[← Ny107.out] at ho;replace HO106:=U.mk (Kd.R_after (ok:=(fun _=>True)) (by solve_by_elim only[HO106.out,Kd.zj,Kd.zz,Kd.zk]) hg hat);replace HB:=U.mk (hb);have HO109:=U.mk (ho);clear HO103;clear ho hb hg hat;obtain⟨Ao12,co12,eo12⟩:=Kd.R_slice HO109.out;subst eo12)|((with_reducible refine zx (f:=78) rfl ?_);refine goesL_ (some 10) rfl rfl Tryz.func78 (by kernel_rfl) rfl #[.slice Ao12 y107.length co12] rfl (by(try simp only[jq0,jq1,jq2]);first|done|rfl|(simp only[jq3,jq4];rfl)) ?_;(with_reducible refine(vv.calls _ _ y107 t110 _ ?side1 ?side2 A6.out).mono ?_);(case side1=>solve_by_elim only[(Kd.R_reads' HO109.out).2.2,Kd.C_alloc,Kd.C_drewN,Kd.C_drew]);(case side2=>exact(Kd.R_reads' HO109.out).2.1);rintro e w13 ⟨v111,rfl,ho0,hb⟩;refine⟨_,rfl,?_⟩;have HO112:=U.mk (Kd.R_lower (Kd.R_new' (Kd.R_new' ho0 (Kd.R_lt (by solve_by_elim only[HO106.out,Kd.zj,Kd.zz,Kd.zk]))) (Kd.R_lt (by solve_by_elim only[HO109.out,Kd.zj,Kd.zz,Kd.zk]))) (zq (by solve_by_elim only[HB.out,L,O,J])));replace HO106:=U.mk (Kd.R_elder' (by solve_by_elim only[HO106.out,Kd.zj,Kd.zz,Kd.zk]) (Kd.R_base ho0) hb);replace HO109:=U.mk (Kd.R_elder' (by solve_by_elim only[HO109.out,Kd.zj,Kd.zz,Kd.zk]) (Kd.R_base ho0) hb);replace HB:=U.mk (qx (by solve_by_elim only[HB.out,L,O,J]) hb);(try clear hb ho0);obtain⟨Ao14,co14,eo14⟩:=Kd.R_slice HO112.out;subst eo14)|((with_reducible refine zx (f:=48) rfl ?_);refine goesL_ (some 11) rfl rfl Tryz.func48 (by kernel_rfl) rfl #[.slice Ao14 t110.length co14] rfl (by(try simp only[jq0,jq1,jq2]);first|done|rfl|(simp only[jq3,jq4];rfl)) ?_;(with_reducible refine(qqq.calls _ _ t110 t113 _ ?side1 ?side2 A7.out).mono ?_);(case side1=>solve_by_elim only[(Kd.R_reads' HO112.out).2.2,Kd.C_alloc,Kd.C_drewN,Kd.C_drew]);(case side2=>exact(Kd.R_reads' HO112.out).2.1);rintro e w' ⟨rfl,⟨nd,rfl⟩⟩;refine⟨_,rfl,?_⟩))
  go_ret
  exact⟨by first|rfl|(simp[*,zw,zv] <;> rfl),by solve_by_elim only[HB.out,L,O,J]⟩
 ·rw[if_neg c5] at H;exact absurd H (by simp)
def wk.j0:Nat→Int→List Int→Bool→Option (Int × Int)
 | 0,_,_,_=>none
 | k + 1,x0,x1,x14=>if x14=true then(some (0,0)) else((xz.f x0).bind fun t103=>((wj.f k t103 x1).bind fun t106=>((qqq.f t106).bind fun t109=>((qqz.f k 4 (wrap64 (1 + (Int.tmod t109 1073741788))) 2147483579).bind fun t110=>((xj.f t110 x1).bind fun t111=>(some (t110,Int.tmod (wrap64 ((wrap64 (1 + (Int.tmod t109 1073741788))) + (wrap64 (t111 * x0)))) 1073741789)))))))
def wk.f (k:Nat) (a0:Int) (l1:List Int):Option (Int × Int):=(qqw.f a0).bind fun t102=>(if t102=true then(wk.j0 k a0 l1 (decide ((l1.length:Int) > 20000))) else(wk.j0 k a0 l1 true))
theorem wk.calls (k:Nat) (a0:Int) (A1:Option Addr) (c1:Nat) (l1:List Int) (r1:Int) (r2:Int) (w:World) (hr1:Kd.C (Kd.int .u8) w A1 l1.length l1) (hc1:l1.length≤c1) (h:wk.f k a0 l1=some (r1,r2)) :
  Calls Tryz.prog 27 #[.int .i64 a0,.slice A1 l1.length c1] w fun e w'=>e=.returned (.agg #[.int .i64 r1,.int .i64 r2])∧Below w.heap.size w w':=by
 have hu47:=Tryz.underlying47;have HR1:=U.mk hr1;have HC1:=U.mk hc1;clear hr1 hc1;have HB:=U.mk (Below.refl w.heap.size w);unfold wk.f at h;have H:=h;clear h;have HC3:=U.mk H;clear H;go_enter Tryz.func27,Tryz.ntmps27;go_upto_region 1 with (first|((with_reducible refine gate_dst (N:=4) rfl ?_);(try (refine gate_guard (by rfl) ?_;dsimp only));refine box_event ?hg (N:=4) ?hd (cs:=#[.int .i64 0,.int .i64 0]) (t:=47) ?hr ?_;(case hd=>rfl);(case hg=>rfl);(case hr=>first|(go_simp;done)|(go_simp;rfl));intro gb101 hg w4 hbox hb;have BK101:=U.mk (hbox);have GW101:=U.mk ((by rw[hg];exact(zq (by solve_by_elim only[HB.out,L,O,J])):w.heap.size≤gb101));have GE101:=GW101;replace HB:=U.mk (qx (by solve_by_elim only[HB.out,L,O,J]) hb);clear hb hbox hg))
 (try simp only[Act.put,jq5,jq6,jq7])
 go_cut [14] (fun v14 wc=>∃ (kq:Nat) (x14_2:Bool),v14=.bool x14_2∧U (wk.j0 kq a0 l1 x14_2=some (r1,r2))∧U (kq≤k)∧U (wc.heap[gb101]? = some (.cells #[.int .i64 0,.int .i64 0] 47 (0,0)))∧U (Below w.heap.size w wc))
 case first =>
  have H:=HC3.out;clear HC3;replace H:=jq8.mp H;obtain⟨t102,A50,H⟩:=H;try dsimp only at H
  have A5:=U.mk A50;clear A50
  by_cases c6:t102=true
  ·subst c6;have H1:(wk.j0 k a0 l1 (decide ((l1.length:Int) > 20000)))=some (r1,r2):=by rw[if_pos rfl] at H;exact H
   clear H;have H:=H1;clear H1;have H':=U.mk H;clear H;go_wp2_with (first|((with_reducible refine zx (f:=22) rfl ?_);refine goesL_ (some 8) rfl rfl Tryz.func22 (by kernel_rfl) rfl #[.int .i64 a0] rfl (by(try simp only[jq0,jq1,jq2]);first|done|rfl|(simp only[jq3,jq4];rfl)) ?_;(with_reducible refine(qqw.calls a0 true _ A5.out).mono ?_);rintro e w' ⟨rfl,⟨nd,rfl⟩⟩;refine⟨_,rfl,?_⟩))
   go_meet
   case rel=>exact⟨_,(decide ((l1.length:Int) > 20000)),(by first|rfl|(simp;done)|(simp[*];done)),H',⟨by first|omega|exact Nat.le_refl _⟩,⟨by(with_reducible repeat(first|refine qk ?_ _|refine qv ?_|refine qj ?_ _));exact BK101.out⟩,⟨by solve_by_elim (maxDepth:=20) only[HB.out,L,O,J,qz,GE101.out]⟩⟩
  ·replace c6:=jq9.mpr c6;subst c6;have H1:(wk.j0 k a0 l1 true)=some (r1,r2):=by rw[if_neg (show ¬ (false=true) by decide)] at H;exact H
   clear H;have H:=H1;clear H1;have H':=U.mk H;clear H;go_wp2_with (first|((with_reducible refine zx (f:=22) rfl ?_);refine goesL_ (some 8) rfl rfl Tryz.func22 (by kernel_rfl) rfl #[.int .i64 a0] rfl (by(try simp only[jq0,jq1,jq2]);first|done|rfl|(simp only[jq3,jq4];rfl)) ?_;(with_reducible refine(qqw.calls a0 false _ A5.out).mono ?_);rintro e w' ⟨rfl,⟨nd,rfl⟩⟩;refine⟨_,rfl,?_⟩))
   go_meet
   case rel=>exact⟨_,(true),(by first|rfl|(simp;done)|(simp[*];done)),H',⟨by first|omega|exact Nat.le_refl _⟩,⟨by(with_reducible repeat(first|refine qk ?_ _|refine qv ?_|refine qj ?_ _));exact BK101.out⟩,⟨by solve_by_elim (maxDepth:=20) only[HB.out,L,O,J,qz,GE101.out]⟩⟩
 case rest =>
  clear HC3;try clear c1
  try clear c2
  try clear p2
  try clear c6
  obtain⟨kq,x14_2,rfl,HA,HJ2,BK101,HB⟩:=hcut
  cases kq with
  | zero=>exact absurd HA.out (by simp[wk.j0])
  | succ kj2 =>
   have H:=HA.out;clear HA;simp only[wk.j0] at H
   by_cases c7:x14_2=true
   ·subst c7;have H1:(some (0,0))=some (r1,r2):=by rw[if_pos rfl] at H;exact H
    clear H;have H:=H1;clear H1;simp only[Option.some.injEq,Prod.mk.injEq] at H;obtain⟨rfl,rfl⟩:=H;obtain⟨y8_0,y8_1,z8_0,z8_1⟩:=bx2f BK101.out;go_wp2;refine bodyPost_ret (results_cell_row rfl _ _ gb101 47 #[.int .i64 0,.int .i64 0] (0,0) _ rfl (by(with_reducible repeat(first|refine qk ?_ _|refine qv ?_|refine qj ?_ _));refine blk_put (cs:=#[.int .i64 0,.int .i64 0]) ?_ 1 _ rfl;(with_reducible repeat(first|refine qk ?_ _|refine qv ?_|refine qj ?_ _));refine blk_put (cs:=#[.int .i64 0,.int .i64 0]) ?_ 0 _ rfl;(with_reducible repeat(first|refine qk ?_ _|refine qv ?_|refine qj ?_ _));exact BK101.out) Tryz.underlying47 rfl (by kernel_rfl)) rfl ?_;exact⟨by first|rfl|(simp[*,zw,zv] <;> rfl),by solve_by_elim (maxDepth:=20) only[HB.out,L,O,J,qz,GE101.out]⟩
   ·replace c7:=jq9.mpr c7;subst c7;have H1:((xz.f a0).bind fun t103=>((wj.f kj2 t103 l1).bind fun t106=>((qqq.f t106).bind fun t109=>((qqz.f kj2 4 (wrap64 (1 + (Int.tmod t109 1073741788))) 2147483579).bind fun t110=>((xj.f t110 l1).bind fun t111=>(some (t110,Int.tmod (wrap64 ((wrap64 (1 + (Int.tmod t109 1073741788))) + (wrap64 (t111 * a0)))) 1073741789)))))))=some (r1,r2):=by rw[if_neg (show ¬ (false=true) by decide)] at H;exact H
    clear H;have H:=H1;clear H1;replace H:=jq8.mp H;obtain⟨t103,A90,H⟩:=H;try dsimp only at H
    have A9:=U.mk A90;clear A90;replace H:=jq8.mp H;obtain⟨t106,A100,H⟩:=H;try dsimp only at H
    have A10:=U.mk A100;clear A100;replace H:=jq8.mp H;obtain⟨t109,A110,H⟩:=H;try dsimp only at H
    have A11:=U.mk A110;clear A110;replace H:=jq8.mp H;obtain⟨t110,A120,H⟩:=H;try dsimp only at H
    have A12:=U.mk A120;clear A120;replace H:=jq8.mp H;obtain⟨t111,A130,H⟩:=H;try dsimp only at H
    have A13:=U.mk A130;clear A130;simp only[Option.some.injEq,Prod.mk.injEq] at H;obtain⟨rfl,rfl⟩:=H;go_wp2_with (first|((with_reducible refine zx (f:=28) rfl ?_);refine goesL_ (some 17) rfl rfl Tryz.func28 (by kernel_rfl) rfl #[.int .i64 a0] rfl (by(try simp only[jq0,jq1,jq2]);first|done|rfl|(simp only[jq3,jq4];rfl)) ?_;(with_reducible refine(xz.calls a0 t103 _ A9.out).mono ?_);rintro e w14 ⟨v104,rfl,ho0,hb⟩;refine⟨_,rfl,?_⟩;have HO105:=U.mk (Kd.R_lower ho0 (zq (by solve_by_elim (maxDepth:=20) only[HB.out,L,O,J,qz,GE101.out])));replace BK101:=U.mk (jx (by solve_by_elim only[BK101.out,qk,qv,qj]) hb);replace HB:=U.mk (qx (by solve_by_elim (maxDepth:=20) only[HB.out,L,O,J,qz,GE101.out]) hb);(try clear hb ho0);obtain⟨Ao15,co15,eo15⟩:=Kd.R_slice HO105.out;subst eo15)|((with_reducible refine zx (f:=49) rfl ?_);refine goesL_ (some 19) rfl rfl Tryz.func49 (by kernel_rfl) rfl #[.slice Ao15 t103.length co15,.slice A1 l1.length c1] rfl (by(try simp only[jq0,jq1,jq2]);first|done|rfl|(simp only[jq3,jq4];rfl)) ?_;(with_reducible refine(wj.calls kj2 _ _ t103 _ _ l1 t106 _ ?side1 ?side2 ?side3 ?side4 A10.out).mono ?_);(case side1=>solve_by_elim only[(Kd.R_reads' HO105.out).2.2,Kd.C_alloc,Kd.C_drewN,Kd.C_drew]);(case side2=>exact(Kd.R_reads' HO105.out).2.1);(case side3=>solve_by_elim only[(Kd.C_below HR1.out HB.out),Kd.C_alloc,Kd.C_drewN,Kd.C_drew]);(case side4=>exact HC1.out);rintro e w16 ⟨v107,rfl,ho0,hb⟩;refine⟨_,rfl,?_⟩;have HO108:=U.mk (Kd.R_lower (Kd.R_new' ho0 (Kd.R_lt (by solve_by_elim only[HO105.out,Kd.zj,Kd.zz,Kd.zk]))) (zq (by solve_by_elim (maxDepth:=20) only[HB.out,L,O,J,qz,GE101.out])));replace HO105:=U.mk (Kd.R_elder' (by solve_by_elim only[HO105.out,Kd.zj,Kd.zz,Kd.zk]) (Kd.R_base ho0) hb);replace BK101:=U.mk (jx (by solve_by_elim only[BK101.out,qk,qv,qj]) hb);replace HB:=U.mk (qx (by solve_by_elim (maxDepth:=20) only[HB.out,L,O,J,qz,GE101.out]) hb);(try clear hb ho0);obtain⟨Ao17,co17,eo17⟩:=Kd.R_slice HO108.out;subst eo17)|((with_reducible refine zx (f:=48) rfl ?_);refine goesL_ (some 20) rfl rfl Tryz.func48 (by kernel_rfl) rfl #[.slice Ao17 t106.length co17] rfl (by(try simp only[jq0,jq1,jq2]);first|done|rfl|(simp only[jq3,jq4];rfl)) ?_;(with_reducible refine(qqq.calls _ _ t106 t109 _ ?side1 ?side2 A11.out).mono ?_);(case side1=>solve_by_elim only[(Kd.R_reads' HO108.out).2.2,Kd.C_alloc,Kd.C_drewN,Kd.C_drew]);(case side2=>exact(Kd.R_reads' HO108.out).2.1);rintro e w' ⟨rfl,⟨nd,rfl⟩⟩;refine⟨_,rfl,?_⟩;(try (rw[drewN_self w16];generalize hq_:World.drewN w16 _=w16;have n0_:U (Kd.R (Kd.int .u8) 5 w16 w.heap.size (fun k_=>some k_≠(.slice Ao17 t106.length co17:Value).ownBlock) (.slice Ao15 t103.length co15) t103):=⟨by rw[← hq_];exact(by(with_reducible repeat(first|apply Kd.zj|apply Kd.zz|apply Kd.zk));exact Kd.R_mono HO105.out (fun _ hk=>hk.2))⟩;have n1_:U (Kd.R (Kd.int .u8) 5 w16 w.heap.size (fun k_=>some k_≠(.slice Ao15 t103.length co15:Value).ownBlock) (.slice Ao17 t106.length co17) t106):=⟨by rw[← hq_];exact(by(with_reducible repeat(first|apply Kd.zj|apply Kd.zz|apply Kd.zk));exact Kd.R_mono HO108.out (fun _ hk=>hk.2))⟩;have n2_:U (w16.heap[gb101]? = some (.cells #[.int .i64 0,.int .i64 0] 47 (0,0))):=⟨by rw[← hq_];exact(by solve_by_elim only[BK101.out,qk,qv,qj])⟩;have n3_:U (Below w.heap.size w w16):=⟨by rw[← hq_];exact(by solve_by_elim (maxDepth:=20) only[HB.out,L,O,J,qz,GE101.out])⟩;clear HO105 HO108 BK101 HB hq_;have HO105:=n0_;have HO108:=n1_;have BK101:=n2_;have HB:=n3_;clear n0_ n1_ n2_ n3_)))|((with_reducible refine zx (f:=50) rfl ?_);refine goesL_ (some 24) rfl rfl Tryz.func50 (by kernel_rfl) rfl #[.int .i64 4,.int .i64 (wrap64 (1 + (Int.tmod t109 1073741788))),.int .i64 2147483579] rfl (by(try simp only[jq0,jq1,jq2]);first|done|rfl|(simp only[jq3,jq4];rfl)) ?_;(with_reducible refine(qqz.calls kj2 4 (wrap64 (1 + (Int.tmod t109 1073741788))) 2147483579 t110 _ A12.out).mono ?_);rintro e w' ⟨rfl,⟨nd,rfl⟩⟩;refine⟨_,rfl,?_⟩;(try (rw[drewN_self w16];generalize hq_:World.drewN w16 _=w16;have n0_:U (Kd.R (Kd.int .u8) 5 w16 w.heap.size (fun k_=>some k_≠(.slice Ao17 t106.length co17:Value).ownBlock) (.slice Ao15 t103.length co15) t103):=⟨by rw[← hq_];exact(by(with_reducible repeat(first|apply Kd.zj|apply Kd.zz|apply Kd.zk));exact Kd.R_mono HO105.out (fun _ hk=>hk.2))⟩;have n1_:U (Kd.R (Kd.int .u8) 5 w16 w.heap.size (fun k_=>some k_≠(.slice Ao15 t103.length co15:Value).ownBlock) (.slice Ao17 t106.length co17) t106):=⟨by rw[← hq_];exact(by(with_reducible repeat(first|apply Kd.zj|apply Kd.zz|apply Kd.zk));exact Kd.R_mono HO108.out (fun _ hk=>hk.2))⟩;have n2_:U (w16.heap[gb101]? = some (.cells #[.int .i64 0,.int .i64 0] 47 (0,0))):=⟨by rw[← hq_];exact(by solve_by_elim only[BK101.out,qk,qv,qj])⟩;have n3_:U (Below w.heap.size w w16):=⟨by rw[← hq_];exact(by solve_by_elim (maxDepth:=20) only[HB.out,L,O,J,qz,GE101.out])⟩;clear HO105 HO108 BK101 HB hq_;have HO105:=n0_;have HO108:=n1_;have BK101:=n2_;have HB:=n3_;clear n0_ n1_ n2_ n3_)))|((with_reducible refine zx (f:=51) rfl ?_);refine goesL_ (some 29) rfl rfl Tryz.func51 (by kernel_rfl) rfl #[.int .i64 t110,.slice A1 l1.length c1] rfl (by(try simp only[jq0,jq1,jq2]);first|done|rfl|(simp only[jq3,jq4];rfl)) ?_;(with_reducible refine(xj.calls t110 _ _ l1 t111 _ ?side1 ?side2 A13.out).mono ?_);(case side1=>solve_by_elim only[(Kd.C_below HR1.out HB.out),Kd.C_alloc,Kd.C_drewN,Kd.C_drew]);(case side2=>exact HC1.out);rintro e w18 ⟨rfl,hb⟩;refine⟨_,rfl,?_⟩;replace HO105:=U.mk (Kd.R_below (by solve_by_elim only[HO105.out,Kd.zj,Kd.zz,Kd.zk]) hb);replace HO108:=U.mk (Kd.R_below (by solve_by_elim only[HO108.out,Kd.zj,Kd.zz,Kd.zk]) hb);replace BK101:=U.mk (jx (by solve_by_elim only[BK101.out,qk,qv,qj]) hb);replace HB:=U.mk (qx (by solve_by_elim (maxDepth:=20) only[HB.out,L,O,J,qz,GE101.out]) hb);(try clear hb);obtain⟨y19_0,y19_1,z19_0,z19_1⟩:=bx2f BK101.out))
    refine bodyPost_ret (results_cell_row rfl _ _ gb101 47 #[.int .i64 t110,.int .i64 (Int.tmod (wrap64 ((wrap64 (1 + (Int.tmod t109 1073741788))) + (wrap64 (t111 * a0)))) 1073741789)] (0,0) _ rfl (by(with_reducible repeat(first|refine qk ?_ _|refine qv ?_|refine qj ?_ _));refine blk_put (cs:=#[.int .i64 t110,.int .i64 0]) ?_ 1 _ rfl;(with_reducible repeat(first|refine qk ?_ _|refine qv ?_|refine qj ?_ _));refine blk_put (cs:=#[.int .i64 0,.int .i64 0]) ?_ 0 _ rfl;(with_reducible repeat(first|refine qk ?_ _|refine qv ?_|refine qj ?_ _));exact BK101.out) Tryz.underlying47 rfl (by kernel_rfl)) rfl ?_;exact⟨by first|rfl|(simp[*,zw,zv] <;> rfl),by solve_by_elim (maxDepth:=20) only[HB.out,L,O,J,qz,GE101.out]⟩
end Go.Proofs.YtkcdefnpbnbaeaaGreatDoor.Pr
