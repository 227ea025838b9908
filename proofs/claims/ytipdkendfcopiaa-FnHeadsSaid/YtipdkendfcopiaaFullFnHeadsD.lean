/- Printed texts, walks and plain facts that the law FnHeads leans on, joined. -/
import Derived.Test.YtipdkendfcopiaaFullFnHeadsC
set_option maxHeartbeats 8000000
set_option maxRecDepth 100000
open List renaming map_toArray → jq0, map_cons → jq1, map_nil → jq2, length_drop → jq3, length_take → jq4, setIfInBounds_toArray → jq5, set_cons_zero → jq6, set_cons_succ → jq7
open Option renaming bind_eq_some_iff → jq8
open Bool renaming eq_false_iff → jq9, true → Z, false → Y
namespace Go.Proofs.Ytipdkendfcopiaa.Pr
open Go.RowKit Go.Proofs.YtipdkendfcopiaaW.PrintWords Go.Proofs.YtipdkendfcopiaaW.PrintLast Go.Proofs.YtipdkendfcopiaaW.PrintMore
attribute [local go_sem] max2_int min2_int max_two min_two max_three min_three max_four min_four
set_option linter.unusedVariables false
set_option linter.unusedSimpArgs false
mutual
def qzw.j0:Nat→ByteArray→Bool→Option (Bool)
 | 0,_,_=>none
 | k + 1,x0,x17=>if x17=true then(some false) else(qzw.l0 k x0 (x0.size:Int) 0)
def qzw.l0:Nat→ByteArray→Int→Int→Option (Bool)
 | 0,_,_,_=>none
 | k + 1,x0,x19,x20=>if x20 < x19 then(if 0≤x20 then(if x20 < (x0.size:Int) then(if (bt x0 x20) < 32 then(some false) else(if (bt x0 x20) > 126 then(some false) else(qzw.l0 k x0 x19 (wrap64 (x20 + 1))))) else(none)) else(none)) else(some true)
end
def qzw.f (k:Nat) (a0:ByteArray) (a1:Int) (a2:Int):Option (Bool):=if (a0.size:Int) < a1 then(qzw.j0 k a0 true) else(qzw.j0 k a0 (decide ((a0.size:Int) > a2)))
theorem qzw.calls (k:Nat) (a0:ByteArray) (a1:Int) (a2:Int) (r:Bool) (w:World) (h:qzw.f k a0 a1 a2=some r) :
  Calls Try.prog 72 #[.string a0,.int .i64 a1,.int .i64 a2] w fun e w'=>e=.returned (.bool r)∧Drawn0 w w':=by
 unfold qzw.f at h
 have H:=h
 clear h
 have HC4:=U.mk H
 clear H
 go_enter Try.func72,Try.ntmps72
 go_upto_region 1 with (fail)
 go_cut [17] (fun v17 wc=>∃ (kq:Nat) (x17_3:Bool),v17=.bool x17_3∧U (qzw.j0 kq a0 x17_3=some r)∧U (kq≤k)∧Drawn0 w wc)
 case first =>
  have H:=HC4.out
  clear HC4
  by_cases c5:(a0.size:Int) < a1
  ·rw[if_pos c5] at H
   have c5b0:decide ((a0.size:Int) < a1)=true:=decide_eq_true c5
   clear c5
   (first|rw[c5b0]|(simp only[i64_w,i32_w];rw[c5b0])|skip)
   have H':=U.mk H
   clear H
   go_wp2
   go_meet
   case rel=>exact⟨_,(true),(by first|rfl|(simp;done)|(simp[*];done)),H',⟨by first|omega|exact Nat.le_refl _⟩,by repeat(first|exact Drawn0.refl _|apply Drawn0.step)⟩
  ·rw[if_neg c5] at H
   have c5b0:decide ((a0.size:Int) < a1)=false:=decide_eq_false c5
   clear c5
   (first|rw[c5b0]|(simp only[i64_w,i32_w];rw[c5b0])|skip)
   have H':=U.mk H
   clear H
   go_wp2
   go_meet
   case rel=>exact⟨_,(decide ((a0.size:Int) > a2)),(by first|rfl|(simp;done)|(simp[*];done)),H',⟨by first|omega|exact Nat.le_refl _⟩,by repeat(first|exact Drawn0.refl _|apply Drawn0.step)⟩
 case rest =>
  clear HC4
  try clear p2
  try clear c5
  try clear c5b0
  obtain⟨kq,x17_3,rfl,HA,HJ3,⟨mc3,rfl⟩⟩:=hcut
  cases kq with
  | zero=>exact absurd HA.out (by simp[qzw.j0])
  | succ kj3 =>
   have H:=HA.out
   clear HA
   simp only[qzw.j0] at H
   by_cases c6:x17_3=true
   ·subst c6
    have H1:(some false)=some r:=by rw[if_pos rfl] at H;exact H
    clear H
    have H:=H1
    clear H1
    obtain rfl:=Option.some.inj H
    go_wp2
    go_ret
    exact⟨by first|rfl|(simp;done)|(simp[*];done),by repeat(first|exact Drawn0.refl _|apply Drawn0.step)⟩
   ·replace c6:=jq9.mpr c6
    subst c6
    have H1:(qzw.l0 kj3 a0 (a0.size:Int) 0)=some r:=by rw[if_neg (show ¬ (false=true) by decide)] at H;exact H
    clear H
    have H:=H1
    clear H1
    have H':=U.mk H
    clear H
    go_wp2
    go_loopg [20] kj3 (fun kq v20 w'=>∃ (x20_2:Int),v20=.int .i64 x20_2∧U (qzw.l0 kq a0 (a0.size:Int) x20_2=some r)∧U (kq≤kj3)∧Drawn0 w w')
    case atStart=>exact⟨(0),(by first|rfl|(simp;done)|(simp[*];done)),H',⟨Nat.le_refl _⟩,by repeat(first|exact Drawn0.refl _|apply Drawn0.step)⟩
    case round =>
     clear H'
     try clear p2
     try clear c3
     try clear c5
     try clear c5b0
     try clear c6
     try clear p2
     obtain⟨x20_2,rfl,HA,HK2,⟨m2,rfl⟩⟩:=hrel
     cases gk with
     | zero=>exact absurd HA.out (by simp[qzw.l0])
     | succ k2 =>
      have H:=HA.out
      clear HA
      simp only[qzw.l0] at H
      by_cases c7:x20_2 < (a0.size:Int)
      ·rw[if_pos c7] at H
       have c7b0:decide (x20_2 < (a0.size:Int))=true:=decide_eq_true c7
       clear c7
       by_cases c8 : 0≤x20_2
       ·rw[if_pos c8] at H
        have c8b0:decide (0≤x20_2)=true:=decide_eq_true c8
        clear c8
        by_cases c9:x20_2 < (a0.size:Int)
        ·rw[if_pos c9] at H
         have c9b0:decide (x20_2 < (a0.size:Int))=true:=decide_eq_true c9
         clear c9
         by_cases c11:(bt a0 x20_2) < 32
         ·rw[if_pos c11] at H
          have c11b0:decide ((bt a0 x20_2) < 32)=true:=decide_eq_true c11
          clear c11
          obtain rfl:=Option.some.inj H
          have p10 : 0≤(x20_2:Int):=of_decide_eq_true (by assumption)
          have q10:x20_2 < (a0.size:Int):=of_decide_eq_true (by assumption)
          have hx10:=bt_at a0 x20_2
          replace p10:=eq_true p10
          replace q10:=eq_true q10
          go_wp2
          go_ret
          exact⟨by first|rfl|(simp;done)|(simp[*];done),by repeat(first|exact Drawn0.refl _|apply Drawn0.step)⟩
         ·rw[if_neg c11] at H
          have c11b0:decide ((bt a0 x20_2) < 32)=false:=decide_eq_false c11
          clear c11
          by_cases c13:(bt a0 x20_2) > 126
          ·rw[if_pos c13] at H
           have c13b0:decide (126 < (bt a0 x20_2))=true:=decide_eq_true c13
           clear c13
           obtain rfl:=Option.some.inj H
           have p10 : 0≤(x20_2:Int):=of_decide_eq_true (by assumption)
           have q10:x20_2 < (a0.size:Int):=of_decide_eq_true (by assumption)
           have hx10:=bt_at a0 x20_2
           replace p10:=eq_true p10
           replace q10:=eq_true q10
           have p12 : 0≤(x20_2:Int):=of_decide_eq_true (by assumption)
           have q12:x20_2 < (a0.size:Int):=of_decide_eq_true (by assumption)
           have hx12:=bt_at a0 x20_2
           replace p12:=eq_true p12
           replace q12:=eq_true q12
           go_wp2
           go_ret
           exact⟨by first|rfl|(simp;done)|(simp[*];done),by repeat(first|exact Drawn0.refl _|apply Drawn0.step)⟩
          ·rw[if_neg c13] at H
           have c13b0:decide (126 < (bt a0 x20_2))=false:=decide_eq_false c13
           clear c13
           have H':=U.mk H
           clear H
           have p10 : 0≤(x20_2:Int):=of_decide_eq_true (by assumption)
           have q10:x20_2 < (a0.size:Int):=of_decide_eq_true (by assumption)
           have hx10:=bt_at a0 x20_2
           replace p10:=eq_true p10
           replace q10:=eq_true q10
           have p12 : 0≤(x20_2:Int):=of_decide_eq_true (by assumption)
           have q12:x20_2 < (a0.size:Int):=of_decide_eq_true (by assumption)
           have hx12:=bt_at a0 x20_2
           replace p12:=eq_true p12
           replace q12:=eq_true q12
           go_wp2
           go_roundg k2
           case measure=>have:=HJ3.out;have:=HK2.out;omega
           case rel=>exact⟨(wrap64 (x20_2 + 1)),(by first|rfl|(simp;done)|(simp[*];done)),H',⟨by have:=HJ3.out;have:=HK2.out;omega⟩,by repeat(first|exact Drawn0.refl _|apply Drawn0.step)⟩
        ·rw[if_neg c9] at H
         exact absurd H (by simp)
       ·rw[if_neg c8] at H
        exact absurd H (by simp)
      ·rw[if_neg c7] at H
       have c7b0:decide (x20_2 < (a0.size:Int))=false:=decide_eq_false c7
       clear c7
       obtain rfl:=Option.some.inj H
       go_wp2
       go_ret
       exact⟨by first|rfl|(simp;done)|(simp[*];done),by repeat(first|exact Drawn0.refl _|apply Drawn0.step)⟩
def xv.j0:Nat→Bool→Int→ByteArray→ByteArray→List Int→List Int→Option (Bool)
 | 0,_,_,_,_,_,_=>none
 | k + 1,x16,x102000,x102001,x102002,x102003,x102004=>if x16=true then(some false) else(if (x102004.length:Int)=0 then((qzw.f k x102002 0 200).bind fun t103=>(if t103=true then(some (decide ((x102003.length:Int)≤20))) else(some false))) else(if (x102004.length:Int)=16 then(if x102002.toList=([]:List UInt8) then(some ((x102003.length:Int) == 0)) else(some false)) else(some false)))
def xv.f (k:Nat) (a0_0:Int) (a0_1:ByteArray) (a0_2:ByteArray) (l0_3:List Int) (l0_4:List Int):Option (Bool):=if a0_0 < 0 then(xv.j0 k true a0_0 a0_1 a0_2 l0_3 l0_4) else(if a0_0 > 100000000000 then(xv.j0 k true a0_0 a0_1 a0_2 l0_3 l0_4) else((qzw.f k a0_1 0 60).bind fun t102=>(xv.j0 k (!t102) a0_0 a0_1 a0_2 l0_3 l0_4)))
theorem xv.calls (k:Nat) (a0_0:Int) (a0_1:ByteArray) (a0_2:ByteArray) (A0_3:Option Addr) (c0_3:Nat) (l0_3:List Int) (A0_4:Option Addr) (c0_4:Nat) (l0_4:List Int) (r:Bool) (w:World) (hr0_3:Kd.C (Kd.int .u8) w A0_3 l0_3.length l0_3) (hc0_3:l0_3.length≤c0_3) (hr0_4:Kd.C (Kd.int .u8) w A0_4 l0_4.length l0_4) (hc0_4:l0_4.length≤c0_4) (h:xv.f k a0_0 a0_1 a0_2 l0_3 l0_4=some r) :
  Calls Try.prog 20 #[.agg #[.int .i64 a0_0,.string a0_1,.string a0_2,.slice A0_3 l0_3.length c0_3,.slice A0_4 l0_4.length c0_4]] w fun e w'=>e=.returned (.bool r)∧Below w.heap.size w w':=by
 have hu27:=Try.underlying27
 have HR0_3:=U.mk hr0_3
 have HC0_3:=U.mk hc0_3
 clear hr0_3 hc0_3
 have HR0_4:=U.mk hr0_4
 have HC0_4:=U.mk hc0_4
 clear hr0_4 hc0_4
 have HB:=U.mk (Below.refl w.heap.size w)
 unfold xv.f at h
 have H:=h
 clear h
 have HC2:=U.mk H
 clear H
 go_enter Try.func20,Try.ntmps20
 go_upto_region 1 with (first|((with_reducible refine gate_dst (N:=1) rfl ?_);(try (refine gate_guard (by rfl) ?_;dsimp only));refine box_event ?hg (N:=1) ?hd (cs:=#[.int .i64 a0_0,.string a0_1,.string a0_2,.slice A0_3 l0_3.length c0_3,.slice A0_4 l0_4.length c0_4]) (t:=27) ?hr ?_;(case hd=>rfl);(case hg=>rfl);(case hr=>first|(go_simp;done)|(go_simp;rfl));intro gb101 hg w3 hbox hb;have BK101:=U.mk (hbox);have GW101:=U.mk ((by rw[hg];exact(zj (by solve_by_elim only[HB.out,G,J,qq])):w.heap.size≤gb101));have GE101:=U.mk ((by rw[hg];exact(zj (by solve_by_elim only[HB.out,G,J,qq])):w.heap.size≤gb101));replace HB:=U.mk (zz (by solve_by_elim only[HB.out,G,J,qq]) hb);clear hb hbox hg))
 (try simp only[Act.put,jq5,jq6,jq7])
 go_cut [16] (fun v16 wc=>∃ (kq:Nat) (x16_1:Bool),v16=.bool x16_1∧U (xv.j0 kq x16_1 a0_0 a0_1 a0_2 l0_3 l0_4=some r)∧U (kq≤k)∧U (wc.heap[gb101]? = some (.cells #[.int .i64 a0_0,.string a0_1,.string a0_2,(.slice A0_3 l0_3.length c0_3),(.slice A0_4 l0_4.length c0_4)] 27 (0,0)))∧U (Below w.heap.size w wc))
 case first =>
  have H:=HC2.out
  clear HC2
  by_cases c4:a0_0 < 0
  ·rw[if_pos c4] at H
   have c4b0:decide (a0_0 < 0)=true:=decide_eq_true c4
   clear c4
   (first|rw[c4b0]|(simp only[i64_w,i32_w];rw[c4b0])|skip)
   have H':=U.mk H
   clear H
   have hcz5_0:w3.cell? ⟨gb101,0,none⟩ = some (.int .i64 a0_0):=(qj BK101.out 0).trans rfl
   have hcz5_1:w3.cell? ⟨gb101,1,none⟩ = some (.string a0_1):=(qj BK101.out 1).trans rfl
   have hcz5_2:w3.cell? ⟨gb101,2,none⟩ = some (.string a0_2):=(qj BK101.out 2).trans rfl
   have hcz5_3:w3.cell? ⟨gb101,3,none⟩ = some (.slice A0_3 l0_3.length c0_3):=(qj BK101.out 3).trans rfl
   have hcz5_4:w3.cell? ⟨gb101,4,none⟩ = some (.slice A0_4 l0_4.length c0_4):=(qj BK101.out 4).trans rfl
   have hfz5_0:=qz BK101.out 0
   have hfz5_1:=qz BK101.out 1
   have hfz5_2:=qz BK101.out 2
   have hfz5_3:=qz BK101.out 3
   have hfz5_4:=qz BK101.out 4
   go_wp2
   go_meet
   case rel=>exact⟨_,(true),(by first|rfl|(simp;done)|(simp[*];done)|(generalize ByteArray.toList _=l_;cases l_ <;> first|rfl|(simp;done))),H',⟨by first|omega|exact Nat.le_refl _⟩,⟨by(with_reducible repeat(first|refine qw ?_ _|refine qx ?_|refine qv ?_ _));exact BK101.out⟩,⟨by repeat(first|(with_reducible first|exact HB.out|apply G|apply J|apply qq|refine qk ?_ GE101.out)|exact HB.out)⟩⟩
  ·rw[if_neg c4] at H
   have c4b0:decide (a0_0 < 0)=false:=decide_eq_false c4
   clear c4
   (first|rw[c4b0]|(simp only[i64_w,i32_w];rw[c4b0])|skip)
   by_cases c6:a0_0 > 100000000000
   ·rw[if_pos c6] at H
    have c6b0:decide (100000000000 < a0_0)=true:=decide_eq_true c6
    clear c6
    have H':=U.mk H
    clear H
    have hcz7_0:w3.cell? ⟨gb101,0,none⟩ = some (.int .i64 a0_0):=(qj BK101.out 0).trans rfl
    have hcz7_1:w3.cell? ⟨gb101,1,none⟩ = some (.string a0_1):=(qj BK101.out 1).trans rfl
    have hcz7_2:w3.cell? ⟨gb101,2,none⟩ = some (.string a0_2):=(qj BK101.out 2).trans rfl
    have hcz7_3:w3.cell? ⟨gb101,3,none⟩ = some (.slice A0_3 l0_3.length c0_3):=(qj BK101.out 3).trans rfl
    have hcz7_4:w3.cell? ⟨gb101,4,none⟩ = some (.slice A0_4 l0_4.length c0_4):=(qj BK101.out 4).trans rfl
    have hfz7_0:=qz BK101.out 0
    have hfz7_1:=qz BK101.out 1
    have hfz7_2:=qz BK101.out 2
    have hfz7_3:=qz BK101.out 3
    have hfz7_4:=qz BK101.out 4
    go_wp2
    go_meet
    case rel=>exact⟨_,(true),(by first|rfl|(simp;done)|(simp[*];done)|(generalize ByteArray.toList _=l_;cases l_ <;> first|rfl|(simp;done))),H',⟨by first|omega|exact Nat.le_refl _⟩,⟨by(with_reducible repeat(first|refine qw ?_ _|refine qx ?_|refine qv ?_ _));exact BK101.out⟩,⟨by repeat(first|(with_reducible first|exact HB.out|apply G|apply J|apply qq|refine qk ?_ GE101.out)|exact HB.out)⟩⟩
   ·rw[if_neg c6] at H
    have c6b0:decide (100000000000 < a0_0)=false:=decide_eq_false c6
    clear c6
    replace H:=jq8.mp H
    obtain⟨t102,A80,H⟩:=H
    try dsimp only at H
    have A8:=U.mk A80
    clear A80
    have H':=U.mk H
    clear H
    have hcz9_0:w3.cell? ⟨gb101,0,none⟩ = some (.int .i64 a0_0):=(qj BK101.out 0).trans rfl
    have hcz9_1:w3.cell? ⟨gb101,1,none⟩ = some (.string a0_1):=(qj BK101.out 1).trans rfl
    have hcz9_2:w3.cell? ⟨gb101,2,none⟩ = some (.string a0_2):=(qj BK101.out 2).trans rfl
    have hcz9_3:w3.cell? ⟨gb101,3,none⟩ = some (.slice A0_3 l0_3.length c0_3):=(qj BK101.out 3).trans rfl
    have hcz9_4:w3.cell? ⟨gb101,4,none⟩ = some (.slice A0_4 l0_4.length c0_4):=(qj BK101.out 4).trans rfl
    have hfz9_0:=qz BK101.out 0
    have hfz9_1:=qz BK101.out 1
    have hfz9_2:=qz BK101.out 2
    have hfz9_3:=qz BK101.out 3
    have hfz9_4:=qz BK101.out 4
    go_wp2_with (first|(go_at_call 72;(with_reducible refine(qzw.calls k a0_1 0 60 t102 _ A8.out).mono ?_);rintro e w' ⟨rfl,⟨nd,rfl⟩⟩))
    go_meet
    case rel=>exact⟨_,(!t102),(by first|rfl|(simp;done)|(simp[*];done)|(generalize ByteArray.toList _=l_;cases l_ <;> first|rfl|(simp;done))),H',⟨by first|omega|exact Nat.le_refl _⟩,⟨by(with_reducible repeat(first|refine qw ?_ _|refine qx ?_|refine qv ?_ _));exact BK101.out⟩,⟨by repeat(first|(with_reducible first|exact HB.out|apply G|apply J|apply qq|refine qk ?_ GE101.out)|exact HB.out)⟩⟩
 case rest =>
  clear HC2
  try clear c2
  try clear p2
  try clear c4
  try clear c4b0
  try clear c6
  try clear c6b0
  try clear hcz5_0
  try clear hcz5_1
  try clear hcz5_2
  try clear hcz5_3
  try clear hcz5_4
  try clear hcz7_0
  try clear hcz7_1
  try clear hcz7_2
  try clear hcz7_3
  try clear hcz7_4
  try clear hcz9_0
  try clear hcz9_1
  try clear hcz9_2
  try clear hcz9_3
  try clear hcz9_4
  try clear hfz5_0
  try clear hfz5_1
  try clear hfz5_2
  try clear hfz5_3
  try clear hfz5_4
  try clear hfz7_0
  try clear hfz7_1
  try clear hfz7_2
  try clear hfz7_3
  try clear hfz7_4
  try clear hfz9_0
  try clear hfz9_1
  try clear hfz9_2
  try clear hfz9_3
  try clear hfz9_4
  obtain⟨kq,x16_1,rfl,HA,HJ1,BK101,HB⟩:=hcut
  cases kq with
  | zero=>exact absurd HA.out (by simp[xv.j0])
  | succ kj1 =>
   have H:=HA.out
   clear HA
   simp only[xv.j0] at H
   by_cases c10:x16_1=true
   ·subst c10
    have H1:(some false)=some r:=by rw[if_pos rfl] at H;exact H
    clear H
    have H:=H1
    clear H1
    obtain rfl:=Option.some.inj H
    go_wp2
    go_ret
    exact⟨by first|rfl|(simp[*,jv,jk] <;> rfl),by repeat(first|(with_reducible first|exact HB.out|apply G|apply J|apply qq|refine qk ?_ GE101.out)|exact HB.out)⟩
   ·replace c10:=jq9.mpr c10
    subst c10
    have H1:(if (l0_4.length:Int)=0 then((qzw.f kj1 a0_2 0 200).bind fun t103=>(if t103=true then(some (decide ((l0_3.length:Int)≤20))) else(some false))) else(if (l0_4.length:Int)=16 then(if a0_2.toList=([]:List UInt8) then(some ((l0_3.length:Int) == 0)) else(some false)) else(some false)))=some r:=by rw[if_neg (show ¬ (false=true) by decide)] at H;exact H
    clear H
    have H:=H1
    clear H1
    by_cases c11:(l0_4.length:Int)=0
    ·rw[if_pos c11] at H
     have c11b0:((l0_4.length:Int) == 0)=true:=beq_iff_eq.mpr c11
     have c11b1:((l0_4.length:Int) != 0)=false:=bne_eq_false_iff_eq.mpr c11
     clear c11
     replace H:=jq8.mp H
     obtain⟨t103,A120,H⟩:=H
     try dsimp only at H
     have A12:=U.mk A120
     clear A120
     by_cases c13:t103=true
     ·subst c13
      have H1:(some (decide ((l0_3.length:Int)≤20)))=some r:=by rw[if_pos rfl] at H;exact H
      clear H
      have H:=H1
      clear H1
      obtain rfl:=Option.some.inj H
      have hcz14_0:wc.cell? ⟨gb101,0,none⟩ = some (.int .i64 a0_0):=(qj BK101.out 0).trans rfl
      have hcz14_1:wc.cell? ⟨gb101,1,none⟩ = some (.string a0_1):=(qj BK101.out 1).trans rfl
      have hcz14_2:wc.cell? ⟨gb101,2,none⟩ = some (.string a0_2):=(qj BK101.out 2).trans rfl
      have hcz14_3:wc.cell? ⟨gb101,3,none⟩ = some (.slice A0_3 l0_3.length c0_3):=(qj BK101.out 3).trans rfl
      have hcz14_4:wc.cell? ⟨gb101,4,none⟩ = some (.slice A0_4 l0_4.length c0_4):=(qj BK101.out 4).trans rfl
      have hfz14_0:=qz BK101.out 0
      have hfz14_1:=qz BK101.out 1
      have hfz14_2:=qz BK101.out 2
      have hfz14_3:=qz BK101.out 3
      have hfz14_4:=qz BK101.out 4
      go_wp2_with (first|((with_reducible refine jw (f:=72) rfl ?_);refine goesL_ (some 23) rfl rfl Try.func72 (by kernel_rfl) rfl #[.string a0_2,.int .i64 0,.int .i64 200] rfl (by(try simp only[jq0,jq1,jq2]);first|done|rfl|(simp only[jq3,jq4];rfl)) ?_;(with_reducible refine(qzw.calls kj1 a0_2 0 200 true _ A12.out).mono ?_);rintro e w' ⟨rfl,⟨nd,rfl⟩⟩;refine⟨_,rfl,?_⟩))
      go_ret
      exact⟨by first|rfl|(simp[*,jv,jk] <;> rfl),by repeat(first|(with_reducible first|exact HB.out|apply G|apply J|apply qq|refine qk ?_ GE101.out)|exact HB.out)⟩
     ·replace c13:=jq9.mpr c13
      subst c13
      have H1:(some false)=some r:=by rw[if_neg (show ¬ (false=true) by decide)] at H;exact H
      clear H
      have H:=H1
      clear H1
      obtain rfl:=Option.some.inj H
      have hcz15_0:wc.cell? ⟨gb101,0,none⟩ = some (.int .i64 a0_0):=(qj BK101.out 0).trans rfl
      have hcz15_1:wc.cell? ⟨gb101,1,none⟩ = some (.string a0_1):=(qj BK101.out 1).trans rfl
      have hcz15_2:wc.cell? ⟨gb101,2,none⟩ = some (.string a0_2):=(qj BK101.out 2).trans rfl
      have hcz15_3:wc.cell? ⟨gb101,3,none⟩ = some (.slice A0_3 l0_3.length c0_3):=(qj BK101.out 3).trans rfl
      have hcz15_4:wc.cell? ⟨gb101,4,none⟩ = some (.slice A0_4 l0_4.length c0_4):=(qj BK101.out 4).trans rfl
      have hfz15_0:=qz BK101.out 0
      have hfz15_1:=qz BK101.out 1
      have hfz15_2:=qz BK101.out 2
      have hfz15_3:=qz BK101.out 3
      have hfz15_4:=qz BK101.out 4
      go_wp2_with (first|((with_reducible refine jw (f:=72) rfl ?_);refine goesL_ (some 23) rfl rfl Try.func72 (by kernel_rfl) rfl #[.string a0_2,.int .i64 0,.int .i64 200] rfl (by(try simp only[jq0,jq1,jq2]);first|done|rfl|(simp only[jq3,jq4];rfl)) ?_;(with_reducible refine(qzw.calls kj1 a0_2 0 200 false _ A12.out).mono ?_);rintro e w' ⟨rfl,⟨nd,rfl⟩⟩;refine⟨_,rfl,?_⟩))
      go_ret
      exact⟨by first|rfl|(simp[*,jv,jk] <;> rfl),by repeat(first|(with_reducible first|exact HB.out|apply G|apply J|apply qq|refine qk ?_ GE101.out)|exact HB.out)⟩
    ·rw[if_neg c11] at H
     have c11b0:((l0_4.length:Int) == 0)=false:=beq_eq_false_iff_ne.mpr c11
     have c11b1:((l0_4.length:Int) != 0)=true:=bne_iff_ne.mpr c11
     have c11b2:¬ (l0_4=[]):=fun h_=>c11 (by rw[h_];rfl)
     by_cases c16:(l0_4.length:Int)=16
     ·rw[if_pos c16] at H
      have c16b0:((l0_4.length:Int) == 16)=true:=beq_iff_eq.mpr c16
      have c16b1:((l0_4.length:Int) != 16)=false:=bne_eq_false_iff_eq.mpr c16
      clear c16
      by_cases c17:a0_2.toList=([]:List UInt8)
      ·rw[if_pos c17] at H
       have c17b0:(a0_2.toList == ([]:List UInt8))=true:=beq_iff_eq.mpr c17
       have c17b1:(a0_2.toList != ([]:List UInt8))=false:=bne_eq_false_iff_eq.mpr c17
       clear c17
       obtain rfl:=Option.some.inj H
       have hcz18_0:wc.cell? ⟨gb101,0,none⟩ = some (.int .i64 a0_0):=(qj BK101.out 0).trans rfl
       have hcz18_1:wc.cell? ⟨gb101,1,none⟩ = some (.string a0_1):=(qj BK101.out 1).trans rfl
       have hcz18_2:wc.cell? ⟨gb101,2,none⟩ = some (.string a0_2):=(qj BK101.out 2).trans rfl
       have hcz18_3:wc.cell? ⟨gb101,3,none⟩ = some (.slice A0_3 l0_3.length c0_3):=(qj BK101.out 3).trans rfl
       have hcz18_4:wc.cell? ⟨gb101,4,none⟩ = some (.slice A0_4 l0_4.length c0_4):=(qj BK101.out 4).trans rfl
       have hfz18_0:=qz BK101.out 0
       have hfz18_1:=qz BK101.out 1
       have hfz18_2:=qz BK101.out 2
       have hfz18_3:=qz BK101.out 3
       have hfz18_4:=qz BK101.out 4
       go_wp2
       go_ret
       exact⟨by first|rfl|(simp[*,jv,jk] <;> rfl),by repeat(first|(with_reducible first|exact HB.out|apply G|apply J|apply qq|refine qk ?_ GE101.out)|exact HB.out)⟩
      ·rw[if_neg c17] at H
       have c17b0:(a0_2.toList == ([]:List UInt8))=false:=beq_eq_false_iff_ne.mpr c17
       have c17b1:(a0_2.toList != ([]:List UInt8))=true:=bne_iff_ne.mpr c17
       obtain rfl:=Option.some.inj H
       have hcz19_0:wc.cell? ⟨gb101,0,none⟩ = some (.int .i64 a0_0):=(qj BK101.out 0).trans rfl
       have hcz19_1:wc.cell? ⟨gb101,1,none⟩ = some (.string a0_1):=(qj BK101.out 1).trans rfl
       have hcz19_2:wc.cell? ⟨gb101,2,none⟩ = some (.string a0_2):=(qj BK101.out 2).trans rfl
       have hcz19_3:wc.cell? ⟨gb101,3,none⟩ = some (.slice A0_3 l0_3.length c0_3):=(qj BK101.out 3).trans rfl
       have hcz19_4:wc.cell? ⟨gb101,4,none⟩ = some (.slice A0_4 l0_4.length c0_4):=(qj BK101.out 4).trans rfl
       have hfz19_0:=qz BK101.out 0
       have hfz19_1:=qz BK101.out 1
       have hfz19_2:=qz BK101.out 2
       have hfz19_3:=qz BK101.out 3
       have hfz19_4:=qz BK101.out 4
       go_wp2
       go_ret
       exact⟨by first|rfl|(simp[*,jv,jk] <;> rfl),by repeat(first|(with_reducible first|exact HB.out|apply G|apply J|apply qq|refine qk ?_ GE101.out)|exact HB.out)⟩
     ·rw[if_neg c16] at H
      have c16b0:((l0_4.length:Int) == 16)=false:=beq_eq_false_iff_ne.mpr c16
      have c16b1:((l0_4.length:Int) != 16)=true:=bne_iff_ne.mpr c16
      obtain rfl:=Option.some.inj H
      have hcz20_0:wc.cell? ⟨gb101,0,none⟩ = some (.int .i64 a0_0):=(qj BK101.out 0).trans rfl
      have hcz20_1:wc.cell? ⟨gb101,1,none⟩ = some (.string a0_1):=(qj BK101.out 1).trans rfl
      have hcz20_2:wc.cell? ⟨gb101,2,none⟩ = some (.string a0_2):=(qj BK101.out 2).trans rfl
      have hcz20_3:wc.cell? ⟨gb101,3,none⟩ = some (.slice A0_3 l0_3.length c0_3):=(qj BK101.out 3).trans rfl
      have hcz20_4:wc.cell? ⟨gb101,4,none⟩ = some (.slice A0_4 l0_4.length c0_4):=(qj BK101.out 4).trans rfl
      have hfz20_0:=qz BK101.out 0
      have hfz20_1:=qz BK101.out 1
      have hfz20_2:=qz BK101.out 2
      have hfz20_3:=qz BK101.out 3
      have hfz20_4:=qz BK101.out 4
      go_wp2
      go_ret
      exact⟨by first|rfl|(simp[*,jv,jk] <;> rfl),by repeat(first|(with_reducible first|exact HB.out|apply G|apply J|apply qq|refine qk ?_ GE101.out)|exact HB.out)⟩
end Go.Proofs.Ytipdkendfcopiaa.Pr
namespace Go.Proofs.Ytipdkendfcopiaa.Pr
open Go.RowKit Go.Proofs.YtipdkendfcopiaaW.PrintWords Go.Proofs.YtipdkendfcopiaaW.PrintLast Go.Proofs.YtipdkendfcopiaaW.PrintMore
attribute [local go_sem] max2_int min2_int max_two min_two max_three min_three max_four min_four
set_option linter.unusedVariables false
set_option linter.unusedSimpArgs false
def xj.f (k:Nat) (a0_0:Int) (a0_1:ByteArray) (a0_2:ByteArray) (l0_3:List Int) (l0_4:List Int):Option (List Int):=(xv.f k a0_0 a0_1 a0_2 l0_3 l0_4).bind fun t102=>(if t102=true then(if (l0_4.length:Int) > 0 then((wv.f l0_4).bind fun t103=>(some t103)) else((bytesOfS.f a0_2).bind fun t106=>((xx.f k l0_3 t106).bind fun t109=>(some t109)))) else(some ([]:List Int)))
theorem xj.calls (k:Nat) (a0_0:Int) (a0_1:ByteArray) (a0_2:ByteArray) (A0_3:Option Addr) (c0_3:Nat) (l0_3:List Int) (A0_4:Option Addr) (c0_4:Nat) (l0_4:List Int) (r:List Int) (w:World) (hr0_3:Kd.C (Kd.int .u8) w A0_3 l0_3.length l0_3) (hc0_3:l0_3.length≤c0_3) (hr0_4:Kd.C (Kd.int .u8) w A0_4 l0_4.length l0_4) (hc0_4:l0_4.length≤c0_4) (h:xj.f k a0_0 a0_1 a0_2 l0_3 l0_4=some r) :
  Calls Try.prog 23 #[.agg #[.int .i64 a0_0,.string a0_1,.string a0_2,.slice A0_3 l0_3.length c0_3,.slice A0_4 l0_4.length c0_4]] w fun e w'=>∃ v0_:Value,e=.returned (v0_)∧Kd.R (Kd.int .u8) 5 w' w.heap.size (fun _=>True) v0_ r∧Below w.heap.size w w':=by
 have hu27:=Try.underlying27
 have HR0_3:=U.mk hr0_3
 have HC0_3:=U.mk hc0_3
 clear hr0_3 hc0_3
 have HR0_4:=U.mk hr0_4
 have HC0_4:=U.mk hc0_4
 clear hr0_4 hc0_4
 have HB:=U.mk (Below.refl w.heap.size w)
 unfold xj.f at h
 have H:=h
 clear h
 replace H:=jq8.mp H
 obtain⟨t102,A20,H⟩:=H
 try dsimp only at H
 have A2:=U.mk A20
 clear A20
 by_cases c3:t102=true
 ·subst c3
  have H1:(if (l0_4.length:Int) > 0 then((wv.f l0_4).bind fun t103=>(some t103)) else((bytesOfS.f a0_2).bind fun t106=>((xx.f k l0_3 t106).bind fun t109=>(some t109))))=some r:=by rw[if_pos rfl] at H;exact H
  clear H
  have H:=H1
  clear H1
  by_cases c4:(l0_4.length:Int) > 0
  ·rw[if_pos c4] at H
   have c4b0:decide (0 < (l0_4.length:Int))=true:=decide_eq_true c4
   have c4b1:decide (0 < l0_4.length)=true:=decide_eq_true (by omega)
   clear c4
   replace H:=jq8.mp H
   obtain⟨t103,A50,H⟩:=H
   replace H:(some t103)=some r:=H
   have A5:=U.mk A50
   clear A50
   obtain rfl:=Option.some.inj H
   go_enter Try.func23,Try.ntmps23
   go_wp2_with (first|((with_reducible refine gate_dst (N:=1) rfl ?_);refine box_event ?hg (N:=1) ?hd (cs:=#[.int .i64 a0_0,.string a0_1,.string a0_2,.slice A0_3 l0_3.length c0_3,.slice A0_4 l0_4.length c0_4]) (t:=27) ?hr ?_;(case hd=>rfl);(case hg=>rfl);(case hr=>first|(go_simp;done)|(go_simp;rfl));intro gb101 hg w6 hbox hb;have BK101:=U.mk (hbox);have GW101:=U.mk ((by rw[hg];exact(zj (by solve_by_elim only[HB.out,G,J,qq])):w.heap.size≤gb101));have GE101:=U.mk ((by rw[hg];exact(zj (by solve_by_elim only[HB.out,G,J,qq])):w.heap.size≤gb101));replace HB:=U.mk (zz (by solve_by_elim only[HB.out,G,J,qq]) hb);clear hb hbox hg;have hcz7_0:w6.cell? ⟨gb101,0,none⟩ = some (.int .i64 a0_0):=(qj BK101.out 0).trans rfl;have hcz7_1:w6.cell? ⟨gb101,1,none⟩ = some (.string a0_1):=(qj BK101.out 1).trans rfl;have hcz7_2:w6.cell? ⟨gb101,2,none⟩ = some (.string a0_2):=(qj BK101.out 2).trans rfl;have hcz7_3:w6.cell? ⟨gb101,3,none⟩ = some (.slice A0_3 l0_3.length c0_3):=(qj BK101.out 3).trans rfl;have hcz7_4:w6.cell? ⟨gb101,4,none⟩ = some (.slice A0_4 l0_4.length c0_4):=(qj BK101.out 4).trans rfl;have hfz7_0:=qz BK101.out 0;have hfz7_1:=qz BK101.out 1;have hfz7_2:=qz BK101.out 2;have hfz7_3:=qz BK101.out 3;have hfz7_4:=qz BK101.out 4)|((with_reducible refine jw (f:=20) rfl ?_);refine goesL_ (some 4) rfl rfl Try.func20 (by kernel_rfl) rfl #[.agg #[.int .i64 a0_0,.string a0_1,.string a0_2,.slice A0_3 l0_3.length c0_3,.slice A0_4 l0_4.length c0_4]] rfl (by(try simp only[jq0,jq1,jq2]);first|done|rfl|(simp only[jq3,jq4];rfl)) ?_;(with_reducible refine(xv.calls k a0_0 a0_1 a0_2 _ _ l0_3 _ _ l0_4 true _ ?side1 ?side2 ?side3 ?side4 A2.out).mono ?_);(case side1=>solve_by_elim only[(Kd.C_below HR0_3.out HB.out),Kd.C_alloc,Kd.C_drewN,Kd.C_drew]);(case side2=>exact HC0_3.out);(case side3=>solve_by_elim only[(Kd.C_below HR0_4.out HB.out),Kd.C_alloc,Kd.C_drewN,Kd.C_drew]);(case side4=>exact HC0_4.out);rintro e w8 ⟨rfl,hb⟩;refine⟨_,rfl,?_⟩;replace BK101:=U.mk (vx (g:=gb101) (o:=.cells #[.int .i64 a0_0,.string a0_1,.string a0_2,.slice A0_3 l0_3.length c0_3,.slice A0_4 l0_4.length c0_4] 27 (0,0)) (by solve_by_elim only[BK101.out,qw,qx,qv]) hb);replace HB:=U.mk (zz (by solve_by_elim (maxDepth:=20) only[HB.out,G,J,qq,qk,GE101.out]) hb);(try clear hb);have hcz9_0:w8.cell? ⟨gb101,0,none⟩ = some (.int .i64 a0_0):=(qj BK101.out 0).trans rfl;have hcz9_1:w8.cell? ⟨gb101,1,none⟩ = some (.string a0_1):=(qj BK101.out 1).trans rfl;have hcz9_2:w8.cell? ⟨gb101,2,none⟩ = some (.string a0_2):=(qj BK101.out 2).trans rfl;have hcz9_3:w8.cell? ⟨gb101,3,none⟩ = some (.slice A0_3 l0_3.length c0_3):=(qj BK101.out 3).trans rfl;have hcz9_4:w8.cell? ⟨gb101,4,none⟩ = some (.slice A0_4 l0_4.length c0_4):=(qj BK101.out 4).trans rfl;have hfz9_0:=qz BK101.out 0;have hfz9_1:=qz BK101.out 1;have hfz9_2:=qz BK101.out 2;have hfz9_3:=qz BK101.out 3;have hfz9_4:=qz BK101.out 4)|((with_reducible refine jw (f:=74) rfl ?_);refine goesL_ (some 12) rfl rfl Try.func74 (by kernel_rfl) rfl #[.slice A0_4 l0_4.length c0_4] rfl (by(try simp only[jq0,jq1,jq2]);first|done|rfl|(simp only[jq3,jq4];rfl)) ?_;(with_reducible refine(wv.calls _ _ l0_4 t103 _ ?side1 ?side2 A5.out).mono ?_);(case side1=>solve_by_elim only[(Kd.C_below HR0_4.out HB.out),Kd.C_alloc,Kd.C_drewN,Kd.C_drew]);(case side2=>exact HC0_4.out);rintro e w10 ⟨v104,rfl,ho0,hb⟩;refine⟨_,rfl,?_⟩;have HO105:=U.mk (Kd.R_lower ho0 (zj (by solve_by_elim (maxDepth:=20) only[HB.out,G,J,qq,qk,GE101.out])));replace BK101:=U.mk (vx (g:=gb101) (o:=.cells #[.int .i64 a0_0,.string a0_1,.string a0_2,.slice A0_3 l0_3.length c0_3,.slice A0_4 l0_4.length c0_4] 27 (0,0)) (by solve_by_elim only[BK101.out,qw,qx,qv]) hb);replace HB:=U.mk (zz (by solve_by_elim (maxDepth:=20) only[HB.out,G,J,qq,qk,GE101.out]) hb);(try clear hb ho0)))
   go_ret
   exact⟨_,by first|rfl|(simp[*,jv,jk] <;> rfl),by(with_reducible repeat(first|apply Kd.zv|apply Kd.zk|apply Kd.zw));exact HO105.out,by repeat(first|(with_reducible first|exact HB.out|apply G|apply J|apply qq|refine qk ?_ GE101.out)|exact HB.out)⟩
  ·rw[if_neg c4] at H
   have c4b0:decide (0 < (l0_4.length:Int))=false:=decide_eq_false c4
   have c4b1:decide (0 < l0_4.length)=false:=decide_eq_false (by omega)
   clear c4
   replace H:=jq8.mp H
   obtain⟨t106,A110,H⟩:=H
   try dsimp only at H
   have A11:=U.mk A110
   clear A110
   replace H:=jq8.mp H
   obtain⟨t109,A120,H⟩:=H
   replace H:(some t109)=some r:=H
   have A12:=U.mk A120
   clear A120
   obtain rfl:=Option.some.inj H
   go_enter Try.func23,Try.ntmps23
   go_wp2_with (first|((with_reducible refine gate_dst (N:=1) rfl ?_);refine box_event ?hg (N:=1) ?hd (cs:=#[.int .i64 a0_0,.string a0_1,.string a0_2,.slice A0_3 l0_3.length c0_3,.slice A0_4 l0_4.length c0_4]) (t:=27) ?hr ?_;(case hd=>rfl);(case hg=>rfl);(case hr=>first|(go_simp;done)|(go_simp;rfl));intro gb101 hg w13 hbox hb;have BK101:=U.mk (hbox);have GW101:=U.mk ((by rw[hg];exact(zj (by solve_by_elim only[HB.out,G,J,qq])):w.heap.size≤gb101));have GE101:=U.mk ((by rw[hg];exact(zj (by solve_by_elim only[HB.out,G,J,qq])):w.heap.size≤gb101));replace HB:=U.mk (zz (by solve_by_elim only[HB.out,G,J,qq]) hb);clear hb hbox hg;have hcz14_0:w13.cell? ⟨gb101,0,none⟩ = some (.int .i64 a0_0):=(qj BK101.out 0).trans rfl;have hcz14_1:w13.cell? ⟨gb101,1,none⟩ = some (.string a0_1):=(qj BK101.out 1).trans rfl;have hcz14_2:w13.cell? ⟨gb101,2,none⟩ = some (.string a0_2):=(qj BK101.out 2).trans rfl;have hcz14_3:w13.cell? ⟨gb101,3,none⟩ = some (.slice A0_3 l0_3.length c0_3):=(qj BK101.out 3).trans rfl;have hcz14_4:w13.cell? ⟨gb101,4,none⟩ = some (.slice A0_4 l0_4.length c0_4):=(qj BK101.out 4).trans rfl;have hfz14_0:=qz BK101.out 0;have hfz14_1:=qz BK101.out 1;have hfz14_2:=qz BK101.out 2;have hfz14_3:=qz BK101.out 3;have hfz14_4:=qz BK101.out 4)|((with_reducible refine jw (f:=20) rfl ?_);refine goesL_ (some 4) rfl rfl Try.func20 (by kernel_rfl) rfl #[.agg #[.int .i64 a0_0,.string a0_1,.string a0_2,.slice A0_3 l0_3.length c0_3,.slice A0_4 l0_4.length c0_4]] rfl (by(try simp only[jq0,jq1,jq2]);first|done|rfl|(simp only[jq3,jq4];rfl)) ?_;(with_reducible refine(xv.calls k a0_0 a0_1 a0_2 _ _ l0_3 _ _ l0_4 true _ ?side1 ?side2 ?side3 ?side4 A2.out).mono ?_);(case side1=>solve_by_elim only[(Kd.C_below HR0_3.out HB.out),Kd.C_alloc,Kd.C_drewN,Kd.C_drew]);(case side2=>exact HC0_3.out);(case side3=>solve_by_elim only[(Kd.C_below HR0_4.out HB.out),Kd.C_alloc,Kd.C_drewN,Kd.C_drew]);(case side4=>exact HC0_4.out);rintro e w15 ⟨rfl,hb⟩;refine⟨_,rfl,?_⟩;replace BK101:=U.mk (vx (g:=gb101) (o:=.cells #[.int .i64 a0_0,.string a0_1,.string a0_2,.slice A0_3 l0_3.length c0_3,.slice A0_4 l0_4.length c0_4] 27 (0,0)) (by solve_by_elim only[BK101.out,qw,qx,qv]) hb);replace HB:=U.mk (zz (by solve_by_elim (maxDepth:=20) only[HB.out,G,J,qq,qk,GE101.out]) hb);(try clear hb);have hcz16_0:w15.cell? ⟨gb101,0,none⟩ = some (.int .i64 a0_0):=(qj BK101.out 0).trans rfl;have hcz16_1:w15.cell? ⟨gb101,1,none⟩ = some (.string a0_1):=(qj BK101.out 1).trans rfl;have hcz16_2:w15.cell? ⟨gb101,2,none⟩ = some (.string a0_2):=(qj BK101.out 2).trans rfl;have hcz16_3:w15.cell? ⟨gb101,3,none⟩ = some (.slice A0_3 l0_3.length c0_3):=(qj BK101.out 3).trans rfl;have hcz16_4:w15.cell? ⟨gb101,4,none⟩ = some (.slice A0_4 l0_4.length c0_4):=(qj BK101.out 4).trans rfl;have hfz16_0:=qz BK101.out 0;have hfz16_1:=qz BK101.out 1;have hfz16_2:=qz BK101.out 2;have hfz16_3:=qz BK101.out 3;have hfz16_4:=qz BK101.out 4)|((with_reducible refine gate_convert (src:=9) (dst:=22) rfl ?_);refine bytesGoesL_ (some 17) rfl rfl (s:=a0_2) rfl rfl ?_;(with_reducible refine(bytesOfS.calls a0_2 t106 _ A11.out).mono ?_);rintro e w17 ⟨v107,rfl,ho0,hb⟩;refine⟨_,rfl,?_⟩;have HO108:=U.mk (Kd.V_lower (Kd.V_mono (ok':=fun k_=>k_≠gb101) ho0 (fun k_ hk_=>(Kd.freshB (g:=gb101) (o:=.cells #[.int .i64 a0_0,.string a0_1,.string a0_2,.slice A0_3 l0_3.length c0_3,.slice A0_4 l0_4.length c0_4] 27 (0,0)) (by solve_by_elim only[BK101.out,qw,qx,qv]) k_ hk_))) (zj (by solve_by_elim (maxDepth:=20) only[HB.out,G,J,qq,qk,GE101.out])));replace BK101:=U.mk (vx (g:=gb101) (o:=.cells #[.int .i64 a0_0,.string a0_1,.string a0_2,.slice A0_3 l0_3.length c0_3,.slice A0_4 l0_4.length c0_4] 27 (0,0)) (by solve_by_elim only[BK101.out,qw,qx,qv]) hb);replace HB:=U.mk (zz (by solve_by_elim (maxDepth:=20) only[HB.out,G,J,qq,qk,GE101.out]) hb);(try clear hb ho0);obtain⟨Ao18,co18,eo18⟩:=Kd.V_slice HO108.out;subst eo18)|((with_reducible refine jw (f:=75) rfl ?_);refine goesL_ (some 18) rfl rfl Try.func75 (by kernel_rfl) rfl #[.slice A0_3 l0_3.length c0_3,.slice Ao18 t106.length co18] rfl (by(try simp only[jq0,jq1,jq2]);first|done|rfl|(simp only[jq3,jq4];rfl)) ?_;(with_reducible refine(xx.calls k _ _ l0_3 _ _ t106 t109 _ ?side1 ?side2 ?side3 ?side4 A12.out).mono ?_);(case side1=>solve_by_elim only[(Kd.C_below HR0_3.out HB.out),Kd.C_alloc,Kd.C_drewN,Kd.C_drew]);(case side2=>exact HC0_3.out);(case side3=>solve_by_elim only[(Kd.V_reads' HO108.out).2.2,Kd.C_alloc,Kd.C_drewN,Kd.C_drew]);(case side4=>exact(Kd.V_reads' HO108.out).2.1);rintro e w19 ⟨v110,rfl,ho0,hb⟩;refine⟨_,rfl,?_⟩;replace HO108:=U.mk (Kd.V_elder' (by(with_reducible repeat(first|apply Kd.vv|apply Kd.vk|apply Kd.vw));exact HO108.out) (Kd.R_base ho0) hb);have HO111:=U.mk (Kd.R_lower ho0 (zj (by solve_by_elim (maxDepth:=20) only[HB.out,G,J,qq,qk,GE101.out])));replace BK101:=U.mk (vx (g:=gb101) (o:=.cells #[.int .i64 a0_0,.string a0_1,.string a0_2,.slice A0_3 l0_3.length c0_3,.slice A0_4 l0_4.length c0_4] 27 (0,0)) (by solve_by_elim only[BK101.out,qw,qx,qv]) hb);replace HB:=U.mk (zz (by solve_by_elim (maxDepth:=20) only[HB.out,G,J,qq,qk,GE101.out]) hb);(try clear hb ho0)))
   go_ret
   exact⟨_,by first|rfl|(simp[*,jv,jk] <;> rfl),by(with_reducible repeat(first|apply Kd.zv|apply Kd.zk|apply Kd.zw));exact HO111.out,by repeat(first|(with_reducible first|exact HB.out|apply G|apply J|apply qq|refine qk ?_ GE101.out)|exact HB.out)⟩
 ·replace c3:=jq9.mpr c3
  subst c3
  have H1:(some ([]:List Int))=some r:=by rw[if_neg (show ¬ (false=true) by decide)] at H;exact H
  clear H
  have H:=H1
  clear H1
  obtain rfl:=Option.some.inj H
  go_enter Try.func23,Try.ntmps23
  go_wp2_with (first|((with_reducible refine gate_dst (N:=1) rfl ?_);refine box_event ?hg (N:=1) ?hd (cs:=#[.int .i64 a0_0,.string a0_1,.string a0_2,.slice A0_3 l0_3.length c0_3,.slice A0_4 l0_4.length c0_4]) (t:=27) ?hr ?_;(case hd=>rfl);(case hg=>rfl);(case hr=>first|(go_simp;done)|(go_simp;rfl));intro gb101 hg w20 hbox hb;have BK101:=U.mk (hbox);have GW101:=U.mk ((by rw[hg];exact(zj (by solve_by_elim only[HB.out,G,J,qq])):w.heap.size≤gb101));have GE101:=U.mk ((by rw[hg];exact(zj (by solve_by_elim only[HB.out,G,J,qq])):w.heap.size≤gb101));replace HB:=U.mk (zz (by solve_by_elim only[HB.out,G,J,qq]) hb);clear hb hbox hg;have hcz21_0:w20.cell? ⟨gb101,0,none⟩ = some (.int .i64 a0_0):=(qj BK101.out 0).trans rfl;have hcz21_1:w20.cell? ⟨gb101,1,none⟩ = some (.string a0_1):=(qj BK101.out 1).trans rfl;have hcz21_2:w20.cell? ⟨gb101,2,none⟩ = some (.string a0_2):=(qj BK101.out 2).trans rfl;have hcz21_3:w20.cell? ⟨gb101,3,none⟩ = some (.slice A0_3 l0_3.length c0_3):=(qj BK101.out 3).trans rfl;have hcz21_4:w20.cell? ⟨gb101,4,none⟩ = some (.slice A0_4 l0_4.length c0_4):=(qj BK101.out 4).trans rfl;have hfz21_0:=qz BK101.out 0;have hfz21_1:=qz BK101.out 1;have hfz21_2:=qz BK101.out 2;have hfz21_3:=qz BK101.out 3;have hfz21_4:=qz BK101.out 4)|((with_reducible refine jw (f:=20) rfl ?_);refine goesL_ (some 4) rfl rfl Try.func20 (by kernel_rfl) rfl #[.agg #[.int .i64 a0_0,.string a0_1,.string a0_2,.slice A0_3 l0_3.length c0_3,.slice A0_4 l0_4.length c0_4]] rfl (by(try simp only[jq0,jq1,jq2]);first|done|rfl|(simp only[jq3,jq4];rfl)) ?_;(with_reducible refine(xv.calls k a0_0 a0_1 a0_2 _ _ l0_3 _ _ l0_4 false _ ?side1 ?side2 ?side3 ?side4 A2.out).mono ?_);(case side1=>solve_by_elim only[(Kd.C_below HR0_3.out HB.out),Kd.C_alloc,Kd.C_drewN,Kd.C_drew]);(case side2=>exact HC0_3.out);(case side3=>solve_by_elim only[(Kd.C_below HR0_4.out HB.out),Kd.C_alloc,Kd.C_drewN,Kd.C_drew]);(case side4=>exact HC0_4.out);rintro e w22 ⟨rfl,hb⟩;refine⟨_,rfl,?_⟩;replace BK101:=U.mk (vx (g:=gb101) (o:=.cells #[.int .i64 a0_0,.string a0_1,.string a0_2,.slice A0_3 l0_3.length c0_3,.slice A0_4 l0_4.length c0_4] 27 (0,0)) (by solve_by_elim only[BK101.out,qw,qx,qv]) hb);replace HB:=U.mk (zz (by solve_by_elim (maxDepth:=20) only[HB.out,G,J,qq,qk,GE101.out]) hb);(try clear hb)))
  go_ret
  exact⟨_,by first|rfl|(simp[*,jv,jk] <;> rfl),by first|exact Kd.R_nil _ _ _ _ _|exact Kd.N_nil _ _ _ _ _|exact Kd.V_nil _ _ _ _ _|exact Kd.Q_nil _ _ _ _ _|exact Kd.S_nil _ _ _ _ _,by repeat(first|(with_reducible first|exact HB.out|apply G|apply J|apply qq|refine qk ?_ GE101.out)|exact HB.out)⟩
end Go.Proofs.Ytipdkendfcopiaa.Pr
namespace Go.Proofs.Ytipdkendfcopiaa.Pr
open Go.RowKit Go.Proofs.YtipdkendfcopiaaW.PrintWords Go.Proofs.YtipdkendfcopiaaW.PrintLast Go.Proofs.YtipdkendfcopiaaW.PrintMore
attribute [local go_sem] max2_int min2_int max_two min_two max_three min_three max_four min_four
set_option linter.unusedVariables false
set_option linter.unusedSimpArgs false
def xw.f (k:Nat) (a0_0:Int) (a0_1:ByteArray) (a0_2:ByteArray) (l0_3:List Int) (l0_4:List Int):Option (List Int):=(xv.f k a0_0 a0_1 a0_2 l0_3 l0_4).bind fun t102=>(if t102=true then((qqw.f a0_0).bind fun t106=>((qqw.f (a0_0 / 4294967296)).bind fun t109=>((bytesOfS.f a0_1).bind fun t112=>((xk.f t112).bind fun t115=>((xj.f k a0_0 a0_1 a0_2 l0_3 l0_4).bind fun t118=>((qjv.f (([(([0]:List Int)),t106,t109,t115,t118]:List (List Int)))).bind fun t124=>((xk.f t124).bind fun t127=>(some t127)))))))) else(some ([]:List Int)))
def xw.T3:Bool × List (List Nat × List Nat):=(true,[([],[]),([],[]),([1],[1]),([2],[2]),([],[]),([4],[4]),([5],[5]),([6,3],[6]),([],[]),([8],[8]),([9],[9]),([10,7],[10]),([],[]),([12,11],[12]),([0,3,7,11,13],[0,3,7,11,13]),([14,13],[14]),([15,15],[15]),([16,16,0,1,2,3,4,5,6,7,8,9,10,11,12,13,14,15,16],[16])])
def xw.B3:List Nat:=[0,0,2,6,0,16,48,126,0,256,768,2046,0,8190,16383,32767,65535,131071]
theorem xw.tab3:rtab .any (opsOf Try.f29 3)=xw.T3:=by kernel_rfl
theorem xw.bits3:waitsOk xw.T3.2 xw.B3=true:=by kernel_rfl
theorem xw.callsN (k:Nat) (a0_0:Int) (a0_1:ByteArray) (a0_2:ByteArray) (A0_3:Option Addr) (c0_3:Nat) (l0_3:List Int) (A0_4:Option Addr) (c0_4:Nat) (l0_4:List Int) (r:List Int) (w:World) (hr0_3:Kd.C (Kd.int .u8) w A0_3 l0_3.length l0_3) (hc0_3:l0_3.length≤c0_3) (hr0_4:Kd.C (Kd.int .u8) w A0_4 l0_4.length l0_4) (hc0_4:l0_4.length≤c0_4) (h:xw.f k a0_0 a0_1 a0_2 l0_3 l0_4=some r) :
  Calls Try.prog 29 #[.agg #[.int .i64 a0_0,.string a0_1,.string a0_2,.slice A0_3 l0_3.length c0_3,.slice A0_4 l0_4.length c0_4]] w fun e w'=>∃ v0_:Value,e=.returned (v0_)∧(r.length=0→v0_=.slice none 0 0)∧Kd.R (Kd.int .u8) 5 w' w.heap.size (fun _=>True) v0_ r∧Below w.heap.size w w':=by
 have hu27:=Try.underlying27
 have HR0_3:=U.mk hr0_3
 have HC0_3:=U.mk hc0_3
 clear hr0_3 hc0_3
 have HR0_4:=U.mk hr0_4
 have HC0_4:=U.mk hc0_4
 clear hr0_4 hc0_4
 have HB:=U.mk (Below.refl w.heap.size w)
 unfold xw.f at h
 have H:=h
 clear h
 replace H:=jq8.mp H
 obtain⟨t102,A20,H⟩:=H
 try dsimp only at H
 have A2:=U.mk A20
 clear A20
 by_cases c3:t102=true
 ·subst c3
  have H1:((qqw.f a0_0).bind fun t106=>((qqw.f (a0_0 / 4294967296)).bind fun t109=>((bytesOfS.f a0_1).bind fun t112=>((xk.f t112).bind fun t115=>((xj.f k a0_0 a0_1 a0_2 l0_3 l0_4).bind fun t118=>((qjv.f (([(([0]:List Int)),t106,t109,t115,t118]:List (List Int)))).bind fun t124=>((xk.f t124).bind fun t127=>(some t127))))))))=some r:=by rw[if_pos rfl] at H;exact H
  clear H
  have H:=H1
  clear H1
  obtain⟨y103,hy103⟩ : ∃ y_:List Int,y_=(([0]:List Int)):=⟨_,rfl⟩
  replace H:((qqw.f a0_0).bind fun t106=>((qqw.f (a0_0 / 4294967296)).bind fun t109=>((bytesOfS.f a0_1).bind fun t112=>((xk.f t112).bind fun t115=>((xj.f k a0_0 a0_1 a0_2 l0_3 l0_4).bind fun t118=>((qjv.f (([y103,t106,t109,t115,t118]:List (List Int)))).bind fun t124=>((xk.f t124).bind fun t127=>(some t127))))))))=some r:=by first|(rw[hy103];with_reducible exact H)|(have H2_:=(Option.bind_some _ _).symm.trans H;rw[hy103];with_reducible exact H2_)|(have H2_:=(Option.bind_some _ _).symm.trans H;with_reducible exact H2_)|with_reducible exact H|(rw[hy103];exact H)|exact H
  have Ny103:=U.mk hy103
  clear hy103
  replace H:=jq8.mp H
  obtain⟨t106,A40,H⟩:=H
  try dsimp only at H
  have A4:=U.mk A40
  clear A40
  replace H:=jq8.mp H
  obtain⟨t109,A50,H⟩:=H
  try dsimp only at H
  have A5:=U.mk A50
  clear A50
  replace H:=jq8.mp H
  obtain⟨t112,A60,H⟩:=H
  try dsimp only at H
  have A6:=U.mk A60
  clear A60
  replace H:=jq8.mp H
  obtain⟨t115,A70,H⟩:=H
  try dsimp only at H
  have A7:=U.mk A70
  clear A70
  replace H:=jq8.mp H
  obtain⟨t118,A80,H⟩:=H
  try dsimp only at H
  have A8:=U.mk A80
  clear A80
  obtain⟨y121,hy121⟩ : ∃ y_:List (List Int),y_=(([y103,t106,t109,t115,t118]:List (List Int))):=⟨_,rfl⟩
  replace H:((qjv.f y121).bind fun t124=>((xk.f t124).bind fun t127=>(some t127)))=some r:=by first|(rw[hy121];with_reducible exact H)|(have H2_:=(Option.bind_some _ _).symm.trans H;rw[hy121];with_reducible exact H2_)|(have H2_:=(Option.bind_some _ _).symm.trans H;with_reducible exact H2_)|with_reducible exact H|(rw[hy121];exact H)|exact H
  have Ny121:=U.mk hy121
  clear hy121
  replace H:=jq8.mp H
  obtain⟨t124,A90,H⟩:=H
  try dsimp only at H
  have A9:=U.mk A90
  clear A90
  replace H:=jq8.mp H
  obtain⟨t127,A100,H⟩:=H
  replace H:(some t127)=some r:=H
  have A10:=U.mk A100
  clear A100
  obtain rfl:=Option.some.inj H
  go_enter Try.func29,Try.ntmps29
  try go_wp2_with (first|((with_reducible refine gate_dst (N:=1) rfl ?_);refine box_event ?hg (N:=1) ?hd (cs:=#[.int .i64 a0_0,.string a0_1,.string a0_2,.slice A0_3 l0_3.length c0_3,.slice A0_4 l0_4.length c0_4]) (t:=27) ?hr ?_;(case hd=>rfl);(case hg=>rfl);(case hr=>first|(go_simp;done)|(go_simp;rfl));intro gb101 hg w11 hbox hb;have BK101:=U.mk (hbox);have GW101:=U.mk ((by rw[hg];exact(zj (by solve_by_elim only[HB.out,G,J,qq])):w.heap.size≤gb101));have GE101:=U.mk ((by rw[hg];exact(zj (by solve_by_elim only[HB.out,G,J,qq])):w.heap.size≤gb101));replace HB:=U.mk (zz (by solve_by_elim only[HB.out,G,J,qq]) hb);clear hb hbox hg;have hcz12_0:w11.cell? ⟨gb101,0,none⟩ = some (.int .i64 a0_0):=(qj BK101.out 0).trans rfl;have hcz12_1:w11.cell? ⟨gb101,1,none⟩ = some (.string a0_1):=(qj BK101.out 1).trans rfl;have hcz12_2:w11.cell? ⟨gb101,2,none⟩ = some (.string a0_2):=(qj BK101.out 2).trans rfl;have hcz12_3:w11.cell? ⟨gb101,3,none⟩ = some (.slice A0_3 l0_3.length c0_3):=(qj BK101.out 3).trans rfl;have hcz12_4:w11.cell? ⟨gb101,4,none⟩ = some (.slice A0_4 l0_4.length c0_4):=(qj BK101.out 4).trans rfl;have hfz12_0:=qz BK101.out 0;have hfz12_1:=qz BK101.out 1;have hfz12_2:=qz BK101.out 2;have hfz12_3:=qz BK101.out 3;have hfz12_4:=qz BK101.out 4)|((with_reducible refine jw (f:=20) rfl ?_);refine goesL_ (some 4) rfl rfl Try.func20 (by kernel_rfl) rfl #[.agg #[.int .i64 a0_0,.string a0_1,.string a0_2,.slice A0_3 l0_3.length c0_3,.slice A0_4 l0_4.length c0_4]] rfl (by(try simp only[jq0,jq1,jq2]);first|done|rfl|(simp only[jq3,jq4];rfl)) ?_;(with_reducible refine(xv.calls k a0_0 a0_1 a0_2 _ _ l0_3 _ _ l0_4 true _ ?side1 ?side2 ?side3 ?side4 A2.out).mono ?_);(case side1=>solve_by_elim only[(Kd.C_below HR0_3.out HB.out),Kd.C_alloc,Kd.C_drewN,Kd.C_drew]);(case side2=>exact HC0_3.out);(case side3=>solve_by_elim only[(Kd.C_below HR0_4.out HB.out),Kd.C_alloc,Kd.C_drewN,Kd.C_drew]);(case side4=>exact HC0_4.out);rintro e w13 ⟨rfl,hb⟩;refine⟨_,rfl,?_⟩;replace BK101:=U.mk (vx (g:=gb101) (o:=.cells #[.int .i64 a0_0,.string a0_1,.string a0_2,.slice A0_3 l0_3.length c0_3,.slice A0_4 l0_4.length c0_4] 27 (0,0)) (by solve_by_elim only[BK101.out,qw,qx,qv]) hb);replace HB:=U.mk (zz (by solve_by_elim (maxDepth:=20) only[HB.out,G,J,qq,qk,GE101.out]) hb);(try clear hb)))
  replace BK101:=U.mk (qx BK101.out)
  replace HB:=U.mk (qq HB.out)
  refine start_ (n:=18) (S:=fun w'=>True) (ds:=[]) #[Y,Y,Y,Y,Y,Y,Y,Y,Y,Y,Y,Y,Y,Y,Y,Y,Y,Y] (by kernel_rfl) rfl rfl trivial (fun hHeld=>?_);refine with_tabW xw.tab3 xw.bits3 (fun HT_ HW_=>?_)
  generalize w13.drew=w14 at BK101 HB hHeld ⊢
  refine pure_ (i:=1) (N:=some 7) (v:=?_) (a':=?_) #[Y,Z,Y,Y,Y,Y,Y,Y,Y,Y,Y,Y,Y,Y,Y,Y,Y,Y] rfl rfl (any_of HT_.out (by kernel_rfl)) (fun _ _ _ h=>h) (Or.inl ⟨by rfl,?_⟩) ?_ ?_
  rotate_left
  ·intro w'
   go_simp
   with_reducible rfl
  rotate_left
  ·simp only[Act.put,jq5,jq6,jq7,i64_w,i32_w]
   rfl
  refine pure_ (i:=4) (N:=some 10) (v:=?_) (a':=?_) #[Y,Z,Y,Y,Z,Y,Y,Y,Y,Y,Y,Y,Y,Y,Y,Y,Y,Y] rfl rfl (any_of HT_.out (by kernel_rfl)) (fun _ _ _ h=>h) (Or.inl ⟨by rfl,?_⟩) ?_ ?_
  rotate_left
  ·intro w'
   go_simp
   with_reducible rfl
  rotate_left
  ·simp only[Act.put,jq5,jq6,jq7,i64_w,i32_w]
   rfl
  refine pure_ (i:=8) (N:=some 14) (v:=?_) (a':=?_) #[Y,Z,Y,Y,Z,Y,Y,Y,Z,Y,Y,Y,Y,Y,Y,Y,Y,Y] rfl rfl (any_of HT_.out (by kernel_rfl)) (fun _ _ _ h=>h) (Or.inl ⟨by rfl,?_⟩) ?_ ?_
  rotate_left
  ·intro w'
   go_simp
   with_reducible rfl
  rotate_left
  ·simp only[Act.put,jq5,jq6,jq7,i64_w,i32_w]
   rfl
  refine inv_at [0,2,3,5,6,7,9,10,11,12,13,14,15,16,17] (fun a0_ b a w'=>∃ (v104:Value) (v107:Value) (v110:Value) (v113:Value) (v116:Value) (v119:Value) (v122:Value) (v125:Value) (v128:Value) (m17_:Value),a=putSel a0_ b [(0,6,v104),(2,8,.int .i64 a0_0),(3,9,v107),(5,11,.int .i64 a0_0),(6,12,.int .i64 (a0_0 / 4294967296)),(7,13,v110),(9,15,.string a0_1),(10,16,v113),(11,17,v116),(12,18,.agg #[.int .i64 a0_0,.string a0_1,.string a0_2,.slice A0_3 l0_3.length c0_3,.slice A0_4 l0_4.length c0_4]),(13,19,v119),(14,20,v122),(15,21,v125),(16,22,v128),(17,2,m17_)]∧(w'.heap[gb101]? = some (.cells #[.int .i64 a0_0,.string a0_1,.string a0_2,.slice A0_3 l0_3.length c0_3,.slice A0_4 l0_4.length c0_4] 27 (0,0)))∧(Below w.heap.size w w')∧(b 0=true→b 14=false→Kd.R (Kd.int .u8) 5 w' w.heap.size (fun _=>True) v104 y103)∧(b 3=true→b 14=false→Kd.R (Kd.int .u8) 5 w' w.heap.size (fun _=>True) v107 t106)∧(b 7=true→b 14=false→Kd.R (Kd.int .u8) 5 w' w.heap.size (fun _=>True) v110 t109)∧(b 10=true→Kd.V (Kd.int .u8) 5 w' w.heap.size (fun k_=>k_≠gb101) v113 t112)∧(b 11=true→b 14=false→Kd.R (Kd.int .u8) 5 w' w.heap.size (fun _=>True) v116 t115)∧(b 13=true→b 14=false→Kd.R (Kd.int .u8) 5 w' w.heap.size (fun _=>True) v119 t118)∧(b 14=true→Kd.N (Kd.slice 5 (Kd.int .u8)) 22 w' w.heap.size (fun k_=>k_≠gb101) v122 y121)∧(b 15=true→Kd.R (Kd.int .u8) 5 w' w.heap.size (fun _=>True) v125 t124)∧(b 16=true→Kd.R (Kd.int .u8) 5 w' w.heap.size (fun _=>True) v128 t127)∧(b 17=true→(m17_:Value)=v128)) HT_.out HW_.out (by kernel_rfl) (by kernel_rfl) ?_ ?_ ?_
  ·exact⟨.bool false,.bool false,.bool false,.bool false,.bool false,.bool false,.bool false,.bool false,.bool false,.bool false,by simp only[putSel,Bool.false_eq_true,if_false],BK101.out,HB.out,fun h_=>absurd h_ (by decide),fun h_=>absurd h_ (by decide),fun h_=>absurd h_ (by decide),fun h_=>absurd h_ (by decide),fun h_=>absurd h_ (by decide),fun h_=>absurd h_ (by decide),fun h_=>absurd h_ (by decide),fun h_=>absurd h_ (by decide),fun h_=>absurd h_ (by decide),fun h_=>absurd h_ (by decide)⟩
  ·skip
   clear BK101 HB
   refine steps_cons ?_ ?_
   ·rintro b a w' ⟨v104,v107,v110,v113,v116,v119,v122,v125,v128,m17_,ha,Q_BK101,Q_HB,Q_HO105,Q_HO108,Q_HO111,Q_HO114,Q_HO117,Q_HO120,Q_HO123,Q_HO126,Q_HO129,Q_X17_⟩ hb_ hon hoff
    refine⟨_,rfl,fun K hK=>?_⟩
    replace ha:=U.mk ha
    have BK101:=U.mk Q_BK101
    have HB:=U.mk Q_HB
    refine Kd.R_lit_step (Kd.int .u8) _ 5 ?hg (N:=6) ?hd (xs:=([0]:List Int)) (inner:=[.int .u8 0]) (ok:=fun _=>True) (okp:=fun _=>True) ?hr ?hp (fun _ hk=>by first|exact hk|trivial|(simp_all;done)|grind) trivial (Below.refl _ _) (Nat.le_refl _) (by simp) ?_;(case hd=>rfl);(case hg=>rfl);(case hr=>first|(go_simp;done)|(go_simp;rfl));(case hp=>exact(Reps.one (show Kd.M (Kd.int .u8) _ _ _ 0 [.int .u8 0] from rfl) (Reps.none _ _)))
    intro v104 w15 ho16 hb hg_ hnew_
    clear hg_ hnew_
    (first|rw[← Ny103.out] at ho16|(simp only[Int.reduceToNat] at ho16;rw[← Ny103.out] at ho16))
    have n0_:=U.mk (Kd.R_lower ho16 (zj (by solve_by_elim (maxDepth:=20) only[HB.out,G,J,qq,qk,GE101.out])))
    have n1_:=U.mk (vx (g:=gb101) (o:=.cells #[.int .i64 a0_0,.string a0_1,.string a0_2,.slice A0_3 l0_3.length c0_3,.slice A0_4 l0_4.length c0_4] 27 (0,0)) (by solve_by_elim only[BK101.out,qw,qx,qv]) hb)
    have n2_:=U.mk (zz (by solve_by_elim (maxDepth:=20) only[HB.out,G,J,qq,qk,GE101.out]) hb)
    have z_HO108:=fun (h0_:b 3=true) (h1_:b 14=false)=>(show Kd.R (Kd.int .u8) 5 w15 w.heap.size (fun _=>True) v107 t106 from by first|exact(Kd.R_elder' (by(with_reducible repeat(first|apply Kd.zv|apply Kd.zk|apply Kd.zw));exact(Q_HO108 h0_ h1_)) (Kd.R_base ho16) hb)|exact Kd.R_mono (Kd.R_elder' (by(with_reducible repeat(first|apply Kd.zv|apply Kd.zk|apply Kd.zw));exact(Q_HO108 h0_ h1_)) (Kd.R_base ho16) hb) (fun _ h_=>by first|trivial|exact h_|exact h_.1))
    have z_HO111:=fun (h0_:b 7=true) (h1_:b 14=false)=>(show Kd.R (Kd.int .u8) 5 w15 w.heap.size (fun _=>True) v110 t109 from by first|exact(Kd.R_elder' (by(with_reducible repeat(first|apply Kd.zv|apply Kd.zk|apply Kd.zw));exact(Q_HO111 h0_ h1_)) (Kd.R_base ho16) hb)|exact Kd.R_mono (Kd.R_elder' (by(with_reducible repeat(first|apply Kd.zv|apply Kd.zk|apply Kd.zw));exact(Q_HO111 h0_ h1_)) (Kd.R_base ho16) hb) (fun _ h_=>by first|trivial|exact h_|exact h_.1))
    have z_HO114:=fun (h0_:b 10=true)=>(show Kd.V (Kd.int .u8) 5 w15 w.heap.size (fun k_=>k_≠gb101) v113 t112 from by first|exact(Kd.V_elder' (by(with_reducible repeat(first|apply Kd.vv|apply Kd.vk|apply Kd.vw));exact(Q_HO114 h0_)) (Kd.R_base ho16) hb)|exact Kd.V_mono (Kd.V_elder' (by(with_reducible repeat(first|apply Kd.vv|apply Kd.vk|apply Kd.vw));exact(Q_HO114 h0_)) (Kd.R_base ho16) hb) (fun _ h_=>by first|trivial|exact h_|exact h_.1))
    have z_HO117:=fun (h0_:b 11=true) (h1_:b 14=false)=>(show Kd.R (Kd.int .u8) 5 w15 w.heap.size (fun _=>True) v116 t115 from by first|exact(Kd.R_elder' (by(with_reducible repeat(first|apply Kd.zv|apply Kd.zk|apply Kd.zw));exact(Q_HO117 h0_ h1_)) (Kd.R_base ho16) hb)|exact Kd.R_mono (Kd.R_elder' (by(with_reducible repeat(first|apply Kd.zv|apply Kd.zk|apply Kd.zw));exact(Q_HO117 h0_ h1_)) (Kd.R_base ho16) hb) (fun _ h_=>by first|trivial|exact h_|exact h_.1))
    have z_HO120:=fun (h0_:b 13=true) (h1_:b 14=false)=>(show Kd.R (Kd.int .u8) 5 w15 w.heap.size (fun _=>True) v119 t118 from by first|exact(Kd.R_elder' (by(with_reducible repeat(first|apply Kd.zv|apply Kd.zk|apply Kd.zw));exact(Q_HO120 h0_ h1_)) (Kd.R_base ho16) hb)|exact Kd.R_mono (Kd.R_elder' (by(with_reducible repeat(first|apply Kd.zv|apply Kd.zk|apply Kd.zw));exact(Q_HO120 h0_ h1_)) (Kd.R_base ho16) hb) (fun _ h_=>by first|trivial|exact h_|exact h_.1))
    clear BK101
    clear HB
    have HO105:=n0_
    have BK101:=n1_
    have HB:=n2_
    clear n0_ n1_ n2_
    clear hb ho16
    refine hK.out _ _ ⟨v104,v107,v110,v113,v116,v119,v122,v125,v128,m17_,(by rw[ha.out];exact putSel_upk 0 hb_ rfl rfl rfl),(by solve_by_elim only[BK101.out,qw,qx,qv]),(by solve_by_elim (maxDepth:=20) only[HB.out,G,J,qq,qk,GE101.out]),fun _ _=>(by(with_reducible repeat(first|apply Kd.zv|apply Kd.zk|apply Kd.zw));first|exact HO105.out|exact Kd.R_mono HO105.out (fun _ hk=>by first|trivial|(simp_all;done)|grind)),z_HO108,z_HO111,z_HO114,z_HO117,z_HO120,fun h0_=>absurd ((hoff 14 (by kernel_rfl)).symm.trans h0_) (by decide),fun h0_=>absurd ((hoff 15 (by kernel_rfl)).symm.trans h0_) (by decide),fun h0_=>absurd ((hoff 16 (by kernel_rfl)).symm.trans h0_) (by decide),fun h0_=>absurd ((hoff 17 (by kernel_rfl)).symm.trans h0_) (by decide)⟩
   refine steps_cons ?_ ?_
   ·rintro b a w' ⟨v104,v107,v110,v113,v116,v119,v122,v125,v128,m17_,ha,Q_BK101,Q_HB,Q_HO105,Q_HO108,Q_HO111,Q_HO114,Q_HO117,Q_HO120,Q_HO123,Q_HO126,Q_HO129,Q_X17_⟩ hb_ hon hoff
    refine⟨_,rfl,fun K hK=>?_⟩
    have e7:a.tmps[7]? = some (.pointer (some ⟨gb101,0,none⟩)):=by rw[ha];exact(putSel_off rfl).trans rfl
    replace ha:=U.mk ha
    have BK101:=U.mk Q_BK101
    have HB:=U.mk Q_HB
    have hc0_:w'.cell? ⟨gb101,0,none⟩ = some (.int .i64 a0_0):=(qj BK101.out 0).trans rfl
    have hc1_:w'.cell? ⟨gb101,1,none⟩ = some (.string a0_1):=(qj BK101.out 1).trans rfl
    have hc2_:w'.cell? ⟨gb101,2,none⟩ = some (.string a0_2):=(qj BK101.out 2).trans rfl
    have hc3_:w'.cell? ⟨gb101,3,none⟩ = some (.slice A0_3 l0_3.length c0_3):=(qj BK101.out 3).trans rfl
    have hc4_:w'.cell? ⟨gb101,4,none⟩ = some (.slice A0_4 l0_4.length c0_4):=(qj BK101.out 4).trans rfl
    refine value_ (w1:=w') (v:=.int .i64 a0_0) (by rfl) rfl ?_ ?_
    ·go_simp
     (try simp only[i64_w])
     try rfl
    refine hK.out _ _ ⟨v104,v107,v110,v113,v116,v119,v122,v125,v128,m17_,(by rw[ha.out];exact putSel_upk 1 hb_ rfl rfl rfl),Q_BK101,Q_HB,Q_HO105,fun h0_ _=>absurd ((hoff 3 (by kernel_rfl)).symm.trans h0_) (by decide),fun h0_ _=>absurd ((hoff 7 (by kernel_rfl)).symm.trans h0_) (by decide),Q_HO114,fun h0_ _=>absurd ((hoff 11 (by kernel_rfl)).symm.trans h0_) (by decide),fun h0_ _=>absurd ((hoff 13 (by kernel_rfl)).symm.trans h0_) (by decide),fun h0_=>absurd ((hoff 14 (by kernel_rfl)).symm.trans h0_) (by decide),fun h0_=>absurd ((hoff 15 (by kernel_rfl)).symm.trans h0_) (by decide),fun h0_=>absurd ((hoff 16 (by kernel_rfl)).symm.trans h0_) (by decide),fun h0_=>absurd ((hoff 17 (by kernel_rfl)).symm.trans h0_) (by decide)⟩
   refine steps_cons ?_ ?_
   ·rintro b a w' ⟨v104,v107,v110,v113,v116,v119,v122,v125,v128,m17_,ha,Q_BK101,Q_HB,Q_HO105,Q_HO108,Q_HO111,Q_HO114,Q_HO117,Q_HO120,Q_HO123,Q_HO126,Q_HO129,Q_X17_⟩ hb_ hon hoff
    refine⟨_,rfl,fun K hK=>?_⟩
    have e8:a.tmps[8]? = some (.int .i64 a0_0):=by rw[ha];exact putSel_on (e:=(2,8,.int .i64 a0_0)) 1 rfl rfl (hon 2 (by kernel_rfl)) rfl
    replace ha:=U.mk ha
    have BK101:=U.mk Q_BK101
    have HB:=U.mk Q_HB
    refine goes_ Try.func79 (by kernel_rfl) rfl #[.int .i64 a0_0] (by rfl) rfl rfl (by first|(simp only[jq0,jq1,jq2,Act.eval,Array.getD_eq_getD_getElem?,Option.getD_some,e8];done)|(simp only[jq0,jq1,jq2,Act.eval,Array.getD_eq_getD_getElem?,Option.getD_some,e8];rfl)) ?_
    with_reducible refine(qqw.calls a0_0 t106 _ A4.out).mono ?_
    rintro e w15 ⟨v107,rfl,ho0,hb⟩
    refine⟨_,rfl,?_⟩
    have n0_:=U.mk (Kd.R_lower ho0 (zj (by solve_by_elim (maxDepth:=20) only[HB.out,G,J,qq,qk,GE101.out])))
    have n1_:=U.mk (vx (g:=gb101) (o:=.cells #[.int .i64 a0_0,.string a0_1,.string a0_2,.slice A0_3 l0_3.length c0_3,.slice A0_4 l0_4.length c0_4] 27 (0,0)) (by solve_by_elim only[BK101.out,qw,qx,qv]) hb)
    have n2_:=U.mk (zz (by solve_by_elim (maxDepth:=20) only[HB.out,G,J,qq,qk,GE101.out]) hb)
    have z_HO105:=fun (h0_:b 0=true) (h1_:b 14=false)=>(show Kd.R (Kd.int .u8) 5 w15 w.heap.size (fun _=>True) v104 y103 from by first|exact(Kd.R_elder' (by(with_reducible repeat(first|apply Kd.zv|apply Kd.zk|apply Kd.zw));exact(Q_HO105 h0_ h1_)) (Kd.R_base ho0) hb)|exact Kd.R_mono (Kd.R_elder' (by(with_reducible repeat(first|apply Kd.zv|apply Kd.zk|apply Kd.zw));exact(Q_HO105 h0_ h1_)) (Kd.R_base ho0) hb) (fun _ h_=>by first|trivial|exact h_|exact h_.1))
    have z_HO114:=fun (h0_:b 10=true)=>(show Kd.V (Kd.int .u8) 5 w15 w.heap.size (fun k_=>k_≠gb101) v113 t112 from by first|exact(Kd.V_elder' (by(with_reducible repeat(first|apply Kd.vv|apply Kd.vk|apply Kd.vw));exact(Q_HO114 h0_)) (Kd.R_base ho0) hb)|exact Kd.V_mono (Kd.V_elder' (by(with_reducible repeat(first|apply Kd.vv|apply Kd.vk|apply Kd.vw));exact(Q_HO114 h0_)) (Kd.R_base ho0) hb) (fun _ h_=>by first|trivial|exact h_|exact h_.1))
    clear BK101
    clear HB
    have HO108:=n0_
    have BK101:=n1_
    have HB:=n2_
    clear n0_ n1_ n2_
    (try clear hb)
    (try clear hb2)
    (try clear hk)
    (try clear hi)
    (try clear ho0)
    refine hK.out _ _ ⟨v104,v107,v110,v113,v116,v119,v122,v125,v128,m17_,(by rw[ha.out];exact putSel_upk 2 hb_ rfl rfl rfl),(by solve_by_elim only[BK101.out,qw,qx,qv]),(by solve_by_elim (maxDepth:=20) only[HB.out,G,J,qq,qk,GE101.out]),z_HO105,fun _ _=>(by(with_reducible repeat(first|apply Kd.zv|apply Kd.zk|apply Kd.zw));first|exact HO108.out|exact Kd.R_mono HO108.out (fun _ hk=>by first|trivial|(simp_all;done)|grind)),fun h0_ _=>absurd ((hoff 7 (by kernel_rfl)).symm.trans h0_) (by decide),z_HO114,fun h0_ _=>absurd ((hoff 11 (by kernel_rfl)).symm.trans h0_) (by decide),fun h0_ _=>absurd ((hoff 13 (by kernel_rfl)).symm.trans h0_) (by decide),fun h0_=>absurd ((hoff 14 (by kernel_rfl)).symm.trans h0_) (by decide),fun h0_=>absurd ((hoff 15 (by kernel_rfl)).symm.trans h0_) (by decide),fun h0_=>absurd ((hoff 16 (by kernel_rfl)).symm.trans h0_) (by decide),fun h0_=>absurd ((hoff 17 (by kernel_rfl)).symm.trans h0_) (by decide)⟩
   refine steps_cons ?_ ?_
   ·rintro b a w' ⟨v104,v107,v110,v113,v116,v119,v122,v125,v128,m17_,ha,Q_BK101,Q_HB,Q_HO105,Q_HO108,Q_HO111,Q_HO114,Q_HO117,Q_HO120,Q_HO123,Q_HO126,Q_HO129,Q_X17_⟩ hb_ hon hoff
    refine⟨_,rfl,fun K hK=>?_⟩
    have e10:a.tmps[10]? = some (.pointer (some ⟨gb101,0,none⟩)):=by rw[ha];exact(putSel_off rfl).trans rfl
    replace ha:=U.mk ha
    have BK101:=U.mk Q_BK101
    have HB:=U.mk Q_HB
    have hc0_:w'.cell? ⟨gb101,0,none⟩ = some (.int .i64 a0_0):=(qj BK101.out 0).trans rfl
    have hc1_:w'.cell? ⟨gb101,1,none⟩ = some (.string a0_1):=(qj BK101.out 1).trans rfl
    have hc2_:w'.cell? ⟨gb101,2,none⟩ = some (.string a0_2):=(qj BK101.out 2).trans rfl
    have hc3_:w'.cell? ⟨gb101,3,none⟩ = some (.slice A0_3 l0_3.length c0_3):=(qj BK101.out 3).trans rfl
    have hc4_:w'.cell? ⟨gb101,4,none⟩ = some (.slice A0_4 l0_4.length c0_4):=(qj BK101.out 4).trans rfl
    refine value_ (w1:=w') (v:=.int .i64 a0_0) (by rfl) rfl ?_ ?_
    ·go_simp
     (try simp only[i64_w])
     try rfl
    refine hK.out _ _ ⟨v104,v107,v110,v113,v116,v119,v122,v125,v128,m17_,(by rw[ha.out];exact putSel_upk 3 hb_ rfl rfl rfl),Q_BK101,Q_HB,Q_HO105,Q_HO108,fun h0_ _=>absurd ((hoff 7 (by kernel_rfl)).symm.trans h0_) (by decide),Q_HO114,fun h0_ _=>absurd ((hoff 11 (by kernel_rfl)).symm.trans h0_) (by decide),fun h0_ _=>absurd ((hoff 13 (by kernel_rfl)).symm.trans h0_) (by decide),fun h0_=>absurd ((hoff 14 (by kernel_rfl)).symm.trans h0_) (by decide),fun h0_=>absurd ((hoff 15 (by kernel_rfl)).symm.trans h0_) (by decide),fun h0_=>absurd ((hoff 16 (by kernel_rfl)).symm.trans h0_) (by decide),fun h0_=>absurd ((hoff 17 (by kernel_rfl)).symm.trans h0_) (by decide)⟩
   refine steps_cons ?_ ?_
   ·rintro b a w' ⟨v104,v107,v110,v113,v116,v119,v122,v125,v128,m17_,ha,Q_BK101,Q_HB,Q_HO105,Q_HO108,Q_HO111,Q_HO114,Q_HO117,Q_HO120,Q_HO123,Q_HO126,Q_HO129,Q_X17_⟩ hb_ hon hoff
    refine⟨_,rfl,fun K hK=>?_⟩
    have e11:a.tmps[11]? = some (.int .i64 a0_0):=by rw[ha];exact putSel_on (e:=(5,11,.int .i64 a0_0)) 3 rfl rfl (hon 5 (by kernel_rfl)) rfl
    replace ha:=U.mk ha
    have BK101:=U.mk Q_BK101
    have HB:=U.mk Q_HB
    refine value_ (w1:=w') (v:=.int .i64 (a0_0 / 4294967296)) (by rfl) rfl ?_ ?_
    ·go_simp
     (try simp only[i64_w])
     try rfl
    refine hK.out _ _ ⟨v104,v107,v110,v113,v116,v119,v122,v125,v128,m17_,(by rw[ha.out];exact putSel_upk 4 hb_ rfl rfl rfl),Q_BK101,Q_HB,Q_HO105,Q_HO108,fun h0_ _=>absurd ((hoff 7 (by kernel_rfl)).symm.trans h0_) (by decide),Q_HO114,fun h0_ _=>absurd ((hoff 11 (by kernel_rfl)).symm.trans h0_) (by decide),fun h0_ _=>absurd ((hoff 13 (by kernel_rfl)).symm.trans h0_) (by decide),fun h0_=>absurd ((hoff 14 (by kernel_rfl)).symm.trans h0_) (by decide),fun h0_=>absurd ((hoff 15 (by kernel_rfl)).symm.trans h0_) (by decide),fun h0_=>absurd ((hoff 16 (by kernel_rfl)).symm.trans h0_) (by decide),fun h0_=>absurd ((hoff 17 (by kernel_rfl)).symm.trans h0_) (by decide)⟩
   refine steps_cons ?_ ?_
   ·rintro b a w' ⟨v104,v107,v110,v113,v116,v119,v122,v125,v128,m17_,ha,Q_BK101,Q_HB,Q_HO105,Q_HO108,Q_HO111,Q_HO114,Q_HO117,Q_HO120,Q_HO123,Q_HO126,Q_HO129,Q_X17_⟩ hb_ hon hoff
    refine⟨_,rfl,fun K hK=>?_⟩
    have e12:a.tmps[12]? = some (.int .i64 (a0_0 / 4294967296)):=by rw[ha];exact putSel_on (e:=(6,12,.int .i64 (a0_0 / 4294967296))) 4 rfl rfl (hon 6 (by kernel_rfl)) rfl
    replace ha:=U.mk ha
    have BK101:=U.mk Q_BK101
    have HB:=U.mk Q_HB
    have HO108:=U.mk (Q_HO108 (hon 3 (by kernel_rfl)) (hoff 14 (by kernel_rfl)))
    refine goes_ Try.func79 (by kernel_rfl) rfl #[.int .i64 (a0_0 / 4294967296)] (by rfl) rfl rfl (by first|(simp only[jq0,jq1,jq2,Act.eval,Array.getD_eq_getD_getElem?,Option.getD_some,e12];done)|(simp only[jq0,jq1,jq2,Act.eval,Array.getD_eq_getD_getElem?,Option.getD_some,e12];rfl)) ?_
    with_reducible refine(qqw.calls (a0_0 / 4294967296) t109 _ A5.out).mono ?_
    rintro e w17 ⟨v110,rfl,ho0,hb⟩
    refine⟨_,rfl,?_⟩
    have n0_:=U.mk (Kd.R_elder' (by(with_reducible repeat(first|apply Kd.zv|apply Kd.zk|apply Kd.zw));first|exact HO108.out|exact Kd.R_mono HO108.out (fun _ hk=>by first|trivial|(simp_all;done)|grind)) (Kd.R_base ho0) hb)
    have n1_:=U.mk (Kd.R_lower (Kd.R_new' ho0 (Kd.R_lt (by(with_reducible repeat(first|apply Kd.zv|apply Kd.zk|apply Kd.zw));first|exact HO108.out|exact Kd.R_mono HO108.out (fun _ hk=>by first|trivial|(simp_all;done)|grind)))) (zj (by solve_by_elim (maxDepth:=20) only[HB.out,G,J,qq,qk,GE101.out])))
    have n2_:=U.mk (vx (g:=gb101) (o:=.cells #[.int .i64 a0_0,.string a0_1,.string a0_2,.slice A0_3 l0_3.length c0_3,.slice A0_4 l0_4.length c0_4] 27 (0,0)) (by solve_by_elim only[BK101.out,qw,qx,qv]) hb)
    have n3_:=U.mk (zz (by solve_by_elim (maxDepth:=20) only[HB.out,G,J,qq,qk,GE101.out]) hb)
    have z_HO105:=fun (h0_:b 0=true) (h1_:b 14=false)=>(show Kd.R (Kd.int .u8) 5 w17 w.heap.size (fun _=>True) v104 y103 from by first|exact(Kd.R_elder' (by(with_reducible repeat(first|apply Kd.zv|apply Kd.zk|apply Kd.zw));exact(Q_HO105 h0_ h1_)) (Kd.R_base ho0) hb)|exact Kd.R_mono (Kd.R_elder' (by(with_reducible repeat(first|apply Kd.zv|apply Kd.zk|apply Kd.zw));exact(Q_HO105 h0_ h1_)) (Kd.R_base ho0) hb) (fun _ h_=>by first|trivial|exact h_|exact h_.1))
    have z_HO114:=fun (h0_:b 10=true)=>(show Kd.V (Kd.int .u8) 5 w17 w.heap.size (fun k_=>k_≠gb101) v113 t112 from by first|exact(Kd.V_elder' (by(with_reducible repeat(first|apply Kd.vv|apply Kd.vk|apply Kd.vw));exact(Q_HO114 h0_)) (Kd.R_base ho0) hb)|exact Kd.V_mono (Kd.V_elder' (by(with_reducible repeat(first|apply Kd.vv|apply Kd.vk|apply Kd.vw));exact(Q_HO114 h0_)) (Kd.R_base ho0) hb) (fun _ h_=>by first|trivial|exact h_|exact h_.1))
    clear HO108
    clear BK101
    clear HB
    have HO108:=n0_
    have HO111:=n1_
    have BK101:=n2_
    have HB:=n3_
    clear n0_ n1_ n2_ n3_
    (try clear hb)
    (try clear hb2)
    (try clear hk)
    (try clear hi)
    (try clear ho0)
    refine hK.out _ _ ⟨v104,v107,v110,v113,v116,v119,v122,v125,v128,m17_,(by rw[ha.out];exact putSel_upk 5 hb_ rfl rfl rfl),(by solve_by_elim only[BK101.out,qw,qx,qv]),(by solve_by_elim (maxDepth:=20) only[HB.out,G,J,qq,qk,GE101.out]),z_HO105,fun _ _=>(by(with_reducible repeat(first|apply Kd.zv|apply Kd.zk|apply Kd.zw));exact Kd.R_mono HO108.out (fun _ hk=>by first|exact hk.2|trivial|(simp_all;done)|grind)),fun _ _=>(by(with_reducible repeat(first|apply Kd.zv|apply Kd.zk|apply Kd.zw));exact Kd.R_mono HO111.out (fun _ hk=>by first|exact hk.2|trivial|(simp_all;done)|grind)),z_HO114,fun h0_ _=>absurd ((hoff 11 (by kernel_rfl)).symm.trans h0_) (by decide),fun h0_ _=>absurd ((hoff 13 (by kernel_rfl)).symm.trans h0_) (by decide),fun h0_=>absurd ((hoff 14 (by kernel_rfl)).symm.trans h0_) (by decide),fun h0_=>absurd ((hoff 15 (by kernel_rfl)).symm.trans h0_) (by decide),fun h0_=>absurd ((hoff 16 (by kernel_rfl)).symm.trans h0_) (by decide),fun h0_=>absurd ((hoff 17 (by kernel_rfl)).symm.trans h0_) (by decide)⟩
   refine steps_cons ?_ ?_
   ·rintro b a w' ⟨v104,v107,v110,v113,v116,v119,v122,v125,v128,m17_,ha,Q_BK101,Q_HB,Q_HO105,Q_HO108,Q_HO111,Q_HO114,Q_HO117,Q_HO120,Q_HO123,Q_HO126,Q_HO129,Q_X17_⟩ hb_ hon hoff
    refine⟨_,rfl,fun K hK=>?_⟩
    have e14:a.tmps[14]? = some (.pointer (some ⟨gb101,1,none⟩)):=by rw[ha];exact(putSel_off rfl).trans rfl
    replace ha:=U.mk ha
    have BK101:=U.mk Q_BK101
    have HB:=U.mk Q_HB
    have hc0_:w'.cell? ⟨gb101,0,none⟩ = some (.int .i64 a0_0):=(qj BK101.out 0).trans rfl
    have hc1_:w'.cell? ⟨gb101,1,none⟩ = some (.string a0_1):=(qj BK101.out 1).trans rfl
    have hc2_:w'.cell? ⟨gb101,2,none⟩ = some (.string a0_2):=(qj BK101.out 2).trans rfl
    have hc3_:w'.cell? ⟨gb101,3,none⟩ = some (.slice A0_3 l0_3.length c0_3):=(qj BK101.out 3).trans rfl
    have hc4_:w'.cell? ⟨gb101,4,none⟩ = some (.slice A0_4 l0_4.length c0_4):=(qj BK101.out 4).trans rfl
    refine value_ (w1:=w') (v:=.string a0_1) (by rfl) rfl ?_ ?_
    ·go_simp
     (try simp only[i64_w])
     try rfl
    refine hK.out _ _ ⟨v104,v107,v110,v113,v116,v119,v122,v125,v128,m17_,(by rw[ha.out];exact putSel_upk 6 hb_ rfl rfl rfl),Q_BK101,Q_HB,Q_HO105,Q_HO108,Q_HO111,fun h0_=>absurd ((hoff 10 (by kernel_rfl)).symm.trans h0_) (by decide),fun h0_ _=>absurd ((hoff 11 (by kernel_rfl)).symm.trans h0_) (by decide),fun h0_ _=>absurd ((hoff 13 (by kernel_rfl)).symm.trans h0_) (by decide),fun h0_=>absurd ((hoff 14 (by kernel_rfl)).symm.trans h0_) (by decide),fun h0_=>absurd ((hoff 15 (by kernel_rfl)).symm.trans h0_) (by decide),fun h0_=>absurd ((hoff 16 (by kernel_rfl)).symm.trans h0_) (by decide),fun h0_=>absurd ((hoff 17 (by kernel_rfl)).symm.trans h0_) (by decide)⟩
   refine steps_cons ?_ ?_
   ·rintro b a w' ⟨v104,v107,v110,v113,v116,v119,v122,v125,v128,m17_,ha,Q_BK101,Q_HB,Q_HO105,Q_HO108,Q_HO111,Q_HO114,Q_HO117,Q_HO120,Q_HO123,Q_HO126,Q_HO129,Q_X17_⟩ hb_ hon hoff
    refine⟨_,rfl,fun K hK=>?_⟩
    have e15:a.tmps[15]? = some (.string a0_1):=by rw[ha];exact putSel_on (e:=(9,15,.string a0_1)) 6 rfl rfl (hon 9 (by kernel_rfl)) rfl
    replace ha:=U.mk ha
    have BK101:=U.mk Q_BK101
    have HB:=U.mk Q_HB
    refine bytesGoes_ (s:=a0_1) (by rfl) rfl rfl (by first|(simp only[jq0,jq1,jq2,Act.eval,Array.getD_eq_getD_getElem?,Option.getD_some,e15];done)|(simp only[jq0,jq1,jq2,Act.eval,Array.getD_eq_getD_getElem?,Option.getD_some,e15];rfl)) ?_
    with_reducible refine(bytesOfS.calls a0_1 t112 _ A6.out).mono ?_
    rintro e w15 ⟨v113,rfl,ho0,hb⟩
    refine⟨_,rfl,?_⟩
    have n0_:=U.mk (Kd.V_lower (Kd.V_mono (ok':=fun k_=>k_≠gb101) ho0 (fun k_ hk_=>(Kd.freshB (g:=gb101) (o:=.cells #[.int .i64 a0_0,.string a0_1,.string a0_2,.slice A0_3 l0_3.length c0_3,.slice A0_4 l0_4.length c0_4] 27 (0,0)) (by solve_by_elim only[BK101.out,qw,qx,qv]) k_ hk_))) (zj (by solve_by_elim (maxDepth:=20) only[HB.out,G,J,qq,qk,GE101.out])))
    have n1_:=U.mk (vx (g:=gb101) (o:=.cells #[.int .i64 a0_0,.string a0_1,.string a0_2,.slice A0_3 l0_3.length c0_3,.slice A0_4 l0_4.length c0_4] 27 (0,0)) (by solve_by_elim only[BK101.out,qw,qx,qv]) hb)
    have n2_:=U.mk (zz (by solve_by_elim (maxDepth:=20) only[HB.out,G,J,qq,qk,GE101.out]) hb)
    have z_HO105:=fun (h0_:b 0=true) (h1_:b 14=false)=>(show Kd.R (Kd.int .u8) 5 w15 w.heap.size (fun _=>True) v104 y103 from by first|exact(Kd.R_below (by(with_reducible repeat(first|apply Kd.zv|apply Kd.zk|apply Kd.zw));exact(Q_HO105 h0_ h1_)) hb)|exact Kd.R_mono (Kd.R_below (by(with_reducible repeat(first|apply Kd.zv|apply Kd.zk|apply Kd.zw));exact(Q_HO105 h0_ h1_)) hb) (fun _ h_=>by first|trivial|exact h_|exact h_.1))
    have z_HO108:=fun (h0_:b 3=true) (h1_:b 14=false)=>(show Kd.R (Kd.int .u8) 5 w15 w.heap.size (fun _=>True) v107 t106 from by first|exact(Kd.R_below (by(with_reducible repeat(first|apply Kd.zv|apply Kd.zk|apply Kd.zw));exact(Q_HO108 h0_ h1_)) hb)|exact Kd.R_mono (Kd.R_below (by(with_reducible repeat(first|apply Kd.zv|apply Kd.zk|apply Kd.zw));exact(Q_HO108 h0_ h1_)) hb) (fun _ h_=>by first|trivial|exact h_|exact h_.1))
    have z_HO111:=fun (h0_:b 7=true) (h1_:b 14=false)=>(show Kd.R (Kd.int .u8) 5 w15 w.heap.size (fun _=>True) v110 t109 from by first|exact(Kd.R_below (by(with_reducible repeat(first|apply Kd.zv|apply Kd.zk|apply Kd.zw));exact(Q_HO111 h0_ h1_)) hb)|exact Kd.R_mono (Kd.R_below (by(with_reducible repeat(first|apply Kd.zv|apply Kd.zk|apply Kd.zw));exact(Q_HO111 h0_ h1_)) hb) (fun _ h_=>by first|trivial|exact h_|exact h_.1))
    clear BK101
    clear HB
    have HO114:=n0_
    have BK101:=n1_
    have HB:=n2_
    clear n0_ n1_ n2_
    (try clear hb)
    (try clear hb2)
    (try clear hk)
    (try clear hi)
    (try clear ho0)
    refine hK.out _ _ ⟨v104,v107,v110,v113,v116,v119,v122,v125,v128,m17_,(by rw[ha.out];exact putSel_upk 7 hb_ rfl rfl rfl),(by solve_by_elim only[BK101.out,qw,qx,qv]),(by solve_by_elim (maxDepth:=20) only[HB.out,G,J,qq,qk,GE101.out]),z_HO105,z_HO108,z_HO111,fun _=>(by(with_reducible repeat(first|apply Kd.vv|apply Kd.vk|apply Kd.vw));first|exact HO114.out|exact Kd.V_mono HO114.out (fun _ hk=>by first|trivial|(simp_all;done)|grind)),fun h0_ _=>absurd ((hoff 11 (by kernel_rfl)).symm.trans h0_) (by decide),fun h0_ _=>absurd ((hoff 13 (by kernel_rfl)).symm.trans h0_) (by decide),fun h0_=>absurd ((hoff 14 (by kernel_rfl)).symm.trans h0_) (by decide),fun h0_=>absurd ((hoff 15 (by kernel_rfl)).symm.trans h0_) (by decide),fun h0_=>absurd ((hoff 16 (by kernel_rfl)).symm.trans h0_) (by decide),fun h0_=>absurd ((hoff 17 (by kernel_rfl)).symm.trans h0_) (by decide)⟩
   refine steps_cons ?_ ?_
   ·rintro b a w' ⟨v104,v107,v110,v113,v116,v119,v122,v125,v128,m17_,ha,Q_BK101,Q_HB,Q_HO105,Q_HO108,Q_HO111,Q_HO114,Q_HO117,Q_HO120,Q_HO123,Q_HO126,Q_HO129,Q_X17_⟩ hb_ hon hoff
    refine⟨_,rfl,fun K hK=>?_⟩
    have e16:a.tmps[16]? = some (v113):=by rw[ha];exact putSel_on (e:=(10,16,v113)) 7 rfl rfl (hon 10 (by kernel_rfl)) rfl
    replace ha:=U.mk ha
    have BK101:=U.mk Q_BK101
    have HB:=U.mk Q_HB
    have HO108:=U.mk (Q_HO108 (hon 3 (by kernel_rfl)) (hoff 14 (by kernel_rfl)))
    have HO111:=U.mk (Q_HO111 (hon 7 (by kernel_rfl)) (hoff 14 (by kernel_rfl)))
    have HO114:=U.mk (Q_HO114 (hon 10 (by kernel_rfl)))
    obtain⟨Ao19,co19,eo19⟩:=Kd.V_slice HO114.out
    (first|subst eo19|(injection eo19 with f1_ f2_ f3_;have f4_:=f1_.symm;have f5_:=f3_.symm;clear f1_ f2_ f3_;subst f4_;subst f5_))
    refine goes_ Try.func77 (by kernel_rfl) rfl #[.slice Ao19 t112.length co19] (by rfl) rfl rfl (by first|(simp only[jq0,jq1,jq2,Act.eval,Array.getD_eq_getD_getElem?,Option.getD_some,e16];done)|(simp only[jq0,jq1,jq2,Act.eval,Array.getD_eq_getD_getElem?,Option.getD_some,e16];rfl)) ?_
    with_reducible refine(xk.calls _ _ t112 t115 _ ?side1 ?side2 A7.out).mono ?_
    (case side1=>solve_by_elim only[(Kd.V_reads' HO114.out).2.2,Kd.C_alloc,Kd.C_drewN,Kd.C_drew])
    (case side2=>exact(Kd.V_reads' HO114.out).2.1)
    rintro e w20 ⟨v116,rfl,ho0,hb⟩
    refine⟨_,rfl,?_⟩
    have n0_:=U.mk (Kd.R_elder' (by(with_reducible repeat(first|apply Kd.zv|apply Kd.zk|apply Kd.zw));first|exact HO108.out|exact Kd.R_mono HO108.out (fun _ hk=>by first|trivial|(simp_all;done)|grind)) (Kd.R_base ho0) hb)
    have n1_:=U.mk (Kd.R_elder' (by(with_reducible repeat(first|apply Kd.zv|apply Kd.zk|apply Kd.zw));first|exact HO111.out|exact Kd.R_mono HO111.out (fun _ hk=>by first|trivial|(simp_all;done)|grind)) (Kd.R_base ho0) hb)
    have n2_:=U.mk (Kd.V_elder' (by(with_reducible repeat(first|apply Kd.vv|apply Kd.vk|apply Kd.vw));first|exact HO114.out|exact Kd.V_mono HO114.out (fun _ hk=>by first|trivial|(simp_all;done)|grind)) (Kd.R_base ho0) hb)
    have n3_:=U.mk (Kd.R_lower (Kd.R_new' (Kd.R_new' ho0 (Kd.R_lt (by(with_reducible repeat(first|apply Kd.zv|apply Kd.zk|apply Kd.zw));first|exact HO108.out|exact Kd.R_mono HO108.out (fun _ hk=>by first|trivial|(simp_all;done)|grind)))) (Kd.R_lt (by(with_reducible repeat(first|apply Kd.zv|apply Kd.zk|apply Kd.zw));first|exact HO111.out|exact Kd.R_mono HO111.out (fun _ hk=>by first|trivial|(simp_all;done)|grind)))) (zj (by solve_by_elim (maxDepth:=20) only[HB.out,G,J,qq,qk,GE101.out])))
    have n4_:=U.mk (vx (g:=gb101) (o:=.cells #[.int .i64 a0_0,.string a0_1,.string a0_2,.slice A0_3 l0_3.length c0_3,.slice A0_4 l0_4.length c0_4] 27 (0,0)) (by solve_by_elim only[BK101.out,qw,qx,qv]) hb)
    have n5_:=U.mk (zz (by solve_by_elim (maxDepth:=20) only[HB.out,G,J,qq,qk,GE101.out]) hb)
    have z_HO105:=fun (h0_:b 0=true) (h1_:b 14=false)=>(show Kd.R (Kd.int .u8) 5 w20 w.heap.size (fun _=>True) v104 y103 from by first|exact(Kd.R_elder' (by(with_reducible repeat(first|apply Kd.zv|apply Kd.zk|apply Kd.zw));exact(Q_HO105 h0_ h1_)) (Kd.R_base ho0) hb)|exact Kd.R_mono (Kd.R_elder' (by(with_reducible repeat(first|apply Kd.zv|apply Kd.zk|apply Kd.zw));exact(Q_HO105 h0_ h1_)) (Kd.R_base ho0) hb) (fun _ h_=>by first|trivial|exact h_|exact h_.1))
    clear HO108
    clear HO111
    clear HO114
    clear BK101
    clear HB
    have HO108:=n0_
    have HO111:=n1_
    have HO114:=n2_
    have HO117:=n3_
    have BK101:=n4_
    have HB:=n5_
    clear n0_ n1_ n2_ n3_ n4_ n5_
    (try clear hb)
    (try clear hb2)
    (try clear hk)
    (try clear hi)
    (try clear ho0)
    refine hK.out _ _ ⟨v104,v107,v110,.slice Ao19 t112.length co19,v116,v119,v122,v125,v128,m17_,(by rw[ha.out];exact putSel_upk 8 hb_ rfl rfl rfl),(by solve_by_elim only[BK101.out,qw,qx,qv]),(by solve_by_elim (maxDepth:=20) only[HB.out,G,J,qq,qk,GE101.out]),z_HO105,fun _ _=>(by(with_reducible repeat(first|apply Kd.zv|apply Kd.zk|apply Kd.zw));first|exact HO108.out|exact Kd.R_mono HO108.out (fun _ hk=>by first|trivial|(simp_all;done)|grind)),fun _ _=>(by(with_reducible repeat(first|apply Kd.zv|apply Kd.zk|apply Kd.zw));first|exact HO111.out|exact Kd.R_mono HO111.out (fun _ hk=>by first|trivial|(simp_all;done)|grind)),fun _=>(by(with_reducible repeat(first|apply Kd.vv|apply Kd.vk|apply Kd.vw));exact Kd.V_mono HO114.out (fun _ hk=>by first|exact⟨hk.1.1,⟨hk.1.2.1,⟨hk.2,hk.1.2.2⟩⟩⟩|trivial|(simp_all;done)|grind)),fun _ _=>(by(with_reducible repeat(first|apply Kd.zv|apply Kd.zk|apply Kd.zw));exact Kd.R_mono HO117.out (fun _ hk=>by first|exact⟨hk.1.2,hk.2⟩|trivial|(simp_all;done)|grind)),fun h0_ _=>absurd ((hoff 13 (by kernel_rfl)).symm.trans h0_) (by decide),fun h0_=>absurd ((hoff 14 (by kernel_rfl)).symm.trans h0_) (by decide),fun h0_=>absurd ((hoff 15 (by kernel_rfl)).symm.trans h0_) (by decide),fun h0_=>absurd ((hoff 16 (by kernel_rfl)).symm.trans h0_) (by decide),fun h0_=>absurd ((hoff 17 (by kernel_rfl)).symm.trans h0_) (by decide)⟩
   refine steps_cons ?_ ?_
   ·rintro b a w' ⟨v104,v107,v110,v113,v116,v119,v122,v125,v128,m17_,ha,Q_BK101,Q_HB,Q_HO105,Q_HO108,Q_HO111,Q_HO114,Q_HO117,Q_HO120,Q_HO123,Q_HO126,Q_HO129,Q_X17_⟩ hb_ hon hoff
    refine⟨_,rfl,fun K hK=>?_⟩
    have e1:a.tmps[1]? = some (.pointer (some ⟨gb101,0,none⟩)):=by rw[ha];exact(putSel_off rfl).trans rfl
    replace ha:=U.mk ha
    have BK101:=U.mk Q_BK101
    have HB:=U.mk Q_HB
    have hc0_:w'.cell? ⟨gb101,0,none⟩ = some (.int .i64 a0_0):=(qj BK101.out 0).trans rfl
    have hc1_:w'.cell? ⟨gb101,1,none⟩ = some (.string a0_1):=(qj BK101.out 1).trans rfl
    have hc2_:w'.cell? ⟨gb101,2,none⟩ = some (.string a0_2):=(qj BK101.out 2).trans rfl
    have hc3_:w'.cell? ⟨gb101,3,none⟩ = some (.slice A0_3 l0_3.length c0_3):=(qj BK101.out 3).trans rfl
    have hc4_:w'.cell? ⟨gb101,4,none⟩ = some (.slice A0_4 l0_4.length c0_4):=(qj BK101.out 4).trans rfl
    refine value_ (w1:=w') (v:=.agg #[.int .i64 a0_0,.string a0_1,.string a0_2,.slice A0_3 l0_3.length c0_3,.slice A0_4 l0_4.length c0_4]) (by rfl) rfl ?_ ?_
    ·go_simp
     (try simp only[i64_w])
     try rfl
    refine hK.out _ _ ⟨v104,v107,v110,v113,v116,v119,v122,v125,v128,m17_,(by rw[ha.out];exact putSel_upk 9 hb_ rfl rfl rfl),Q_BK101,Q_HB,Q_HO105,Q_HO108,Q_HO111,Q_HO114,Q_HO117,fun h0_ _=>absurd ((hoff 13 (by kernel_rfl)).symm.trans h0_) (by decide),fun h0_=>absurd ((hoff 14 (by kernel_rfl)).symm.trans h0_) (by decide),fun h0_=>absurd ((hoff 15 (by kernel_rfl)).symm.trans h0_) (by decide),fun h0_=>absurd ((hoff 16 (by kernel_rfl)).symm.trans h0_) (by decide),fun h0_=>absurd ((hoff 17 (by kernel_rfl)).symm.trans h0_) (by decide)⟩
   refine steps_cons ?_ ?_
   ·rintro b a w' ⟨v104,v107,v110,v113,v116,v119,v122,v125,v128,m17_,ha,Q_BK101,Q_HB,Q_HO105,Q_HO108,Q_HO111,Q_HO114,Q_HO117,Q_HO120,Q_HO123,Q_HO126,Q_HO129,Q_X17_⟩ hb_ hon hoff
    refine⟨_,rfl,fun K hK=>?_⟩
    have e18:a.tmps[18]? = some (.agg #[.int .i64 a0_0,.string a0_1,.string a0_2,.slice A0_3 l0_3.length c0_3,.slice A0_4 l0_4.length c0_4]):=by rw[ha];exact putSel_on (e:=(12,18,.agg #[.int .i64 a0_0,.string a0_1,.string a0_2,.slice A0_3 l0_3.length c0_3,.slice A0_4 l0_4.length c0_4])) 9 rfl rfl (hon 12 (by kernel_rfl)) rfl
    replace ha:=U.mk ha
    have BK101:=U.mk Q_BK101
    have HB:=U.mk Q_HB
    have HO108:=U.mk (Q_HO108 (hon 3 (by kernel_rfl)) (hoff 14 (by kernel_rfl)))
    have HO111:=U.mk (Q_HO111 (hon 7 (by kernel_rfl)) (hoff 14 (by kernel_rfl)))
    have HO114:=U.mk (Q_HO114 (hon 10 (by kernel_rfl)))
    have HO117:=U.mk (Q_HO117 (hon 11 (by kernel_rfl)) (hoff 14 (by kernel_rfl)))
    refine goes_ Try.func23 (by kernel_rfl) rfl #[.agg #[.int .i64 a0_0,.string a0_1,.string a0_2,.slice A0_3 l0_3.length c0_3,.slice A0_4 l0_4.length c0_4]] (by rfl) rfl rfl (by first|(simp only[jq0,jq1,jq2,Act.eval,Array.getD_eq_getD_getElem?,Option.getD_some,e18];done)|(simp only[jq0,jq1,jq2,Act.eval,Array.getD_eq_getD_getElem?,Option.getD_some,e18];rfl)) ?_
    with_reducible refine(xj.calls k a0_0 a0_1 a0_2 _ _ l0_3 _ _ l0_4 t118 _ ?side1 ?side2 ?side3 ?side4 A8.out).mono ?_
    (case side1=>solve_by_elim only[(Kd.C_below HR0_3.out HB.out),Kd.C_alloc,Kd.C_drewN,Kd.C_drew])
    (case side2=>exact HC0_3.out)
    (case side3=>solve_by_elim only[(Kd.C_below HR0_4.out HB.out),Kd.C_alloc,Kd.C_drewN,Kd.C_drew])
    (case side4=>exact HC0_4.out)
    rintro e w21 ⟨v119,rfl,ho0,hb⟩
    refine⟨_,rfl,?_⟩
    have n0_:=U.mk (Kd.R_elder' (by(with_reducible repeat(first|apply Kd.zv|apply Kd.zk|apply Kd.zw));first|exact HO108.out|exact Kd.R_mono HO108.out (fun _ hk=>by first|trivial|(simp_all;done)|grind)) (Kd.R_base ho0) hb)
    have n1_:=U.mk (Kd.R_elder' (by(with_reducible repeat(first|apply Kd.zv|apply Kd.zk|apply Kd.zw));first|exact HO111.out|exact Kd.R_mono HO111.out (fun _ hk=>by first|trivial|(simp_all;done)|grind)) (Kd.R_base ho0) hb)
    have n2_:=U.mk (Kd.V_elder' (by(with_reducible repeat(first|apply Kd.vv|apply Kd.vk|apply Kd.vw));first|exact HO114.out|exact Kd.V_mono HO114.out (fun _ hk=>by first|trivial|(simp_all;done)|grind)) (Kd.R_base ho0) hb)
    have n3_:=U.mk (Kd.R_elder' (by(with_reducible repeat(first|apply Kd.zv|apply Kd.zk|apply Kd.zw));first|exact HO117.out|exact Kd.R_mono HO117.out (fun _ hk=>by first|trivial|(simp_all;done)|grind)) (Kd.R_base ho0) hb)
    have n4_:=U.mk (Kd.R_lower (Kd.R_new' (Kd.R_new' (Kd.R_new' ho0 (Kd.R_lt (by(with_reducible repeat(first|apply Kd.zv|apply Kd.zk|apply Kd.zw));first|exact HO108.out|exact Kd.R_mono HO108.out (fun _ hk=>by first|trivial|(simp_all;done)|grind)))) (Kd.R_lt (by(with_reducible repeat(first|apply Kd.zv|apply Kd.zk|apply Kd.zw));first|exact HO111.out|exact Kd.R_mono HO111.out (fun _ hk=>by first|trivial|(simp_all;done)|grind)))) (Kd.R_lt (by(with_reducible repeat(first|apply Kd.zv|apply Kd.zk|apply Kd.zw));first|exact HO117.out|exact Kd.R_mono HO117.out (fun _ hk=>by first|trivial|(simp_all;done)|grind)))) (zj (by solve_by_elim (maxDepth:=20) only[HB.out,G,J,qq,qk,GE101.out])))
    have n5_:=U.mk (vx (g:=gb101) (o:=.cells #[.int .i64 a0_0,.string a0_1,.string a0_2,.slice A0_3 l0_3.length c0_3,.slice A0_4 l0_4.length c0_4] 27 (0,0)) (by solve_by_elim only[BK101.out,qw,qx,qv]) hb)
    have n6_:=U.mk (zz (by solve_by_elim (maxDepth:=20) only[HB.out,G,J,qq,qk,GE101.out]) hb)
    have z_HO105:=fun (h0_:b 0=true) (h1_:b 14=false)=>(show Kd.R (Kd.int .u8) 5 w21 w.heap.size (fun _=>True) v104 y103 from by first|exact(Kd.R_elder' (by(with_reducible repeat(first|apply Kd.zv|apply Kd.zk|apply Kd.zw));exact(Q_HO105 h0_ h1_)) (Kd.R_base ho0) hb)|exact Kd.R_mono (Kd.R_elder' (by(with_reducible repeat(first|apply Kd.zv|apply Kd.zk|apply Kd.zw));exact(Q_HO105 h0_ h1_)) (Kd.R_base ho0) hb) (fun _ h_=>by first|trivial|exact h_|exact h_.1))
    clear HO108
    clear HO111
    clear HO114
    clear HO117
    clear BK101
    clear HB
    have HO108:=n0_
    have HO111:=n1_
    have HO114:=n2_
    have HO117:=n3_
    have HO120:=n4_
    have BK101:=n5_
    have HB:=n6_
    clear n0_ n1_ n2_ n3_ n4_ n5_ n6_
    (try clear hb)
    (try clear hb2)
    (try clear hk)
    (try clear hi)
    (try clear ho0)
    refine hK.out _ _ ⟨v104,v107,v110,v113,v116,v119,v122,v125,v128,m17_,(by rw[ha.out];exact putSel_upk 10 hb_ rfl rfl rfl),(by solve_by_elim only[BK101.out,qw,qx,qv]),(by solve_by_elim (maxDepth:=20) only[HB.out,G,J,qq,qk,GE101.out]),z_HO105,fun _ _=>(by(with_reducible repeat(first|apply Kd.zv|apply Kd.zk|apply Kd.zw));exact Kd.R_mono HO108.out (fun _ hk=>by first|exact⟨hk.1.1,⟨hk.1.2,hk.2⟩⟩|trivial|(simp_all;done)|grind)),fun _ _=>(by(with_reducible repeat(first|apply Kd.zv|apply Kd.zk|apply Kd.zw));exact Kd.R_mono HO111.out (fun _ hk=>by first|exact⟨hk.1.1,⟨hk.1.2,hk.2⟩⟩|trivial|(simp_all;done)|grind)),fun _=>(by(with_reducible repeat(first|apply Kd.vv|apply Kd.vk|apply Kd.vw));exact Kd.V_mono HO114.out (fun _ hk=>by first|exact⟨hk.1.1,⟨hk.1.2.1,⟨hk.1.2.2.1,⟨hk.2,hk.1.2.2.2⟩⟩⟩⟩|trivial|(simp_all;done)|grind)),fun _ _=>(by(with_reducible repeat(first|apply Kd.zv|apply Kd.zk|apply Kd.zw));exact Kd.R_mono HO117.out (fun _ hk=>by first|exact⟨hk.1.1,⟨hk.1.2,hk.2⟩⟩|trivial|(simp_all;done)|grind)),fun _ _=>(by(with_reducible repeat(first|apply Kd.zv|apply Kd.zk|apply Kd.zw));exact Kd.R_mono HO120.out (fun _ hk=>by first|exact⟨hk.1.1.2,⟨hk.1.2,hk.2⟩⟩|trivial|(simp_all;done)|grind)),fun h0_=>absurd ((hoff 14 (by kernel_rfl)).symm.trans h0_) (by decide),fun h0_=>absurd ((hoff 15 (by kernel_rfl)).symm.trans h0_) (by decide),fun h0_=>absurd ((hoff 16 (by kernel_rfl)).symm.trans h0_) (by decide),fun h0_=>absurd ((hoff 17 (by kernel_rfl)).symm.trans h0_) (by decide)⟩
   refine steps_cons ?_ ?_
   ·rintro b a w' ⟨v104,v107,v110,v113,v116,v119,v122,v125,v128,m17_,ha,Q_BK101,Q_HB,Q_HO105,Q_HO108,Q_HO111,Q_HO114,Q_HO117,Q_HO120,Q_HO123,Q_HO126,Q_HO129,Q_X17_⟩ hb_ hon hoff
    refine⟨_,rfl,fun K hK=>?_⟩
    have e6:a.tmps[6]? = some (v104):=by rw[ha];exact putSel_on (e:=(0,6,v104)) 0 rfl rfl (hon 0 (by kernel_rfl)) rfl
    have e9:a.tmps[9]? = some (v107):=by rw[ha];exact putSel_on (e:=(3,9,v107)) 2 rfl rfl (hon 3 (by kernel_rfl)) rfl
    have e13:a.tmps[13]? = some (v110):=by rw[ha];exact putSel_on (e:=(7,13,v110)) 5 rfl rfl (hon 7 (by kernel_rfl)) rfl
    have e17:a.tmps[17]? = some (v116):=by rw[ha];exact putSel_on (e:=(11,17,v116)) 8 rfl rfl (hon 11 (by kernel_rfl)) rfl
    have e19:a.tmps[19]? = some (v119):=by rw[ha];exact putSel_on (e:=(13,19,v119)) 10 rfl rfl (hon 13 (by kernel_rfl)) rfl
    replace ha:=U.mk ha
    have BK101:=U.mk Q_BK101
    have HB:=U.mk Q_HB
    have HO105:=U.mk (Q_HO105 (hon 0 (by kernel_rfl)) hb_)
    have HO108:=U.mk (Q_HO108 (hon 3 (by kernel_rfl)) hb_)
    have HO111:=U.mk (Q_HO111 (hon 7 (by kernel_rfl)) hb_)
    have HO114:=U.mk (Q_HO114 (hon 10 (by kernel_rfl)))
    have HO117:=U.mk (Q_HO117 (hon 11 (by kernel_rfl)) hb_)
    have HO120:=U.mk (Q_HO120 (hon 13 (by kernel_rfl)) hb_)
    obtain⟨Ao24,co24,eo24⟩:=Kd.R_slice HO105.out
    (first|subst eo24|(injection eo24 with f1_ f2_ f3_;have f4_:=f1_.symm;have f5_:=f3_.symm;clear f1_ f2_ f3_;subst f4_;subst f5_))
    obtain⟨Ao25,co25,eo25⟩:=Kd.R_slice HO108.out
    (first|subst eo25|(injection eo25 with f1_ f2_ f3_;have f4_:=f1_.symm;have f5_:=f3_.symm;clear f1_ f2_ f3_;subst f4_;subst f5_))
    obtain⟨Ao26,co26,eo26⟩:=Kd.R_slice HO111.out
    (first|subst eo26|(injection eo26 with f1_ f2_ f3_;have f4_:=f1_.symm;have f5_:=f3_.symm;clear f1_ f2_ f3_;subst f4_;subst f5_))
    obtain⟨Ao27,co27,eo27⟩:=Kd.R_slice HO117.out
    (first|subst eo27|(injection eo27 with f1_ f2_ f3_;have f4_:=f1_.symm;have f5_:=f3_.symm;clear f1_ f2_ f3_;subst f4_;subst f5_))
    obtain⟨Ao28,co28,eo28⟩:=Kd.R_slice HO120.out
    (first|subst eo28|(injection eo28 with f1_ f2_ f3_;have f4_:=f1_.symm;have f5_:=f3_.symm;clear f1_ f2_ f3_;subst f4_;subst f5_))
    refine Kd.N_lit_step (Kd.slice 5 (Kd.int .u8)) _ 22 ?hg (N':=20) ?hd (xs:=([y103,t106,t109,t115,t118]:List (List Int))) (inner:=[.slice Ao24 y103.length co24,.slice Ao25 t106.length co25,.slice Ao26 t109.length co26,.slice Ao27 t115.length co27,.slice Ao28 t118.length co28]) (ok:=(fun k_=>k_≠gb101)) (okp:=(fun k_=>k_≠gb101)) ?hr ?hp (fun _ hk=>by first|exact hk|trivial|(simp_all;done)|grind) ((show ∀ k_,w'.heap.size≤k_→(fun k_=>k_≠gb101) k_ from fun k_ hk=>Kd.freshB (g:=gb101) (o:=.cells #[.int .i64 a0_0,.string a0_1,.string a0_2,.slice A0_3 l0_3.length c0_3,.slice A0_4 l0_4.length c0_4] 27 (0,0)) (by solve_by_elim only[BK101.out,qw,qx,qv]) k_ hk) _ (Nat.le_refl _)) (Below.refl _ _) (Nat.le_refl _) (by simp) ?_;(case hd=>rfl);(case hg=>rfl);(case hr=>first|(go_simp;done)|(go_simp;rfl));(case hp=>exact(Reps.one (show Kd.FK (Kd.slice 5 (Kd.int .u8)) _ _ y103 [.slice Ao24 y103.length co24] from(Kd.FK_slice_mk (Kd.R_reads' (Kd.R_mono (ok':=(fun k_=>k_≠gb101)) (Kd.R_types (HO105.out) BK101.out (by decide)) (fun k_ hk=>hk.2))).2.1 (Kd.R_F (Kd.R_mono (ok':=(fun k_=>k_≠gb101)) (Kd.R_types (HO105.out) BK101.out (by decide)) (fun k_ hk=>hk.2))))) (Reps.one (show Kd.FK (Kd.slice 5 (Kd.int .u8)) _ _ t106 [.slice Ao25 t106.length co25] from(Kd.FK_slice_mk (Kd.R_reads' (Kd.R_mono (ok':=(fun k_=>k_≠gb101)) (Kd.R_types (HO108.out) BK101.out (by decide)) (fun k_ hk=>hk.2))).2.1 (Kd.R_F (Kd.R_mono (ok':=(fun k_=>k_≠gb101)) (Kd.R_types (HO108.out) BK101.out (by decide)) (fun k_ hk=>hk.2))))) (Reps.one (show Kd.FK (Kd.slice 5 (Kd.int .u8)) _ _ t109 [.slice Ao26 t109.length co26] from(Kd.FK_slice_mk (Kd.R_reads' (Kd.R_mono (ok':=(fun k_=>k_≠gb101)) (Kd.R_types (HO111.out) BK101.out (by decide)) (fun k_ hk=>hk.2))).2.1 (Kd.R_F (Kd.R_mono (ok':=(fun k_=>k_≠gb101)) (Kd.R_types (HO111.out) BK101.out (by decide)) (fun k_ hk=>hk.2))))) (Reps.one (show Kd.FK (Kd.slice 5 (Kd.int .u8)) _ _ t115 [.slice Ao27 t115.length co27] from(Kd.FK_slice_mk (Kd.R_reads' (Kd.R_mono (ok':=(fun k_=>k_≠gb101)) (Kd.R_types (HO117.out) BK101.out (by decide)) (fun k_ hk=>hk.2))).2.1 (Kd.R_F (Kd.R_mono (ok':=(fun k_=>k_≠gb101)) (Kd.R_types (HO117.out) BK101.out (by decide)) (fun k_ hk=>hk.2))))) (Reps.one (show Kd.FK (Kd.slice 5 (Kd.int .u8)) _ _ t118 [.slice Ao28 t118.length co28] from(Kd.FK_slice_mk (Kd.R_reads' (Kd.R_mono (ok':=(fun k_=>k_≠gb101)) (Kd.R_types (HO120.out) BK101.out (by decide)) (fun k_ hk=>hk.2))).2.1 (Kd.R_F (Kd.R_mono (ok':=(fun k_=>k_≠gb101)) (Kd.R_types (HO120.out) BK101.out (by decide)) (fun k_ hk=>hk.2))))) (Reps.none _ _)))))))
    intro v122 w29 ho30 hb hg_ hnew_
    clear hg_ hnew_
    (first|rw[← Ny121.out] at ho30|(simp only[Int.reduceToNat] at ho30;rw[← Ny121.out] at ho30))
    replace HO114:=U.mk (Kd.V_elder' (by(with_reducible repeat(first|apply Kd.vv|apply Kd.vk|apply Kd.vw));first|exact HO114.out|exact Kd.V_mono HO114.out (fun _ hk=>by first|trivial|(simp_all;done)|grind)) (Kd.N_base ho30) hb)
    have HO123:=U.mk (Kd.N_lower ho30 (zj (by solve_by_elim (maxDepth:=20) only[HB.out,G,J,qq,qk,GE101.out])))
    replace BK101:=U.mk (vx (g:=gb101) (o:=.cells #[.int .i64 a0_0,.string a0_1,.string a0_2,.slice A0_3 l0_3.length c0_3,.slice A0_4 l0_4.length c0_4] 27 (0,0)) (by solve_by_elim only[BK101.out,qw,qx,qv]) hb)
    replace HB:=U.mk (zz (by solve_by_elim (maxDepth:=20) only[HB.out,G,J,qq,qk,GE101.out]) hb)
    clear HO105
    clear HO108
    clear HO111
    clear HO117
    clear HO120
    clear hb ho30
    refine hK.out _ _ ⟨.slice Ao24 y103.length co24,.slice Ao25 t106.length co25,.slice Ao26 t109.length co26,v113,.slice Ao27 t115.length co27,.slice Ao28 t118.length co28,v122,v125,v128,m17_,(by rw[ha.out];exact putSel_upk 11 hb_ rfl rfl rfl),(by solve_by_elim only[BK101.out,qw,qx,qv]),(by solve_by_elim (maxDepth:=20) only[HB.out,G,J,qq,qk,GE101.out]),fun _ h1_=>absurd ((up_self b 14).symm.trans h1_) (by decide),fun _ h1_=>absurd ((up_self b 14).symm.trans h1_) (by decide),fun _ h1_=>absurd ((up_self b 14).symm.trans h1_) (by decide),fun _=>(by(with_reducible repeat(first|apply Kd.vv|apply Kd.vk|apply Kd.vw));exact Kd.V_mono HO114.out (fun _ hk=>by first|exact⟨hk.2,hk.1.2.2.2.2.2⟩|trivial|(simp_all;done)|grind)),fun _ h1_=>absurd ((up_self b 14).symm.trans h1_) (by decide),fun _ h1_=>absurd ((up_self b 14).symm.trans h1_) (by decide),fun _=>(by(with_reducible repeat(first|apply Kd.kv|apply Kd.kk|apply Kd.kw));first|exact HO123.out|exact Kd.N_mono HO123.out (fun _ hk=>by first|trivial|(simp_all;done)|grind)),fun h0_=>absurd ((hoff 15 (by kernel_rfl)).symm.trans h0_) (by decide),fun h0_=>absurd ((hoff 16 (by kernel_rfl)).symm.trans h0_) (by decide),fun h0_=>absurd ((hoff 17 (by kernel_rfl)).symm.trans h0_) (by decide)⟩
   refine steps_cons ?_ ?_
   ·rintro b a w' ⟨v104,v107,v110,v113,v116,v119,v122,v125,v128,m17_,ha,Q_BK101,Q_HB,Q_HO105,Q_HO108,Q_HO111,Q_HO114,Q_HO117,Q_HO120,Q_HO123,Q_HO126,Q_HO129,Q_X17_⟩ hb_ hon hoff
    refine⟨_,rfl,fun K hK=>?_⟩
    have e20:a.tmps[20]? = some (v122):=by rw[ha];exact putSel_on (e:=(14,20,v122)) 11 rfl rfl (hon 14 (by kernel_rfl)) rfl
    replace ha:=U.mk ha
    have BK101:=U.mk Q_BK101
    have HB:=U.mk Q_HB
    have HO114:=U.mk (Q_HO114 (hon 10 (by kernel_rfl)))
    have HO123:=U.mk (Q_HO123 (hon 14 (by kernel_rfl)))
    obtain⟨Ao31,co31,eo31⟩:=Kd.N_slice HO123.out
    (first|subst eo31|(injection eo31 with f1_ f2_ f3_;have f4_:=f1_.symm;have f5_:=f3_.symm;clear f1_ f2_ f3_;subst f4_;subst f5_))
    refine goes_ Try.func78 (by kernel_rfl) rfl #[.slice Ao31 y121.length co31] (by rfl) rfl rfl (by first|(simp only[jq0,jq1,jq2,Act.eval,Array.getD_eq_getD_getElem?,Option.getD_some,e20];done)|(simp only[jq0,jq1,jq2,Act.eval,Array.getD_eq_getD_getElem?,Option.getD_some,e20];rfl)) ?_
    with_reducible refine(qjv.calls _ _ y121 t124 _ ?side1 ?side2 A9.out).mono ?_
    (case side1=>solve_by_elim only[(Kd.N_reads' HO123.out).2.2,Kd.C_alloc,Kd.C_drewN,Kd.C_drew])
    (case side2=>exact(Kd.N_reads' HO123.out).2.1)
    rintro e w32 ⟨v125,rfl,ho0,hb⟩
    refine⟨_,rfl,?_⟩
    replace HO114:=U.mk (Kd.V_elder' (by(with_reducible repeat(first|apply Kd.vv|apply Kd.vk|apply Kd.vw));first|exact HO114.out|exact Kd.V_mono HO114.out (fun _ hk=>by first|trivial|(simp_all;done)|grind)) (Kd.R_base ho0) hb)
    replace HO123:=U.mk (Kd.N_elder' (by(with_reducible repeat(first|apply Kd.kv|apply Kd.kk|apply Kd.kw));first|exact HO123.out|exact Kd.N_mono HO123.out (fun _ hk=>by first|trivial|(simp_all;done)|grind)) (Kd.R_base ho0) hb)
    have HO126:=U.mk (Kd.R_lower ho0 (zj (by solve_by_elim (maxDepth:=20) only[HB.out,G,J,qq,qk,GE101.out])))
    replace BK101:=U.mk (vx (g:=gb101) (o:=.cells #[.int .i64 a0_0,.string a0_1,.string a0_2,.slice A0_3 l0_3.length c0_3,.slice A0_4 l0_4.length c0_4] 27 (0,0)) (by solve_by_elim only[BK101.out,qw,qx,qv]) hb)
    replace HB:=U.mk (zz (by solve_by_elim (maxDepth:=20) only[HB.out,G,J,qq,qk,GE101.out]) hb)
    (try clear hb)
    (try clear hb2)
    (try clear hk)
    (try clear hi)
    (try clear ho0)
    refine hK.out _ _ ⟨v104,v107,v110,v113,v116,v119,.slice Ao31 y121.length co31,v125,v128,m17_,(by rw[ha.out];exact putSel_upk 12 hb_ rfl rfl rfl),(by solve_by_elim only[BK101.out,qw,qx,qv]),(by solve_by_elim (maxDepth:=20) only[HB.out,G,J,qq,qk,GE101.out]),fun _ h1_=>absurd ((hon 14 (by kernel_rfl)).symm.trans h1_) (by decide),fun _ h1_=>absurd ((hon 14 (by kernel_rfl)).symm.trans h1_) (by decide),fun _ h1_=>absurd ((hon 14 (by kernel_rfl)).symm.trans h1_) (by decide),fun _=>(by(with_reducible repeat(first|apply Kd.vv|apply Kd.vk|apply Kd.vw));exact Kd.V_mono HO114.out (fun _ hk=>by first|exact⟨hk.1.1,⟨hk.2,hk.1.2⟩⟩|trivial|(simp_all;done)|grind)),fun _ h1_=>absurd ((hon 14 (by kernel_rfl)).symm.trans h1_) (by decide),fun _ h1_=>absurd ((hon 14 (by kernel_rfl)).symm.trans h1_) (by decide),fun _=>(by(with_reducible repeat(first|apply Kd.kv|apply Kd.kk|apply Kd.kw));exact Kd.N_mono HO123.out (fun _ hk=>by first|exact⟨hk.2,hk.1⟩|trivial|(simp_all;done)|grind)),fun _=>(by(with_reducible repeat(first|apply Kd.zv|apply Kd.zk|apply Kd.zw));first|exact HO126.out|exact Kd.R_mono HO126.out (fun _ hk=>by first|trivial|(simp_all;done)|grind)),fun h0_=>absurd ((hoff 16 (by kernel_rfl)).symm.trans h0_) (by decide),fun h0_=>absurd ((hoff 17 (by kernel_rfl)).symm.trans h0_) (by decide)⟩
   refine steps_cons ?_ ?_
   ·rintro b a w' ⟨v104,v107,v110,v113,v116,v119,v122,v125,v128,m17_,ha,Q_BK101,Q_HB,Q_HO105,Q_HO108,Q_HO111,Q_HO114,Q_HO117,Q_HO120,Q_HO123,Q_HO126,Q_HO129,Q_X17_⟩ hb_ hon hoff
    refine⟨_,rfl,fun K hK=>?_⟩
    have e21:a.tmps[21]? = some (v125):=by rw[ha];exact putSel_on (e:=(15,21,v125)) 12 rfl rfl (hon 15 (by kernel_rfl)) rfl
    replace ha:=U.mk ha
    have BK101:=U.mk Q_BK101
    have HB:=U.mk Q_HB
    have HO114:=U.mk (Q_HO114 (hon 10 (by kernel_rfl)))
    have HO123:=U.mk (Q_HO123 (hon 14 (by kernel_rfl)))
    have HO126:=U.mk (Q_HO126 (hon 15 (by kernel_rfl)))
    obtain⟨Ao33,co33,eo33⟩:=Kd.R_slice HO126.out
    (first|subst eo33|(injection eo33 with f1_ f2_ f3_;have f4_:=f1_.symm;have f5_:=f3_.symm;clear f1_ f2_ f3_;subst f4_;subst f5_))
    refine goes_ Try.func77 (by kernel_rfl) rfl #[.slice Ao33 t124.length co33] (by rfl) rfl rfl (by first|(simp only[jq0,jq1,jq2,Act.eval,Array.getD_eq_getD_getElem?,Option.getD_some,e21];done)|(simp only[jq0,jq1,jq2,Act.eval,Array.getD_eq_getD_getElem?,Option.getD_some,e21];rfl)) ?_
    with_reducible refine(xk.calls _ _ t124 t127 _ ?side1 ?side2 A10.out).mono ?_
    (case side1=>solve_by_elim only[(Kd.R_reads' HO126.out).2.2,Kd.C_alloc,Kd.C_drewN,Kd.C_drew])
    (case side2=>exact(Kd.R_reads' HO126.out).2.1)
    rintro e w34 ⟨v128,rfl,ho0,hb⟩
    refine⟨_,rfl,?_⟩
    replace HO114:=U.mk (Kd.V_elder' (by(with_reducible repeat(first|apply Kd.vv|apply Kd.vk|apply Kd.vw));first|exact HO114.out|exact Kd.V_mono HO114.out (fun _ hk=>by first|trivial|(simp_all;done)|grind)) (Kd.R_base ho0) hb)
    replace HO123:=U.mk (Kd.N_elder' (by(with_reducible repeat(first|apply Kd.kv|apply Kd.kk|apply Kd.kw));first|exact HO123.out|exact Kd.N_mono HO123.out (fun _ hk=>by first|trivial|(simp_all;done)|grind)) (Kd.R_base ho0) hb)
    have HO129:=U.mk (Kd.R_lower (Kd.R_new' ho0 (Kd.R_lt (by(with_reducible repeat(first|apply Kd.zv|apply Kd.zk|apply Kd.zw));first|exact HO126.out|exact Kd.R_mono HO126.out (fun _ hk=>by first|trivial|(simp_all;done)|grind)))) (zj (by solve_by_elim (maxDepth:=20) only[HB.out,G,J,qq,qk,GE101.out])))
    replace HO126:=U.mk (Kd.R_elder' (by(with_reducible repeat(first|apply Kd.zv|apply Kd.zk|apply Kd.zw));first|exact HO126.out|exact Kd.R_mono HO126.out (fun _ hk=>by first|trivial|(simp_all;done)|grind)) (Kd.R_base ho0) hb)
    replace BK101:=U.mk (vx (g:=gb101) (o:=.cells #[.int .i64 a0_0,.string a0_1,.string a0_2,.slice A0_3 l0_3.length c0_3,.slice A0_4 l0_4.length c0_4] 27 (0,0)) (by solve_by_elim only[BK101.out,qw,qx,qv]) hb)
    replace HB:=U.mk (zz (by solve_by_elim (maxDepth:=20) only[HB.out,G,J,qq,qk,GE101.out]) hb)
    (try clear hb)
    (try clear hb2)
    (try clear hk)
    (try clear hi)
    (try clear ho0)
    refine hK.out _ _ ⟨v104,v107,v110,v113,v116,v119,v122,.slice Ao33 t124.length co33,v128,m17_,(by rw[ha.out];exact putSel_upk 13 hb_ rfl rfl rfl),(by solve_by_elim only[BK101.out,qw,qx,qv]),(by solve_by_elim (maxDepth:=20) only[HB.out,G,J,qq,qk,GE101.out]),fun _ h1_=>absurd ((hon 14 (by kernel_rfl)).symm.trans h1_) (by decide),fun _ h1_=>absurd ((hon 14 (by kernel_rfl)).symm.trans h1_) (by decide),fun _ h1_=>absurd ((hon 14 (by kernel_rfl)).symm.trans h1_) (by decide),fun _=>(by(with_reducible repeat(first|apply Kd.vv|apply Kd.vk|apply Kd.vw));exact Kd.V_mono HO114.out (fun _ hk=>by first|exact⟨hk.1.1,⟨hk.1.2.1,⟨hk.2,hk.1.2.2⟩⟩⟩|trivial|(simp_all;done)|grind)),fun _ h1_=>absurd ((hon 14 (by kernel_rfl)).symm.trans h1_) (by decide),fun _ h1_=>absurd ((hon 14 (by kernel_rfl)).symm.trans h1_) (by decide),fun _=>(by(with_reducible repeat(first|apply Kd.kv|apply Kd.kk|apply Kd.kw));exact Kd.N_mono HO123.out (fun _ hk=>by first|exact⟨hk.1.1,⟨hk.2,hk.1.2⟩⟩|trivial|(simp_all;done)|grind)),fun _=>(by(with_reducible repeat(first|apply Kd.zv|apply Kd.zk|apply Kd.zw));exact Kd.R_mono HO126.out (fun _ hk=>by first|exact hk.2|trivial|(simp_all;done)|grind)),fun _=>(by(with_reducible repeat(first|apply Kd.zv|apply Kd.zk|apply Kd.zw));exact Kd.R_mono HO129.out (fun _ hk=>by first|exact hk.2|trivial|(simp_all;done)|grind)),fun h0_=>absurd ((hoff 17 (by kernel_rfl)).symm.trans h0_) (by decide)⟩
   refine steps_cons ?_ ?_
   ·rintro b a w' ⟨v104,v107,v110,v113,v116,v119,v122,v125,v128,m17_,ha,Q_BK101,Q_HB,Q_HO105,Q_HO108,Q_HO111,Q_HO114,Q_HO117,Q_HO120,Q_HO123,Q_HO126,Q_HO129,Q_X17_⟩ hb_ hon hoff
    refine⟨_,rfl,fun K hK=>?_⟩
    have e22:a.tmps[22]? = some (v128):=by rw[ha];exact putSel_on (e:=(16,22,v128)) 13 rfl rfl (hon 16 (by kernel_rfl)) rfl
    replace ha:=U.mk ha
    have BK101:=U.mk Q_BK101
    have HB:=U.mk Q_HB
    have HO114:=U.mk (Q_HO114 (hon 10 (by kernel_rfl)))
    have HO123:=U.mk (Q_HO123 (hon 14 (by kernel_rfl)))
    have HO126:=U.mk (Q_HO126 (hon 15 (by kernel_rfl)))
    have HO129:=U.mk (Q_HO129 (hon 16 (by kernel_rfl)))
    refine value_ (w1:=w') (v:=v128) (by rfl) rfl ?_ ?_
    ·go_simp
     (try simp only[i64_w])
     try rfl
    refine hK.out _ _ ⟨v104,v107,v110,v113,v116,v119,v122,v125,v128,(v128),(by rw[ha.out];exact putSel_upk 14 hb_ rfl rfl rfl),Q_BK101,Q_HB,fun _ h1_=>absurd ((hon 14 (by kernel_rfl)).symm.trans h1_) (by decide),fun _ h1_=>absurd ((hon 14 (by kernel_rfl)).symm.trans h1_) (by decide),fun _ h1_=>absurd ((hon 14 (by kernel_rfl)).symm.trans h1_) (by decide),Q_HO114,fun _ h1_=>absurd ((hon 14 (by kernel_rfl)).symm.trans h1_) (by decide),fun _ h1_=>absurd ((hon 14 (by kernel_rfl)).symm.trans h1_) (by decide),Q_HO123,Q_HO126,Q_HO129,fun _=>rfl⟩
   exact steps_nil
  rintro b a w34 hall ⟨v104,v107,v110,v113,v116,v119,v122,v125,v128,m17_,ha,Q_BK101,Q_HB,Q_HO105,Q_HO108,Q_HO111,Q_HO114,Q_HO117,Q_HO120,Q_HO123,Q_HO126,Q_HO129,Q_X17_⟩
  clear BK101 HB
  have hb0_:=hall 0 (by kernel_rfl)
  have hb2_:=hall 2 (by kernel_rfl)
  have hb3_:=hall 3 (by kernel_rfl)
  have hb5_:=hall 5 (by kernel_rfl)
  have hb6_:=hall 6 (by kernel_rfl)
  have hb7_:=hall 7 (by kernel_rfl)
  have hb9_:=hall 9 (by kernel_rfl)
  have hb10_:=hall 10 (by kernel_rfl)
  have hb11_:=hall 11 (by kernel_rfl)
  have hb12_:=hall 12 (by kernel_rfl)
  have hb13_:=hall 13 (by kernel_rfl)
  have hb14_:=hall 14 (by kernel_rfl)
  have hb15_:=hall 15 (by kernel_rfl)
  have hb16_:=hall 16 (by kernel_rfl)
  have hb17_:=hall 17 (by kernel_rfl)
  subst ha
  obtain rfl:=Q_X17_ hb17_
  simp only[putSel,hb0_,hb2_,hb3_,hb5_,hb6_,hb7_,hb9_,hb10_,hb11_,hb12_,hb13_,hb14_,hb15_,hb16_,hb17_,if_true,Act.put,jq5,jq6,jq7]
  have BK101:=U.mk Q_BK101
  clear Q_BK101
  have HB:=U.mk Q_HB
  clear Q_HB
  clear Q_HO105
  clear Q_HO108
  clear Q_HO111
  have HO114:=U.mk (Q_HO114 hb10_)
  clear Q_HO114
  clear Q_HO117
  clear Q_HO120
  have HO123:=U.mk (Q_HO123 hb14_)
  clear Q_HO123
  have HO126:=U.mk (Q_HO126 hb15_)
  clear Q_HO126
  have HO129:=U.mk (Q_HO129 hb16_)
  clear Q_HO129
  clear hall hb0_ hb2_ hb3_ hb5_ hb6_ hb7_ hb9_ hb10_ hb11_ hb12_ hb13_ hb14_ hb15_ hb16_ hb17_
  try go_wp2
  go_ret
  exact⟨_,by first|rfl|(simp[*,jv,jk] <;> rfl),by first|exact fun _=>rfl|exact rfl|exact trivial|exact nil_absurd (digest_pos (U.out (by assumption)))|exact nil_absurd' (digest_pos (U.out (by assumption))),by(with_reducible repeat(first|apply Kd.zv|apply Kd.zk|apply Kd.zw));exact Kd.R_mono HO129.out (fun _ hk=>by first|exact trivial|trivial|(simp_all;done)|grind),by repeat(first|(with_reducible first|exact HB.out|apply G|apply J|apply qq|refine qk ?_ GE101.out)|exact HB.out)⟩
 ·replace c3:=jq9.mpr c3
  subst c3
  have H1:(some ([]:List Int))=some r:=by rw[if_neg (show ¬ (false=true) by decide)] at H;exact H
  clear H
  have H:=H1
  clear H1
  obtain rfl:=Option.some.inj H
  go_enter Try.func29,Try.ntmps29
  go_wp2_with (first|((with_reducible refine gate_dst (N:=1) rfl ?_);refine box_event ?hg (N:=1) ?hd (cs:=#[.int .i64 a0_0,.string a0_1,.string a0_2,.slice A0_3 l0_3.length c0_3,.slice A0_4 l0_4.length c0_4]) (t:=27) ?hr ?_;(case hd=>rfl);(case hg=>rfl);(case hr=>first|(go_simp;done)|(go_simp;rfl));intro gb101 hg w35 hbox hb;have BK101:=U.mk (hbox);have GW101:=U.mk ((by rw[hg];exact(zj (by solve_by_elim only[HB.out,G,J,qq])):w.heap.size≤gb101));have GE101:=U.mk ((by rw[hg];exact(zj (by solve_by_elim only[HB.out,G,J,qq])):w.heap.size≤gb101));replace HB:=U.mk (zz (by solve_by_elim only[HB.out,G,J,qq]) hb);clear hb hbox hg;have hcz36_0:w35.cell? ⟨gb101,0,none⟩ = some (.int .i64 a0_0):=(qj BK101.out 0).trans rfl;have hcz36_1:w35.cell? ⟨gb101,1,none⟩ = some (.string a0_1):=(qj BK101.out 1).trans rfl;have hcz36_2:w35.cell? ⟨gb101,2,none⟩ = some (.string a0_2):=(qj BK101.out 2).trans rfl;have hcz36_3:w35.cell? ⟨gb101,3,none⟩ = some (.slice A0_3 l0_3.length c0_3):=(qj BK101.out 3).trans rfl;have hcz36_4:w35.cell? ⟨gb101,4,none⟩ = some (.slice A0_4 l0_4.length c0_4):=(qj BK101.out 4).trans rfl;have hfz36_0:=qz BK101.out 0;have hfz36_1:=qz BK101.out 1;have hfz36_2:=qz BK101.out 2;have hfz36_3:=qz BK101.out 3;have hfz36_4:=qz BK101.out 4)|((with_reducible refine jw (f:=20) rfl ?_);refine goesL_ (some 4) rfl rfl Try.func20 (by kernel_rfl) rfl #[.agg #[.int .i64 a0_0,.string a0_1,.string a0_2,.slice A0_3 l0_3.length c0_3,.slice A0_4 l0_4.length c0_4]] rfl (by(try simp only[jq0,jq1,jq2]);first|done|rfl|(simp only[jq3,jq4];rfl)) ?_;(with_reducible refine(xv.calls k a0_0 a0_1 a0_2 _ _ l0_3 _ _ l0_4 false _ ?side1 ?side2 ?side3 ?side4 A2.out).mono ?_);(case side1=>solve_by_elim only[(Kd.C_below HR0_3.out HB.out),Kd.C_alloc,Kd.C_drewN,Kd.C_drew]);(case side2=>exact HC0_3.out);(case side3=>solve_by_elim only[(Kd.C_below HR0_4.out HB.out),Kd.C_alloc,Kd.C_drewN,Kd.C_drew]);(case side4=>exact HC0_4.out);rintro e w37 ⟨rfl,hb⟩;refine⟨_,rfl,?_⟩;replace BK101:=U.mk (vx (g:=gb101) (o:=.cells #[.int .i64 a0_0,.string a0_1,.string a0_2,.slice A0_3 l0_3.length c0_3,.slice A0_4 l0_4.length c0_4] 27 (0,0)) (by solve_by_elim only[BK101.out,qw,qx,qv]) hb);replace HB:=U.mk (zz (by solve_by_elim (maxDepth:=20) only[HB.out,G,J,qq,qk,GE101.out]) hb);(try clear hb)))
  go_ret
  exact⟨_,by first|rfl|(simp[*,jv,jk] <;> rfl),by first|exact fun _=>rfl|exact rfl|exact trivial|exact nil_absurd (digest_pos (U.out (by assumption)))|exact nil_absurd' (digest_pos (U.out (by assumption))),by first|exact Kd.R_nil _ _ _ _ _|exact Kd.N_nil _ _ _ _ _|exact Kd.V_nil _ _ _ _ _|exact Kd.Q_nil _ _ _ _ _|exact Kd.S_nil _ _ _ _ _,by repeat(first|(with_reducible first|exact HB.out|apply G|apply J|apply qq|refine qk ?_ GE101.out)|exact HB.out)⟩
end Go.Proofs.Ytipdkendfcopiaa.Pr
namespace Go.Proofs.Ytipdkendfcopiaa.Pr
open Go.RowKit Go.Proofs.YtipdkendfcopiaaW.PrintWords Go.Proofs.YtipdkendfcopiaaW.PrintLast Go.Proofs.YtipdkendfcopiaaW.PrintMore
attribute [local go_sem] max2_int min2_int max_two min_two max_three min_three max_four min_four
set_option linter.unusedVariables false
set_option linter.unusedSimpArgs false
def qzj.l0:Nat→List (List Int)→List (S27)→Int→Int→Option ((List (List Int)) × Bool)
 | 0,_,_,_,_=>none
 | k + 1,x4,x11,x12,x13=>if x13 < x12 then(if 0≤x13 then(if x13 < (x11.length:Int) then((xw.f k ((wk x11 x13).f0) ((wk x11 x13).f1) ((wk x11 x13).f2) ((wk x11 x13).f3) ((wk x11 x13).f4)).bind fun t103=>((nilS.f t103).bind fun t106=>(if t106=true then(some (([]:List (List Int)),false)) else(if x4.length < 5864062014805 then(qzj.l0 k (x4 ++ [t103]) x11 x12 (wrap64 (x13 + 1))) else(none))))) else(none)) else(none)) else(some (x4,true))
def qzj.f (k:Nat) (l0:List (S27)):Option ((List (List Int)) × Bool):=if (l0.length:Int) > 200 then(some (([]:List (List Int)),false)) else(qzj.l0 k ([]:List (List Int)) l0 (l0.length:Int) 0)
theorem qzj.calls (k:Nat) (A0:Option Addr) (c0:Nat) (l0:List (S27)) (r1:List (List Int)) (r2:Bool) (w:World) (hr0:Kd.C k27 w A0 l0.length l0) (hc0:l0.length≤c0) (h:qzj.f k l0=some (r1,r2)) :
  Calls Try.prog 82 #[.slice A0 l0.length c0] w fun e w'=>∃ v0_:Value,e=.returned (.tuple #[v0_,.bool r2])∧Kd.S (Kd.slice 5 (Kd.int .u8)) 22 w' w.heap.size (fun _=>True) v0_ r1∧Below w.heap.size w w':=by
 have hu27:=Try.underlying27
 have HR0:=U.mk hr0
 have HC0:=U.mk hc0
 clear hr0 hc0
 have HB:=U.mk (Below.refl w.heap.size w)
 unfold qzj.f at h
 have H:=h
 clear h
 by_cases c2:(l0.length:Int) > 200
 ·rw[if_pos c2] at H
  have c2b0:decide (200 < (l0.length:Int))=true:=decide_eq_true c2
  have c2b1:decide (200 < l0.length)=true:=decide_eq_true (by omega)
  clear c2
  simp only[Option.some.injEq,Prod.mk.injEq] at H
  obtain⟨rfl,rfl⟩:=H
  have heqnil_:=eqlnil
  go_enter Try.func82,Try.ntmps82
  go_wp2
  go_ret2
  exact⟨_,by first|rfl|(simp[*,jv,jk] <;> rfl),by first|exact Kd.S_nil _ _ _ _ _|exact Kd.N_nil _ _ _ _ _|exact Kd.V_nil _ _ _ _ _|exact Kd.Q_nil _ _ _ _ _|exact Kd.R_nil _ _ _ _ _,by repeat(first|(with_reducible first|exact HB.out|apply G|apply J|apply qq)|exact HB.out)⟩
 ·rw[if_neg c2] at H
  have c2b0:decide (200 < (l0.length:Int))=false:=decide_eq_false c2
  have c2b1:decide (200 < l0.length)=false:=decide_eq_false (by omega)
  clear c2
  have H':=U.mk H
  clear H
  have heqnil_:=eqlnil
  go_enter Try.func82,Try.ntmps82
  go_wp2
  go_loopg [4,13] k (fun kq v4 v13 w'=>∃ (x4_1:List (List Int)) (x13_1:Int),v13=.int .i64 x13_1∧U (qzj.l0 kq x4_1 l0 (l0.length:Int) x13_1=some (r1,r2))∧U (kq≤k)∧U (Kd.S (Kd.slice 5 (Kd.int .u8)) 22 w' w.heap.size (fun _=>True) v4 x4_1)∧U (Below w.heap.size w w'))
  case atStart=>exact⟨(([]:List (List Int))),(0),(by first|rfl|(simp;done)|(simp[*];done)),H',⟨Nat.le_refl _⟩,⟨by first|exact Kd.S_nil _ _ _ _ _|exact Kd.N_nil _ _ _ _ _|exact Kd.V_nil _ _ _ _ _|exact Kd.Q_nil _ _ _ _ _|exact Kd.R_nil _ _ _ _ _⟩,⟨by repeat(first|(with_reducible first|exact HB.out|apply G|apply J|apply qq)|exact HB.out)⟩⟩
  case round =>
   clear H'
   try clear c2
   try clear c2b0
   try clear c2b1
   try clear p2
   obtain⟨x4_1,x13_1,rfl,HA,HK1,HO_4,HB⟩:=hrel
   cases gk with
   | zero=>exact absurd HA.out (by simp[qzj.l0])
   | succ k1 =>
    have H:=HA.out
    clear HA
    simp only[qzj.l0] at H
    by_cases c3:x13_1 < (l0.length:Int)
    ·rw[if_pos c3] at H
     have c3b0:decide (x13_1 < (l0.length:Int))=true:=decide_eq_true c3
     clear c3
     by_cases c4 : 0≤x13_1
     ·rw[if_pos c4] at H
      have c4b0:decide (0≤x13_1)=true:=decide_eq_true c4
      clear c4
      by_cases c5:x13_1 < (l0.length:Int)
      ·rw[if_pos c5] at H
       have c5b0:decide (x13_1 < (l0.length:Int))=true:=decide_eq_true c5
       clear c5
       replace H:=jq8.mp H
       obtain⟨t103,A60,H⟩:=H
       try dsimp only at H
       have A6:=U.mk A60
       clear A60
       replace H:=jq8.mp H
       obtain⟨t106,A70,H⟩:=H
       try dsimp only at H
       have A7:=U.mk A70
       clear A70
       by_cases c8:t106=true
       ·subst c8
        have H1:(some (([]:List (List Int)),false))=some (r1,r2):=by rw[if_pos rfl] at H;exact H
        clear H
        have H:=H1
        clear H1
        simp only[Option.some.injEq,Prod.mk.injEq] at H
        obtain⟨rfl,rfl⟩:=H
        have p101 : 0≤(x13_1:Int):=of_decide_eq_true (by assumption)
        have q101:x13_1 < (l0.length:Int):=of_decide_eq_true (by assumption)
        obtain⟨ad101,A101_3,c101_3,A101_4,c101_4,e101,hx101_0,hx101_1,hx101_2,hx101_3,hx101_4,hl101_3,hi101_3,hl101_4,hi101_4⟩:=at_T27 HR0.out x13_1 p101 q101
        cases e101
        replace hx101_0:=(HB.out.cell (World.block_lt_of_cell? w _ hx101_0)).trans hx101_0
        replace hx101_1:=(HB.out.cell (World.block_lt_of_cell? w _ hx101_1)).trans hx101_1
        replace hx101_2:=(HB.out.cell (World.block_lt_of_cell? w _ hx101_2)).trans hx101_2
        replace hx101_3:=(HB.out.cell (World.block_lt_of_cell? w _ hx101_3)).trans hx101_3
        replace hx101_4:=(HB.out.cell (World.block_lt_of_cell? w _ hx101_4)).trans hx101_4
        have HR101_3:=U.mk hi101_3
        have HC101_3:=U.mk hl101_3
        clear hi101_3 hl101_3
        have HR101_4:=U.mk hi101_4
        have HC101_4:=U.mk hl101_4
        clear hi101_4 hl101_4
        replace p101:=eq_true p101
        replace q101:=eq_true q101
        go_wp2_with (first|((with_reducible refine gate_dst (N:=6) rfl ?_);refine box_event ?hg (N:=6) ?hd (cs:=#[.int .i64 0,.string (⟨#[]⟩ : ByteArray),.string (⟨#[]⟩ : ByteArray),.slice none 0 0,.slice none 0 0]) (t:=27) ?hr ?_;(case hd=>rfl);(case hg=>rfl);(case hr=>first|(go_simp;done)|(go_simp;rfl));intro gb102 hg w9 hbox hb;replace HO_4:=U.mk (Kd.S_below (by(with_reducible repeat(first|apply Kd.vq|apply Kd.kx|apply Kd.vz));exact HO_4.out) hb);have BK102:=U.mk (hbox);have GW102:=U.mk ((by rw[hg];exact(zj (by repeat(first|(with_reducible first|exact HB.out|apply G|apply J|apply qq)|exact HB.out))):w.heap.size≤gb102));have GE102:=U.mk ((by rw[hg];exact(zj (by repeat(first|(with_reducible first|exact HB.out|apply G|apply J|apply qq)|exact HB.out))):w.heap.size≤gb102));replace HB:=U.mk (zz (by repeat(first|(with_reducible first|exact HB.out|apply G|apply J|apply qq)|exact HB.out)) hb);clear hb hbox hg;have hcz10_0:w9.cell? ⟨gb102,0,none⟩ = some (.int .i64 0):=(qj BK102.out 0).trans rfl;have hcz10_1:w9.cell? ⟨gb102,1,none⟩ = some (.string (⟨#[]⟩ : ByteArray)):=(qj BK102.out 1).trans rfl;have hcz10_2:w9.cell? ⟨gb102,2,none⟩ = some (.string (⟨#[]⟩ : ByteArray)):=(qj BK102.out 2).trans rfl;have hcz10_3:w9.cell? ⟨gb102,3,none⟩ = some (.slice none 0 0):=(qj BK102.out 3).trans rfl;have hcz10_4:w9.cell? ⟨gb102,4,none⟩ = some (.slice none 0 0):=(qj BK102.out 4).trans rfl;have hfz10_0:=qz BK102.out 0;have hfz10_1:=qz BK102.out 1;have hfz10_2:=qz BK102.out 2;have hfz10_3:=qz BK102.out 3;have hfz10_4:=qz BK102.out 4)|((with_reducible refine jw (f:=29) rfl ?_);refine goesL_ (some 18) rfl rfl Try.func29 (by kernel_rfl) rfl #[.agg #[.int .i64 ((wk l0 x13_1).f0),.string ((wk l0 x13_1).f1),.string ((wk l0 x13_1).f2),.slice A101_3 ((wk l0 x13_1).f3).length c101_3,.slice A101_4 ((wk l0 x13_1).f4).length c101_4]] rfl (by(try simp only[jq0,jq1,jq2]);first|done|rfl|(simp only[jq3,jq4];rfl)) ?_;(with_reducible refine(xw.callsN k1 ((wk l0 x13_1).f0) ((wk l0 x13_1).f1) ((wk l0 x13_1).f2) _ _ ((wk l0 x13_1).f3) _ _ ((wk l0 x13_1).f4) t103 _ ?side1 ?side2 ?side3 ?side4 A6.out).mono ?_);(case side1=>exact Kd.C_below HR101_3.out (by repeat(first|(with_reducible first|exact HB.out|apply G|apply J|apply qq|refine qk ?_ GE102.out)|exact HB.out)));(case side2=>exact HC101_3.out);(case side3=>exact Kd.C_below HR101_4.out (by repeat(first|(with_reducible first|exact HB.out|apply G|apply J|apply qq|refine qk ?_ GE102.out)|exact HB.out)));(case side4=>exact HC101_4.out);rintro e w11 ⟨v104,rfl,hn0,ho0,hb⟩;refine⟨_,rfl,?_⟩;replace HO_4:=U.mk (Kd.S_elder' (by(with_reducible repeat(first|apply Kd.vq|apply Kd.kx|apply Kd.vz));exact(Kd.S_mono (Kd.S_far (p:=⟨gb102,4,none⟩) (Kd.S_far (p:=⟨gb102,3,none⟩) (Kd.S_far (p:=⟨gb102,2,none⟩) (Kd.S_far (p:=⟨gb102,1,none⟩) (Kd.S_far (p:=⟨gb102,0,none⟩) (Kd.S_types HO_4.out BK102.out (by decide)) (fun _ hk=>hk.2) (.int .i64 ((wk l0 x13_1).f0))) (fun _ hk=>hk.2) (.string ((wk l0 x13_1).f1))) (fun _ hk=>hk.2) (.string ((wk l0 x13_1).f2))) (fun _ hk=>hk.2) (.slice A101_3 ((wk l0 x13_1).f3).length c101_3)) (fun _ hk=>hk.2) (.slice A101_4 ((wk l0 x13_1).f4).length c101_4)) (fun _ h_=>h_.1))) (Kd.R_base ho0) hb);have HO105:=U.mk (Kd.R_lower ho0 (zj (by repeat(first|(with_reducible first|exact HB.out|apply G|apply J|apply qq|refine qk ?_ GE102.out)|exact HB.out))));replace BK102:=U.mk (vx (g:=gb102) (o:=.cells #[.int .i64 ((wk l0 x13_1).f0),.string ((wk l0 x13_1).f1),.string ((wk l0 x13_1).f2),.slice A101_3 ((wk l0 x13_1).f3).length c101_3,.slice A101_4 ((wk l0 x13_1).f4).length c101_4] 27 (0,0)) (by(with_reducible repeat(first|refine qw ?_ _|refine qx ?_|refine qv ?_ _));refine blk_put (cs:=#[.int .i64 ((wk l0 x13_1).f0),.string ((wk l0 x13_1).f1),.string ((wk l0 x13_1).f2),.slice A101_3 ((wk l0 x13_1).f3).length c101_3,.slice none 0 0]) ?_ 4 _ rfl;(with_reducible repeat(first|refine qw ?_ _|refine qx ?_|refine qv ?_ _));refine blk_put (cs:=#[.int .i64 ((wk l0 x13_1).f0),.string ((wk l0 x13_1).f1),.string ((wk l0 x13_1).f2),.slice none 0 0,.slice none 0 0]) ?_ 3 _ rfl;(with_reducible repeat(first|refine qw ?_ _|refine qx ?_|refine qv ?_ _));refine blk_put (cs:=#[.int .i64 ((wk l0 x13_1).f0),.string ((wk l0 x13_1).f1),.string (⟨#[]⟩ : ByteArray),.slice none 0 0,.slice none 0 0]) ?_ 2 _ rfl;(with_reducible repeat(first|refine qw ?_ _|refine qx ?_|refine qv ?_ _));refine blk_put (cs:=#[.int .i64 ((wk l0 x13_1).f0),.string (⟨#[]⟩ : ByteArray),.string (⟨#[]⟩ : ByteArray),.slice none 0 0,.slice none 0 0]) ?_ 1 _ rfl;(with_reducible repeat(first|refine qw ?_ _|refine qx ?_|refine qv ?_ _));refine blk_put (cs:=#[.int .i64 0,.string (⟨#[]⟩ : ByteArray),.string (⟨#[]⟩ : ByteArray),.slice none 0 0,.slice none 0 0]) ?_ 0 _ rfl;(with_reducible repeat(first|refine qw ?_ _|refine qx ?_|refine qv ?_ _));exact BK102.out) hb);replace HB:=U.mk (zz (by repeat(first|(with_reducible first|exact HB.out|apply G|apply J|apply qq|refine qk ?_ GE102.out)|exact HB.out)) hb);(try clear hb ho0);obtain⟨Ao12,co12,eo12⟩:=Kd.R_slice HO105.out;subst eo12;have hAAo12:=nil_is hn0 A7.out;clear hn0)|((with_reducible refine jw (f:=158) rfl ?_);refine goesL_ (some 20) rfl rfl Try.func158 (by kernel_rfl) rfl #[.slice Ao12 t103.length co12] rfl (by(try simp only[jq0,jq1,jq2]);first|done|rfl|(simp only[jq3,jq4];rfl)) ?_;(with_reducible refine(nilS.calls _ _ t103 true _ ?side1 ?side2 A7.out).mono ?_);(case side1=>repeat(first|exact(Kd.R_reads' HO105.out).2.2|(with_reducible refine Kd.C_alloc ?_ _)|(with_reducible refine Kd.C_drewN ?_ _)|(with_reducible refine Kd.C_drew ?_)));(case side2=>exact(Kd.R_reads' HO105.out).2.1);rintro e w' ⟨rfl,⟨nd,rfl⟩⟩;refine⟨_,rfl,?_⟩))
        go_ret2
        exact⟨_,by first|rfl|(simp[*,jv,jk] <;> rfl),by first|exact Kd.S_nil _ _ _ _ _|exact Kd.N_nil _ _ _ _ _|exact Kd.V_nil _ _ _ _ _|exact Kd.Q_nil _ _ _ _ _|exact Kd.R_nil _ _ _ _ _,by repeat(first|(with_reducible first|exact HB.out|apply G|apply J|apply qq|refine qk ?_ GE102.out)|exact HB.out)⟩
       ·replace c8:=jq9.mpr c8
        subst c8
        have H1:(if x4_1.length < 5864062014805 then(qzj.l0 k1 (x4_1 ++ [t103]) l0 (l0.length:Int) (wrap64 (x13_1 + 1))) else(none))=some (r1,r2):=by rw[if_neg (show ¬ (false=true) by decide)] at H;exact H
        clear H
        have H:=H1
        clear H1
        by_cases c13:x4_1.length < 5864062014805
        ·rw[if_pos c13] at H
         have LMc13:=U.mk c13
         clear c13
         obtain⟨y107,hy107⟩ : ∃ y_:List (List Int),y_=(x4_1 ++ [t103]):=⟨_,rfl⟩
         replace H:(qzj.l0 k1 y107 l0 (l0.length:Int) (wrap64 (x13_1 + 1)))=some (r1,r2):=by first|(rw[hy107];with_reducible exact H)|(have H2_:=(Option.bind_some _ _).symm.trans H;rw[hy107];with_reducible exact H2_)|(have H2_:=(Option.bind_some _ _).symm.trans H;with_reducible exact H2_)|with_reducible exact H|(rw[hy107];exact H)|exact H
         have Ny107:=U.mk hy107
         clear hy107
         have H':=U.mk H
         clear H
         have p101 : 0≤(x13_1:Int):=of_decide_eq_true (by assumption)
         have q101:x13_1 < (l0.length:Int):=of_decide_eq_true (by assumption)
         obtain⟨ad101,A101_3,c101_3,A101_4,c101_4,e101,hx101_0,hx101_1,hx101_2,hx101_3,hx101_4,hl101_3,hi101_3,hl101_4,hi101_4⟩:=at_T27 HR0.out x13_1 p101 q101
         cases e101
         replace hx101_0:=(HB.out.cell (World.block_lt_of_cell? w _ hx101_0)).trans hx101_0
         replace hx101_1:=(HB.out.cell (World.block_lt_of_cell? w _ hx101_1)).trans hx101_1
         replace hx101_2:=(HB.out.cell (World.block_lt_of_cell? w _ hx101_2)).trans hx101_2
         replace hx101_3:=(HB.out.cell (World.block_lt_of_cell? w _ hx101_3)).trans hx101_3
         replace hx101_4:=(HB.out.cell (World.block_lt_of_cell? w _ hx101_4)).trans hx101_4
         have HR101_3:=U.mk hi101_3
         have HC101_3:=U.mk hl101_3
         clear hi101_3 hl101_3
         have HR101_4:=U.mk hi101_4
         have HC101_4:=U.mk hl101_4
         clear hi101_4 hl101_4
         replace p101:=eq_true p101
         replace q101:=eq_true q101
         go_wp2_with (first|((with_reducible refine gate_dst (N:=6) rfl ?_);refine box_event ?hg (N:=6) ?hd (cs:=#[.int .i64 0,.string (⟨#[]⟩ : ByteArray),.string (⟨#[]⟩ : ByteArray),.slice none 0 0,.slice none 0 0]) (t:=27) ?hr ?_;(case hd=>rfl);(case hg=>rfl);(case hr=>first|(go_simp;done)|(go_simp;rfl));intro gb102 hg w14 hbox hb;replace HO_4:=U.mk (Kd.S_below (by(with_reducible repeat(first|apply Kd.vq|apply Kd.kx|apply Kd.vz));exact HO_4.out) hb);have BK102:=U.mk (hbox);have GW102:=U.mk ((by rw[hg];exact(zj (by repeat(first|(with_reducible first|exact HB.out|apply G|apply J|apply qq)|exact HB.out))):w.heap.size≤gb102));have GE102:=U.mk ((by rw[hg];exact(zj (by repeat(first|(with_reducible first|exact HB.out|apply G|apply J|apply qq)|exact HB.out))):w.heap.size≤gb102));replace HB:=U.mk (zz (by repeat(first|(with_reducible first|exact HB.out|apply G|apply J|apply qq)|exact HB.out)) hb);clear hb hbox hg;have hcz15_0:w14.cell? ⟨gb102,0,none⟩ = some (.int .i64 0):=(qj BK102.out 0).trans rfl;have hcz15_1:w14.cell? ⟨gb102,1,none⟩ = some (.string (⟨#[]⟩ : ByteArray)):=(qj BK102.out 1).trans rfl;have hcz15_2:w14.cell? ⟨gb102,2,none⟩ = some (.string (⟨#[]⟩ : ByteArray)):=(qj BK102.out 2).trans rfl;have hcz15_3:w14.cell? ⟨gb102,3,none⟩ = some (.slice none 0 0):=(qj BK102.out 3).trans rfl;have hcz15_4:w14.cell? ⟨gb102,4,none⟩ = some (.slice none 0 0):=(qj BK102.out 4).trans rfl;have hfz15_0:=qz BK102.out 0;have hfz15_1:=qz BK102.out 1;have hfz15_2:=qz BK102.out 2;have hfz15_3:=qz BK102.out 3;have hfz15_4:=qz BK102.out 4)|((with_reducible refine jw (f:=29) rfl ?_);refine goesL_ (some 18) rfl rfl Try.func29 (by kernel_rfl) rfl #[.agg #[.int .i64 ((wk l0 x13_1).f0),.string ((wk l0 x13_1).f1),.string ((wk l0 x13_1).f2),.slice A101_3 ((wk l0 x13_1).f3).length c101_3,.slice A101_4 ((wk l0 x13_1).f4).length c101_4]] rfl (by(try simp only[jq0,jq1,jq2]);first|done|rfl|(simp only[jq3,jq4];rfl)) ?_;(with_reducible refine(xw.callsN k1 ((wk l0 x13_1).f0) ((wk l0 x13_1).f1) ((wk l0 x13_1).f2) _ _ ((wk l0 x13_1).f3) _ _ ((wk l0 x13_1).f4) t103 _ ?side1 ?side2 ?side3 ?side4 A6.out).mono ?_);(case side1=>exact Kd.C_below HR101_3.out (by repeat(first|(with_reducible first|exact HB.out|apply G|apply J|apply qq|refine qk ?_ GE102.out)|exact HB.out)));(case side2=>exact HC101_3.out);(case side3=>exact Kd.C_below HR101_4.out (by repeat(first|(with_reducible first|exact HB.out|apply G|apply J|apply qq|refine qk ?_ GE102.out)|exact HB.out)));(case side4=>exact HC101_4.out);rintro e w16 ⟨v104,rfl,hn0,ho0,hb⟩;refine⟨_,rfl,?_⟩;replace HO_4:=U.mk (Kd.S_elder' (by(with_reducible repeat(first|apply Kd.vq|apply Kd.kx|apply Kd.vz));exact(Kd.S_mono (Kd.S_far (p:=⟨gb102,4,none⟩) (Kd.S_far (p:=⟨gb102,3,none⟩) (Kd.S_far (p:=⟨gb102,2,none⟩) (Kd.S_far (p:=⟨gb102,1,none⟩) (Kd.S_far (p:=⟨gb102,0,none⟩) (Kd.S_types HO_4.out BK102.out (by decide)) (fun _ hk=>hk.2) (.int .i64 ((wk l0 x13_1).f0))) (fun _ hk=>hk.2) (.string ((wk l0 x13_1).f1))) (fun _ hk=>hk.2) (.string ((wk l0 x13_1).f2))) (fun _ hk=>hk.2) (.slice A101_3 ((wk l0 x13_1).f3).length c101_3)) (fun _ hk=>hk.2) (.slice A101_4 ((wk l0 x13_1).f4).length c101_4)) (fun _ h_=>h_.1))) (Kd.R_base ho0) hb);have HO105:=U.mk (Kd.R_lower ho0 (zj (by repeat(first|(with_reducible first|exact HB.out|apply G|apply J|apply qq|refine qk ?_ GE102.out)|exact HB.out))));replace BK102:=U.mk (vx (g:=gb102) (o:=.cells #[.int .i64 ((wk l0 x13_1).f0),.string ((wk l0 x13_1).f1),.string ((wk l0 x13_1).f2),.slice A101_3 ((wk l0 x13_1).f3).length c101_3,.slice A101_4 ((wk l0 x13_1).f4).length c101_4] 27 (0,0)) (by(with_reducible repeat(first|refine qw ?_ _|refine qx ?_|refine qv ?_ _));refine blk_put (cs:=#[.int .i64 ((wk l0 x13_1).f0),.string ((wk l0 x13_1).f1),.string ((wk l0 x13_1).f2),.slice A101_3 ((wk l0 x13_1).f3).length c101_3,.slice none 0 0]) ?_ 4 _ rfl;(with_reducible repeat(first|refine qw ?_ _|refine qx ?_|refine qv ?_ _));refine blk_put (cs:=#[.int .i64 ((wk l0 x13_1).f0),.string ((wk l0 x13_1).f1),.string ((wk l0 x13_1).f2),.slice none 0 0,.slice none 0 0]) ?_ 3 _ rfl;(with_reducible repeat(first|refine qw ?_ _|refine qx ?_|refine qv ?_ _));refine blk_put (cs:=#[.int .i64 ((wk l0 x13_1).f0),.string ((wk l0 x13_1).f1),.string (⟨#[]⟩ : ByteArray),.slice none 0 0,.slice none 0 0]) ?_ 2 _ rfl;(with_reducible repeat(first|refine qw ?_ _|refine qx ?_|refine qv ?_ _));refine blk_put (cs:=#[.int .i64 ((wk l0 x13_1).f0),.string (⟨#[]⟩ : ByteArray),.string (⟨#[]⟩ : ByteArray),.slice none 0 0,.slice none 0 0]) ?_ 1 _ rfl;(with_reducible repeat(first|refine qw ?_ _|refine qx ?_|refine qv ?_ _));refine blk_put (cs:=#[.int .i64 0,.string (⟨#[]⟩ : ByteArray),.string (⟨#[]⟩ : ByteArray),.slice none 0 0,.slice none 0 0]) ?_ 0 _ rfl;(with_reducible repeat(first|refine qw ?_ _|refine qx ?_|refine qv ?_ _));exact BK102.out) hb);replace HB:=U.mk (zz (by repeat(first|(with_reducible first|exact HB.out|apply G|apply J|apply qq|refine qk ?_ GE102.out)|exact HB.out)) hb);(try clear hb ho0);obtain⟨Ao17,co17,eo17⟩:=Kd.R_slice HO105.out;subst eo17;have hAAo17:=nil_isnt HO105.out A7.out;clear hn0)|((with_reducible refine jw (f:=158) rfl ?_);refine goesL_ (some 20) rfl rfl Try.func158 (by kernel_rfl) rfl #[.slice Ao17 t103.length co17] rfl (by(try simp only[jq0,jq1,jq2]);first|done|rfl|(simp only[jq3,jq4];rfl)) ?_;(with_reducible refine(nilS.calls _ _ t103 false _ ?side1 ?side2 A7.out).mono ?_);(case side1=>repeat(first|exact(Kd.R_reads' HO105.out).2.2|(with_reducible refine Kd.C_alloc ?_ _)|(with_reducible refine Kd.C_drewN ?_ _)|(with_reducible refine Kd.C_drew ?_)));(case side2=>exact(Kd.R_reads' HO105.out).2.1);rintro e w' ⟨rfl,⟨nd,rfl⟩⟩;refine⟨_,rfl,?_⟩)|((with_reducible refine gate_builtin (b:=.append) (xs:=#[.tmp 21,.tmp 23]) rfl ?_);at_builtin;refine Kd.S_append (Kd.slice 5 (Kd.int .u8)) (w0:=w) w.heap.size rfl (.tmp 21) (.tmp 23) 44 22 (.slice none 0 0) 24 rfl Try.underlying44 info22 rfl (by decide) (by omega) u4 x4_1 t103 [.slice Ao17 t103.length co17] (fun _=>True) (fun k_=>some k_=(.slice Ao17 t103.length co17:Value).ownBlock) rfl rfl ?aP (fun k_ hk_=>((Kd.R_mono (ok':=fun k_=>((fun _=>True)) k_∧some k_≠(u4:Value).ownBlock) (Kd.R_apart' (HO105.out) (Kd.S_typed HO_4.out) (by decide)) (fun k_ hk=>⟨trivial,hk.2⟩))).1 k_ hk_.symm) ?aF ?aO ?aB ?aS ?aL ?_;(case aP=>exact Kd.M_row (Kd.R_mono (Kd.R_tight rfl (Kd.R_mono (ok':=fun k_=>((fun _=>True)) k_∧some k_≠(u4:Value).ownBlock) (Kd.R_apart' (HO105.out) (Kd.S_typed HO_4.out) (by decide)) (fun k_ hk=>⟨trivial,hk.2⟩))) (fun _ h_=>h_)));(case aB=>exact(by repeat(first|(with_reducible first|exact HB.out|apply G|apply J|apply qq|refine qk ?_ GE102.out)|exact HB.out)));(case aF=>exact(fun _ _=>trivial));(case aO=>exact(by(with_reducible repeat(first|apply Kd.vq|apply Kd.kx|apply Kd.vz));exact Kd.S_mono HO_4.out (fun k_ hk=>⟨trivial,fun e_=>hk.2 e_⟩)));(case aS=>exact(zj (by repeat(first|(with_reducible first|exact HB.out|apply G|apply J|apply qq|refine qk ?_ GE102.out)|exact HB.out))));(case aL=>have:=LMc13.out;omega);intro v108 w18 ho hb hg hat;rw[← Ny107.out] at ho;replace BK102:=U.mk (blk_grown (g:=gb102) (o:=.cells #[.int .i64 ((wk l0 x13_1).f0),.string ((wk l0 x13_1).f1),.string ((wk l0 x13_1).f2),.slice A101_3 ((wk l0 x13_1).f3).length c101_3,.slice A101_4 ((wk l0 x13_1).f4).length c101_4] 27 (0,0)) (by(with_reducible repeat(first|refine qw ?_ _|refine qx ?_|refine qv ?_ _));exact BK102.out) hg (Kd.S_ne HO_4.out BK102.out (by decide)));replace HB:=U.mk (hb);have HO109:=U.mk (ho);clear HO_4;clear HO105;clear ho hb hg hat))
         go_roundg k1
         case measure=>have:=HK1.out;omega
         case rel=>exact⟨(y107),(wrap64 (x13_1 + 1)),(by first|rfl|(simp;done)|(simp[*];done)),H',⟨by have:=HK1.out;omega⟩,⟨by(with_reducible repeat(first|apply Kd.vq|apply Kd.kx|apply Kd.vz));exact HO109.out⟩,⟨by repeat(first|(with_reducible first|exact HB.out|apply G|apply J|apply qq|refine qk ?_ GE102.out)|exact HB.out)⟩⟩
        ·rw[if_neg c13] at H
         exact absurd H (by simp)
      ·rw[if_neg c5] at H
       exact absurd H (by simp)
     ·rw[if_neg c4] at H
      exact absurd H (by simp)
    ·rw[if_neg c3] at H
     have c3b0:decide (x13_1 < (l0.length:Int))=false:=decide_eq_false c3
     clear c3
     simp only[Option.some.injEq,Prod.mk.injEq] at H
     obtain⟨rfl,rfl⟩:=H
     go_wp2
     go_ret2
     exact⟨_,by first|rfl|(simp[*,jv,jk] <;> rfl),by(with_reducible repeat(first|apply Kd.vq|apply Kd.kx|apply Kd.vz));exact HO_4.out,by repeat(first|(with_reducible first|exact HB.out|apply G|apply J|apply qq)|exact HB.out)⟩
end Go.Proofs.Ytipdkendfcopiaa.Pr
namespace Go.Proofs.Ytipdkendfcopiaa.Pr
open Go.RowKit Go.Proofs.YtipdkendfcopiaaW.PrintWords Go.Proofs.YtipdkendfcopiaaW.PrintLast Go.Proofs.YtipdkendfcopiaaW.PrintMore
attribute [local go_sem] max2_int min2_int max_two min_two max_three min_three max_four min_four
set_option linter.unusedVariables false
set_option linter.unusedSimpArgs false
def qzq.l0:Nat→Int→Int→Option (Int)
 | 0,_,_=>none
 | k + 1,x0,x3=>if (wrap64 (x3 * 2)) < x0 then(qzq.l0 k x0 (wrap64 (x3 * 2))) else(some x3)
def qzq.f (k:Nat) (a0:Int):Option (Int):=qzq.l0 k a0 1
theorem qzq.mono_l:∀ k,(∀ y0 y1,LeO (qzq.l0 k y0 y1) (qzq.l0 (k + 1) y0 y1))
 | 0=>fun _ _ r h=>by simp[qzq.l0] at h
 | k + 1=>by
  have ih0:=qzq.mono_l k
  ·intro y0 y1
   unfold qzq.l0
   repeat' first
   | (with_reducible exact ih0 _ _)
   | (with_reducible exact LeO.refl _)
   | (with_reducible exact LeO.none _)
   | (with_reducible refine LeO.ite ?_ ?_)
   | (with_reducible refine LeO.bind ?_ (fun _=>?_))
   | exact ih0 _ _
   | exact LeO.none _
   | refine LeO.ite ?_ ?_
   | refine LeO.bind ?_ (fun _=>?_)
theorem qzq.mono:∀ a0 k,LeO (qzq.f k a0) (qzq.f (k + 1) a0):=by
 intro a0 k
 have ih0:=qzq.mono_l k
 unfold qzq.f
 repeat' first
   | (with_reducible exact ih0 _ _)
   | (with_reducible exact LeO.refl _)
   | (with_reducible exact LeO.none _)
   | (with_reducible refine LeO.ite ?_ ?_)
   | (with_reducible refine LeO.bind ?_ (fun _=>?_))
   | exact ih0 _ _
   | exact LeO.none _
   | refine LeO.ite ?_ ?_
   | refine LeO.bind ?_ (fun _=>?_)
theorem qzq.calls (k:Nat) (a0:Int) (r:Int) (w:World) (h:qzq.f k a0=some r) :
  Calls Try.prog 121 #[.int .i64 a0] w fun e w'=>e=.returned (.int .i64 r)∧Drawn0 w w':=by
 have H:(qzq.l0 k a0 1)=some r:=h
 clear h
 have H':=U.mk H
 clear H
 go_enter Try.func121,Try.ntmps121
 go_wp2
 go_loopg [3] k (fun kq v3 w'=>∃ (x3_1:Int),v3=.int .i64 x3_1∧U (qzq.l0 kq a0 x3_1=some r)∧U (kq≤k)∧Drawn0 w w')
 case atStart=>exact⟨(1),(by first|rfl|(simp;done)|(simp[*];done)),H',⟨Nat.le_refl _⟩,by repeat(first|exact Drawn0.refl _|apply Drawn0.step)⟩
 case round =>
  clear H'
  try clear c1
  obtain⟨x3_1,rfl,HA,HK1,⟨m1,rfl⟩⟩:=hrel
  cases gk with
  | zero=>exact absurd HA.out (by simp[qzq.l0])
  | succ k1 =>
   have H:=HA.out
   clear HA
   simp only[qzq.l0] at H
   by_cases c2:(wrap64 (x3_1 * 2)) < a0
   ·rw[if_pos c2] at H
    have c2b0:decide ((wrap64 (x3_1 * 2)) < a0)=true:=decide_eq_true c2
    clear c2
    have H':=U.mk H
    clear H
    go_wp2
    go_roundg k1
    case measure=>have:=HK1.out;omega
    case rel=>exact⟨(wrap64 (x3_1 * 2)),(by first|rfl|(simp;done)|(simp[*];done)),H',⟨by have:=HK1.out;omega⟩,by repeat(first|exact Drawn0.refl _|apply Drawn0.step)⟩
   ·rw[if_neg c2] at H
    have c2b0:decide ((wrap64 (x3_1 * 2)) < a0)=false:=decide_eq_false c2
    clear c2
    obtain rfl:=Option.some.inj H
    go_wp2
    go_ret
    exact⟨by first|rfl|(simp;done)|(simp[*];done),by repeat(first|exact Drawn0.refl _|apply Drawn0.step)⟩
end Go.Proofs.Ytipdkendfcopiaa.Pr
namespace Go.Proofs.Ytipdkendfcopiaa.Pr
open Go.RowKit Go.Proofs.YtipdkendfcopiaaW.PrintWords Go.Proofs.YtipdkendfcopiaaW.PrintLast Go.Proofs.YtipdkendfcopiaaW.PrintMore
attribute [local go_sem] max2_int min2_int max_two min_two max_three min_three max_four min_four
set_option linter.unusedVariables false
set_option linter.unusedSimpArgs false
def qqv.f (l0:List Int) (l1:List Int):Option (List Int):=(qjv.f (([(([1]:List Int)),l0,l1]:List (List Int)))).bind fun t107=>((xk.f t107).bind fun t110=>(some t110))
theorem qqv.calls (P0_:Nat→Prop) (A0:Option Addr) (c0:Nat) (l0:List Int) (P1_:Nat→Prop) (A1:Option Addr) (c1:Nat) (l1:List Int) (r:List Int) (w:World) (hs0:Kd.V (Kd.int .u8) 5 w w.heap.size (fun k_=>P0_ k_) (.slice A0 l0.length c0) l0) (hs1:Kd.V (Kd.int .u8) 5 w w.heap.size (fun k_=>P1_ k_) (.slice A1 l1.length c1) l1) (h:qqv.f l0 l1=some r) :
  Calls Try.prog 122 #[.slice A0 l0.length c0,.slice A1 l1.length c1] w fun e w'=>∃ v0_:Value,e=.returned (v0_)∧Kd.R (Kd.int .u8) 5 w' w.heap.size (fun k_=>(w.heap.size≤k_)) v0_ r∧Below w.heap.size w w':=by
 have HO0:=U.mk (show Kd.V (Kd.int .u8) 5 w w.heap.size (fun k_=>((P0_ k_∨P1_ k_)∨w.heap.size≤k_)) (.slice A0 l0.length c0) l0 from Kd.V_mono hs0 (fun k_ hk=>.inl (.inl hk)))
 have HO1:=U.mk (show Kd.V (Kd.int .u8) 5 w w.heap.size (fun k_=>((P0_ k_∨P1_ k_)∨w.heap.size≤k_)) (.slice A1 l1.length c1) l1 from Kd.V_mono hs1 (fun k_ hk=>.inl (.inr hk)))
 have HB:=U.mk (Below.refl w.heap.size w)
 unfold qqv.f at h
 have H:=h
 clear h
 obtain⟨y101,hy101⟩ : ∃ y_:List Int,y_=(([1]:List Int)):=⟨_,rfl⟩
 replace H:((qjv.f (([y101,l0,l1]:List (List Int)))).bind fun t107=>((xk.f t107).bind fun t110=>(some t110)))=some r:=by first|(rw[hy101];with_reducible exact H)|(have H2_:=(Option.bind_some _ _).symm.trans H;rw[hy101];with_reducible exact H2_)|(have H2_:=(Option.bind_some _ _).symm.trans H;with_reducible exact H2_)|with_reducible exact H|(rw[hy101];exact H)|exact H
 have Ny101:=U.mk hy101
 clear hy101
 obtain⟨y104,hy104⟩ : ∃ y_:List (List Int),y_=(([y101,l0,l1]:List (List Int))):=⟨_,rfl⟩
 replace H:((qjv.f y104).bind fun t107=>((xk.f t107).bind fun t110=>(some t110)))=some r:=by first|(rw[hy104];with_reducible exact H)|(have H2_:=(Option.bind_some _ _).symm.trans H;rw[hy104];with_reducible exact H2_)|(have H2_:=(Option.bind_some _ _).symm.trans H;with_reducible exact H2_)|with_reducible exact H|(rw[hy104];exact H)|exact H
 have Ny104:=U.mk hy104
 clear hy104
 replace H:=jq8.mp H
 obtain⟨t107,A30,H⟩:=H
 try dsimp only at H
 have A3:=U.mk A30
 clear A30
 replace H:=jq8.mp H
 obtain⟨t110,A40,H⟩:=H
 replace H:(some t110)=some r:=H
 have A4:=U.mk A40
 clear A40
 obtain rfl:=Option.some.inj H
 go_enter Try.func122,Try.ntmps122
 go_wp2_with (first|((with_reducible refine gate_dst (N:=5) rfl ?_);refine Kd.R_lit (Kd.int .u8) _ 5 ?hg (N:=5) ?hd (xs:=([1]:List Int)) (inner:=[.int .u8 1]) (ok:=fun _=>True) (okp:=fun _=>True) ?hr ?hp (fun _ hk=>hk) trivial (Below.refl _ _) (Nat.le_refl _) (by simp) ?_;(case hd=>rfl);(case hg=>rfl);(case hr=>first|(go_simp;done)|(go_simp;rfl));(case hp=>exact(Reps.one (show Kd.M (Kd.int .u8) _ _ _ 1 [.int .u8 1] from rfl) (Reps.none _ _)));intro v102 w5 ho6 hb hg_ hnew_;clear hg_ hnew_;(first|rw[← Ny101.out] at ho6|(simp only[Int.reduceToNat] at ho6;rw[← Ny101.out] at ho6));replace HO0:=U.mk (Kd.V_elder' (by(with_reducible repeat(first|apply Kd.vv|apply Kd.vk|apply Kd.vw));exact HO0.out) (Kd.R_base ho6) hb);replace HO1:=U.mk (Kd.V_elder' (by(with_reducible repeat(first|apply Kd.vv|apply Kd.vk|apply Kd.vw));exact HO1.out) (Kd.R_base ho6) hb);have HO103:=U.mk (Kd.R_lower (Kd.R_newM (M:=fun k_=>(w.heap.size≤k_)) ho6 (zj (by solve_by_elim only[HB.out,G,J,qq])) (fun k_ h_=>h_)) (zj (by solve_by_elim only[HB.out,G,J,qq])));replace HB:=U.mk (zz (by solve_by_elim only[HB.out,G,J,qq]) hb);clear hb ho6;obtain⟨Ao7,co7,eo7⟩:=Kd.R_slice HO103.out;subst eo7)|((with_reducible refine gate_dst (N:=8) rfl ?_);refine Kd.N_lit (Kd.slice 5 (Kd.int .u8)) _ 22 ?hg (N':=8) ?hd (xs:=([y101,l0,l1]:List (List Int))) (inner:=[.slice Ao7 y101.length co7,.slice A0 l0.length c0,.slice A1 l1.length c1]) (ok:=(fun k_=>((P0_ k_∨P1_ k_)∨w.heap.size≤k_))) (okp:=(fun k_=>((P0_ k_∨P1_ k_)∨w.heap.size≤k_))) ?hr ?hp (fun _ hk=>hk) ((show ∀ k_,w5.heap.size≤k_→(fun k_=>((P0_ k_∨P1_ k_)∨w.heap.size≤k_)) k_ from fun k_ hk=>(.inr (Nat.le_trans (zj (by solve_by_elim only[HB.out,G,J,qq])) hk))) _ (Nat.le_refl _)) (Below.refl _ _) (Nat.le_refl _) (by simp) ?_;(case hd=>rfl);(case hg=>rfl);(case hr=>first|(go_simp;done)|(go_simp;rfl));(case hp=>exact(Reps.one (show Kd.FK (Kd.slice 5 (Kd.int .u8)) _ _ y101 [.slice Ao7 y101.length co7] from(Kd.FK_slice_mk (Kd.R_reads' (Kd.R_mono (ok':=(fun k_=>((P0_ k_∨P1_ k_)∨w.heap.size≤k_))) (HO103.out) (fun k_ hk=>(.inr (hk.1))))).2.1 (Kd.R_F (Kd.R_mono (ok':=(fun k_=>((P0_ k_∨P1_ k_)∨w.heap.size≤k_))) (HO103.out) (fun k_ hk=>(.inr (hk.1))))))) (Reps.one (show Kd.FK (Kd.slice 5 (Kd.int .u8)) _ _ l0 [.slice A0 l0.length c0] from(Kd.FK_slice_mk (Kd.V_reads' (Kd.V_mono (ok':=(fun k_=>((P0_ k_∨P1_ k_)∨w.heap.size≤k_))) (HO0.out) (fun k_ hk=>hk.1))).2.1 (Kd.V_F (Kd.V_mono (ok':=(fun k_=>((P0_ k_∨P1_ k_)∨w.heap.size≤k_))) (HO0.out) (fun k_ hk=>hk.1))))) (Reps.one (show Kd.FK (Kd.slice 5 (Kd.int .u8)) _ _ l1 [.slice A1 l1.length c1] from(Kd.FK_slice_mk (Kd.V_reads' (Kd.V_mono (ok':=(fun k_=>((P0_ k_∨P1_ k_)∨w.heap.size≤k_))) (HO1.out) (fun k_ hk=>hk.1))).2.1 (Kd.V_F (Kd.V_mono (ok':=(fun k_=>((P0_ k_∨P1_ k_)∨w.heap.size≤k_))) (HO1.out) (fun k_ hk=>hk.1))))) (Reps.none _ _)))));intro v105 w8 ho9 hb hg_ hnew_;clear hg_ hnew_;(first|rw[← Ny104.out] at ho9|(simp only[Int.reduceToNat] at ho9;rw[← Ny104.out] at ho9));replace HO0:=U.mk (Kd.V_elder' (by(with_reducible repeat(first|apply Kd.vv|apply Kd.vk|apply Kd.vw));exact HO0.out) (Kd.N_base ho9) hb);replace HO1:=U.mk (Kd.V_elder' (by(with_reducible repeat(first|apply Kd.vv|apply Kd.vk|apply Kd.vw));exact HO1.out) (Kd.N_base ho9) hb);have HO106:=U.mk (Kd.N_lower ho9 (zj (by solve_by_elim only[HB.out,G,J,qq])));replace HB:=U.mk (zz (by solve_by_elim only[HB.out,G,J,qq]) hb);clear HO103;clear hb ho9;obtain⟨Ao10,co10,eo10⟩:=Kd.N_slice HO106.out;subst eo10)|((with_reducible refine jw (f:=78) rfl ?_);refine goesL_ (some 9) rfl rfl Try.func78 (by kernel_rfl) rfl #[.slice Ao10 y104.length co10] rfl (by(try simp only[jq0,jq1,jq2]);first|done|rfl|(simp only[jq3,jq4];rfl)) ?_;(with_reducible refine(qjv.calls _ _ y104 t107 _ ?side1 ?side2 A3.out).mono ?_);(case side1=>solve_by_elim only[(Kd.N_reads' HO106.out).2.2,Kd.C_alloc,Kd.C_drewN,Kd.C_drew]);(case side2=>exact(Kd.N_reads' HO106.out).2.1);rintro e w11 ⟨v108,rfl,ho0,hb⟩;refine⟨_,rfl,?_⟩;replace HO0:=U.mk (Kd.V_elder' (by(with_reducible repeat(first|apply Kd.vv|apply Kd.vk|apply Kd.vw));exact HO0.out) (Kd.R_base ho0) hb);replace HO1:=U.mk (Kd.V_elder' (by(with_reducible repeat(first|apply Kd.vv|apply Kd.vk|apply Kd.vw));exact HO1.out) (Kd.R_base ho0) hb);replace HO106:=U.mk (Kd.N_elder' (by solve_by_elim only[HO106.out,Kd.kv,Kd.kk,Kd.kw]) (Kd.R_base ho0) hb);have HO109:=U.mk (Kd.R_lower (Kd.R_newM (M:=fun k_=>(w.heap.size≤k_)) ho0 (zj (by solve_by_elim only[HB.out,G,J,qq])) (fun k_ h_=>h_)) (zj (by solve_by_elim only[HB.out,G,J,qq])));replace HB:=U.mk (zz (by solve_by_elim only[HB.out,G,J,qq]) hb);(try clear hb ho0);obtain⟨Ao12,co12,eo12⟩:=Kd.R_slice HO109.out;subst eo12)|((with_reducible refine jw (f:=77) rfl ?_);refine goesL_ (some 10) rfl rfl Try.func77 (by kernel_rfl) rfl #[.slice Ao12 t107.length co12] rfl (by(try simp only[jq0,jq1,jq2]);first|done|rfl|(simp only[jq3,jq4];rfl)) ?_;(with_reducible refine(xk.calls _ _ t107 t110 _ ?side1 ?side2 A4.out).mono ?_);(case side1=>solve_by_elim only[(Kd.R_reads' HO109.out).2.2,Kd.C_alloc,Kd.C_drewN,Kd.C_drew]);(case side2=>exact(Kd.R_reads' HO109.out).2.1);rintro e w13 ⟨v111,rfl,ho0,hb⟩;refine⟨_,rfl,?_⟩;replace HO0:=U.mk (Kd.V_elder' (by(with_reducible repeat(first|apply Kd.vv|apply Kd.vk|apply Kd.vw));exact HO0.out) (Kd.R_base ho0) hb);replace HO1:=U.mk (Kd.V_elder' (by(with_reducible repeat(first|apply Kd.vv|apply Kd.vk|apply Kd.vw));exact HO1.out) (Kd.R_base ho0) hb);replace HO106:=U.mk (Kd.N_elder' (by solve_by_elim only[HO106.out,Kd.kv,Kd.kk,Kd.kw]) (Kd.R_base ho0) hb);have HO112:=U.mk (Kd.R_lower (Kd.R_new' (Kd.R_newM (M:=fun k_=>(w.heap.size≤k_)) ho0 (zj (by solve_by_elim only[HB.out,G,J,qq])) (fun k_ h_=>h_)) (Kd.R_lt (by solve_by_elim only[HO109.out,Kd.zv,Kd.zk,Kd.zw]))) (zj (by solve_by_elim only[HB.out,G,J,qq])));replace HO109:=U.mk (Kd.R_elder' (by solve_by_elim only[HO109.out,Kd.zv,Kd.zk,Kd.zw]) (Kd.R_base ho0) hb);replace HB:=U.mk (zz (by solve_by_elim only[HB.out,G,J,qq]) hb);(try clear hb ho0)))
 go_ret
 exact⟨_,by first|rfl|(simp[*,jv,jk] <;> rfl),by(with_reducible repeat(first|apply Kd.zv|apply Kd.zk|apply Kd.zw));exact Kd.R_mono HO112.out (fun _ hk=>hk.1.1),by repeat(first|(with_reducible first|exact HB.out|apply G|apply J|apply qq)|exact HB.out)⟩
end Go.Proofs.Ytipdkendfcopiaa.Pr
namespace Go.Proofs.Ytipdkendfcopiaa.Pr
open Go.RowKit Go.Proofs.YtipdkendfcopiaaW.PrintWords Go.Proofs.YtipdkendfcopiaaW.PrintLast Go.Proofs.YtipdkendfcopiaaW.PrintMore
attribute [local go_sem] max2_int min2_int max_two min_two max_three min_three max_four min_four
set_option linter.unusedVariables false
set_option linter.unusedSimpArgs false
def qzx.f:Nat→List (List Int)→Option (List Int)
 | 0,_=>none
 | k + 1,l0=>if (l0.length:Int)=0 then((xk.f ([]:List Int)).bind fun t101=>(some t101)) else(if (l0.length:Int)=1 then(if 0 < (l0.length:Int) then((wv.f (rd_L2 l0 0)).bind fun t105=>(some t105)) else(none)) else((qzq.f k (l0.length:Int)).bind fun t108=>(if 0≤t108 then(if t108≤(l0.length:Int) then((qzx.f k (l0.take (t108:Int).toNat)).bind fun t113=>((qzx.f k (l0.drop (t108:Int).toNat)).bind fun t120=>((qqv.f t113 t120).bind fun t123=>(some t123)))) else(none)) else(none))))
def qzx.T7:Bool × List (List Nat × List Nat):=(true,[([],[]),([],[]),([0,1],[0,1]),([2],[2]),([],[]),([],[]),([4,5],[4,5]),([6,3],[6]),([3,7,7],[3,7]),([8,8,0,1,2,3,4,5,6,7,8],[8])])
def qzx.B7:List Nat:=[0,0,3,7,0,0,48,127,255,511]
theorem qzx.tab7:rtab .any (opsOf Try.f83 7)=qzx.T7:=by kernel_rfl
theorem qzx.bits7:waitsOk qzx.T7.2 qzx.B7=true:=by kernel_rfl
theorem qzx.calls (k:Nat):∀ (A0:Option Addr) (c0:Nat) (l0:List (List Int)) (r:List Int) (w:World) (hr0:Kd.C (Kd.slice 5 (Kd.int .u8)) w A0 l0.length l0) (hc0:l0.length≤c0) (h:qzx.f k l0=some r),
  Calls Try.prog 83 #[.slice A0 l0.length c0] w fun e w'=>∃ v0_:Value,e=.returned (v0_)∧Kd.R (Kd.int .u8) 5 w' w.heap.size (fun _=>True) v0_ r∧Below w.heap.size w w':=by
 induction k using Nat.strongRecOn with
 | _ k ih =>
 intro A0 c0 l0 r w hr0 hc0 h
 cases k with
 | zero=>exact absurd h (by simp[qzx.f])
 | succ k =>
 simp only[qzx.f] at h
 have HR0:=U.mk hr0
 have HC0:=U.mk hc0
 clear hr0 hc0
 have HB:=U.mk (Below.refl w.heap.size w)
 have H:(if (l0.length:Int)=0 then((xk.f ([]:List Int)).bind fun t101=>(some t101)) else(if (l0.length:Int)=1 then(if 0 < (l0.length:Int) then((wv.f (rd_L2 l0 0)).bind fun t105=>(some t105)) else(none)) else((qzq.f k (l0.length:Int)).bind fun t108=>(if 0≤t108 then(if t108≤(l0.length:Int) then((qzx.f k (l0.take (t108:Int).toNat)).bind fun t113=>((qzx.f k (l0.drop (t108:Int).toNat)).bind fun t120=>((qqv.f t113 t120).bind fun t123=>(some t123)))) else(none)) else(none)))))=some r:=h
 clear h
 by_cases c2:(l0.length:Int)=0
 ·rw[if_pos c2] at H
  have c2b0:((l0.length:Int) == 0)=true:=beq_iff_eq.mpr c2
  have c2b1:((l0.length:Int) != 0)=false:=bne_eq_false_iff_eq.mpr c2
  clear c2
  replace H:=jq8.mp H
  obtain⟨t101,A30,H⟩:=H
  replace H:(some t101)=some r:=H
  have A3:=U.mk A30
  clear A30
  obtain rfl:=Option.some.inj H
  go_enter Try.func83,Try.ntmps83
  go_wp2_with (first|((with_reducible refine jw (f:=77) rfl ?_);refine goesL_ (some 8) rfl rfl Try.func77 (by kernel_rfl) rfl #[.slice none 0 0] rfl (by(try simp only[jq0,jq1,jq2]);first|done|rfl|(simp only[jq3,jq4];rfl)) ?_;(refine(xk.calls _ _ ([]:List Int) t101 _ ?side1 ?side2 A3.out).mono ?_);(case side1=>exact Kd.C_nil _ _);(case side2=>exact Nat.le_refl _);rintro e w4 ⟨v102,rfl,ho0,hb⟩;refine⟨_,rfl,?_⟩;have HO103:=U.mk (Kd.R_lower ho0 (zj (by solve_by_elim only[HB.out,G,J,qq])));replace HB:=U.mk (zz (by solve_by_elim only[HB.out,G,J,qq]) hb);(try clear hb ho0)))
  go_ret
  exact⟨_,by first|rfl|(simp[*,jv,jk] <;> rfl),by(with_reducible repeat(first|apply Kd.zv|apply Kd.zk|apply Kd.zw));exact HO103.out,by repeat(first|(with_reducible first|exact HB.out|apply G|apply J|apply qq)|exact HB.out)⟩
 ·rw[if_neg c2] at H
  have c2b0:((l0.length:Int) == 0)=false:=beq_eq_false_iff_ne.mpr c2
  have c2b1:((l0.length:Int) != 0)=true:=bne_iff_ne.mpr c2
  have c2b2:¬ (l0=[]):=fun h_=>c2 (by rw[h_];rfl)
  by_cases c5:(l0.length:Int)=1
  ·rw[if_pos c5] at H
   have c5b0:((l0.length:Int) == 1)=true:=beq_iff_eq.mpr c5
   have c5b1:((l0.length:Int) != 1)=false:=bne_eq_false_iff_eq.mpr c5
   clear c5
   by_cases c6 : 0 < (l0.length:Int)
   ·rw[if_pos c6] at H
    have c6b0:decide (0 < (l0.length:Int))=true:=decide_eq_true c6
    have c6b1:decide (0 < l0.length)=true:=decide_eq_true (by omega)
    clear c6
    replace H:=jq8.mp H
    obtain⟨t105,A70,H⟩:=H
    replace H:(some t105)=some r:=H
    have A7:=U.mk A70
    clear A70
    obtain rfl:=Option.some.inj H
    have p104 : 0≤(0:Int):=(by omega)
    have q104 : 0 < (l0.length:Int):=of_decide_eq_true (by assumption)
    obtain⟨ad104,A104_0,c104_0,e104,hx104_0,hl104_0,hi104_0⟩:=at_L2 HR0.out 0 p104 q104
    cases e104
    have qi104:(0 < l0.length)=True:=eq_true (by omega)
    (try rw[show((0:Int)).toNat=0 from rfl] at hx104_0)
    (try rw[Addr.add_zero'] at hx104_0)
    have HR104_0:=U.mk hi104_0
    have HC104_0:=U.mk hl104_0
    clear hi104_0 hl104_0
    replace p104:=eq_true p104
    replace q104:=eq_true q104
    go_enter Try.func83,Try.ntmps83
    go_wp2_with (first|((with_reducible refine jw (f:=74) rfl ?_);refine goesL_ (some 14) rfl rfl Try.func74 (by kernel_rfl) rfl #[.slice A104_0 (rd_L2 l0 0).length c104_0] rfl (by(try simp only[jq0,jq1,jq2]);first|done|rfl|(simp only[jq3,jq4];rfl)) ?_;(with_reducible refine(wv.calls _ _ (rd_L2 l0 0) t105 _ ?side1 ?side2 A7.out).mono ?_);(case side1=>solve_by_elim only[HR104_0.out,Kd.C_alloc,Kd.C_drewN,Kd.C_drew]);(case side2=>exact HC104_0.out);rintro e w8 ⟨v106,rfl,ho0,hb⟩;refine⟨_,rfl,?_⟩;have HO107:=U.mk (Kd.R_lower ho0 (zj (by solve_by_elim only[HB.out,G,J,qq])));replace HB:=U.mk (zz (by solve_by_elim only[HB.out,G,J,qq]) hb);(try clear hb ho0)))
    go_ret
    exact⟨_,by first|rfl|(simp[*,jv,jk] <;> rfl),by(with_reducible repeat(first|apply Kd.zv|apply Kd.zk|apply Kd.zw));exact HO107.out,by repeat(first|(with_reducible first|exact HB.out|apply G|apply J|apply qq)|exact HB.out)⟩
   ·rw[if_neg c6] at H
    exact absurd H (by simp)
  ·rw[if_neg c5] at H
   have c5b0:((l0.length:Int) == 1)=false:=beq_eq_false_iff_ne.mpr c5
   have c5b1:((l0.length:Int) != 1)=true:=bne_iff_ne.mpr c5
   replace H:=jq8.mp H
   obtain⟨t108,A90,H⟩:=H
   try dsimp only at H
   have A9:=U.mk A90
   clear A90
   by_cases c10 : 0≤t108
   ·rw[if_pos c10] at H
    have c10b0:=eq_true c10
    have c10b1:decide (0≤t108)=true:=decide_eq_true c10
    clear c10
    by_cases c11:t108≤(l0.length:Int)
    ·rw[if_pos c11] at H
     have c11b0:=eq_true c11
     have c11b1:decide (t108≤(l0.length:Int))=true:=decide_eq_true c11
     clear c11
     obtain⟨y109,hy109⟩ : ∃ y_:List (List Int),y_=(l0.take (t108:Int).toNat):=⟨_,rfl⟩
     replace H:((qzx.f k y109).bind fun t113=>((qzx.f k (l0.drop (t108:Int).toNat)).bind fun t120=>((qqv.f t113 t120).bind fun t123=>(some t123))))=some r:=by first|(rw[hy109];with_reducible exact H)|(have H2_:=(Option.bind_some _ _).symm.trans H;rw[hy109];with_reducible exact H2_)|(have H2_:=(Option.bind_some _ _).symm.trans H;with_reducible exact H2_)|with_reducible exact H|(rw[hy109];exact H)|exact H
     have Ny109:=U.mk hy109
     clear hy109
     replace H:=jq8.mp H
     obtain⟨t113,A120,H⟩:=H
     try dsimp only at H
     have A12:=U.mk A120
     clear A120
     have c13b0:=eq_true (of_decide_eq_true (by assumption) : 0≤t108)
     have c14b0:=eq_true (of_decide_eq_true (by assumption):t108≤(l0.length:Int))
     obtain⟨y116,hy116⟩ : ∃ y_:List (List Int),y_=(l0.drop (t108:Int).toNat):=⟨_,rfl⟩
     replace H:((qzx.f k y116).bind fun t120=>((qqv.f t113 t120).bind fun t123=>(some t123)))=some r:=by first|(rw[hy116];with_reducible exact H)|(have H2_:=(Option.bind_some _ _).symm.trans H;rw[hy116];with_reducible exact H2_)|(have H2_:=(Option.bind_some _ _).symm.trans H;with_reducible exact H2_)|with_reducible exact H|(rw[hy116];exact H)|exact H
     have Ny116:=U.mk hy116
     clear hy116
     replace H:=jq8.mp H
     obtain⟨t120,A150,H⟩:=H
     try dsimp only at H
     have A15:=U.mk A150
     clear A150
     replace H:=jq8.mp H
     obtain⟨t123,A160,H⟩:=H
     replace H:(some t123)=some r:=H
     have A16:=U.mk A160
     clear A160
     obtain rfl:=Option.some.inj H
     go_enter Try.func83,Try.ntmps83
     try go_wp2_with (first|((with_reducible refine jw (f:=121) rfl ?_);refine goesL_ (some 17) rfl rfl Try.func121 (by kernel_rfl) rfl #[.int .i64 (l0.length:Int)] rfl (by(try simp only[jq0,jq1,jq2]);first|done|rfl|(simp only[jq3,jq4];rfl)) ?_;(with_reducible refine(qzq.calls k (l0.length:Int) t108 _ A9.out).mono ?_);rintro e w' ⟨rfl,⟨nd,rfl⟩⟩;refine⟨_,rfl,?_⟩))
     replace HB:=U.mk (qq (J HB.out nd))
     have q18:(t108:Int)≤((l0.length:Int):Int):=of_decide_eq_true (by assumption)
     obtain⟨i018,hi018,_,hsz18,_⟩:=info_parts info22
     have hroom18:l0.length≤c0:=HC0.out
     have hC18:Kd.C (Kd.slice 5 (Kd.int .u8)) _ A0 l0.length l0:=HR0.out
     have hcut18:=cut_to (P:=Try.prog) 44 22 .i64 Try.underlying44 hi018 A0 l0.length c0 t108 (of_decide_eq_true (by assumption)) q18 hroom18
     have hr18:=Kd.C_take (m:=(t108:Int).toNat) hC18 (by omega)
     have hy18:y109.length=(t108:Int).toNat:=(by rw[Ny109.out,jq4];omega)
     rw[← Ny109.out] at hr18
     rw[← hy18] at hcut18
     have HR112:=U.mk hr18
     have HC112:=U.mk (show y109.length≤c0 from by omega)
     clear hr18 hC18 hroom18 hi018 hsz18
     have KY18:=U.mk hy18
     clear hy18
     replace q18:=eq_true q18
     have q19:(t108:Int)≤((l0.length:Int):Int):=of_decide_eq_true (by assumption)
     obtain⟨i019,hi019,_,hsz19,_⟩:=info_parts info22
     have hroom19:l0.length≤c0:=HC0.out
     have hC19:Kd.C (Kd.slice 5 (Kd.int .u8)) _ A0 l0.length l0:=HR0.out
     have q019:(0:Int)≤(t108:Int):=of_decide_eq_true (by assumption)
     have hcut19:=cut_from (P:=Try.prog) 44 22 .i64 Try.underlying44 hi019 1 hsz19 A0 l0.length c0 t108 q019 q19
     have hr19:=Kd.C_drop (m:=(t108:Int).toNat) (c:=c0) hC19 (by omega) hroom19
     obtain⟨A19,hA19⟩ : ∃ A1,A1=(if c0=(t108:Int).toNat then A0 else(A0:Option Addr).map (·.add ((t108:Int).toNat * 1))):=⟨_,rfl⟩
     obtain⟨c19,hc19⟩ : ∃ c1,c1=c0 - (t108:Int).toNat:=⟨_,rfl⟩
     have hy19:y116.length=l0.length - (t108:Int).toNat:=(by rw[Ny116.out,jq3] <;> omega)
     rw[show(l0).drop (t108:Int).toNat=y116 from Ny116.out.symm] at hr19
     replace hr19:Kd.C (Kd.slice 5 (Kd.int .u8)) _ A19 y116.length y116:=(by rw[hA19];exact hr19)
     rw[← hy19,← hA19,← hc19] at hcut19
     have HR119:=U.mk hr19
     have HC119:=U.mk (show y116.length≤c19 from by rw[hy19,hc19];exact Nat.sub_le_sub_right hroom19 _)
     clear hr19 hC19 hroom19 hi019 hsz19 hc19
     have KY19:=U.mk hy19
     have KA19:=U.mk hA19
     clear hy19 hA19
     replace q19:=eq_true q19
     refine start_ (n:=10) (S:=fun w'=>True) (ds:=[]) #[Y,Y,Y,Y,Y,Y,Y,Y,Y,Y] (by kernel_rfl) rfl rfl trivial (fun hHeld=>?_);refine with_tabW qzx.tab7 qzx.bits7 (fun HT_ HW_=>?_)
     generalize (w.drewN nd).drew=w17 at HB HR112 HR119 hHeld ⊢
     refine pure_ (i:=0) (N:=some 18) (v:=?_) (a':=?_) #[Z,Y,Y,Y,Y,Y,Y,Y,Y,Y] rfl rfl (any_of HT_.out (by kernel_rfl)) (fun _ _ _ h=>h) (Or.inl ⟨by rfl,?_⟩) ?_ ?_
     rotate_left
     ·intro w'
      go_simp
      with_reducible rfl
     rotate_left
     ·simp only[Act.put,jq5,jq6,jq7,i64_w,i32_w]
      rfl
     refine pure_ (i:=1) (N:=some 19) (v:=?_) (a':=?_) #[Z,Z,Y,Y,Y,Y,Y,Y,Y,Y] rfl rfl (any_of HT_.out (by kernel_rfl)) (fun _ _ _ h=>h) (Or.inl ⟨by rfl,?_⟩) ?_ ?_
     rotate_left
     ·intro w'
      go_simp
      with_reducible rfl
     rotate_left
     ·simp only[Act.put,jq5,jq6,jq7,i64_w,i32_w]
      rfl
     refine pure_ (i:=2) (N:=some 20) (v:=?_) (a':=?_) #[Z,Z,Z,Y,Y,Y,Y,Y,Y,Y] rfl rfl (any_of HT_.out (by kernel_rfl)) (fun _ _ _ h=>h) (Or.inl ⟨by rfl,?_⟩) ?_ ?_
     rotate_left
     ·intro w'
      go_simp
      with_reducible rfl
     rotate_left
     ·simp only[Act.put,jq5,jq6,jq7,i64_w,i32_w]
      rfl
     refine pure_ (i:=4) (N:=some 22) (v:=?_) (a':=?_) #[Z,Z,Z,Y,Z,Y,Y,Y,Y,Y] rfl rfl (any_of HT_.out (by kernel_rfl)) (fun _ _ _ h=>h) (Or.inl ⟨by rfl,?_⟩) ?_ ?_
     rotate_left
     ·intro w'
      go_simp
      with_reducible rfl
     rotate_left
     ·simp only[Act.put,jq5,jq6,jq7,i64_w,i32_w]
      rfl
     refine pure_ (i:=5) (N:=some 23) (v:=?_) (a':=?_) #[Z,Z,Z,Y,Z,Z,Y,Y,Y,Y] rfl rfl (any_of HT_.out (by kernel_rfl)) (fun _ _ _ h=>h) (Or.inl ⟨by rfl,?_⟩) ?_ ?_
     rotate_left
     ·intro w'
      go_simp
      with_reducible rfl
     rotate_left
     ·simp only[Act.put,jq5,jq6,jq7,i64_w,i32_w]
      rfl
     refine pure_ (i:=6) (N:=some 24) (v:=?_) (a':=?_) #[Z,Z,Z,Y,Z,Z,Z,Y,Y,Y] rfl rfl (any_of HT_.out (by kernel_rfl)) (fun _ _ _ h=>h) (Or.inl ⟨by rfl,?_⟩) ?_ ?_
     rotate_left
     ·intro w'
      go_simp
      with_reducible rfl
     rotate_left
     ·simp only[Act.put,jq5,jq6,jq7,i64_w,i32_w]
      rfl
     refine one_ (i:=3) (N:=some 21) #[Z,Z,Z,Z,Z,Z,Z,Y,Y,Y] rfl rfl (one_of HT_.out (by kernel_rfl)) (by decide) (fun K hK=>?_)
     refine goes_ Try.func83 (by kernel_rfl) rfl #[.slice A0 y109.length c0] (by rfl) rfl rfl (by(try simp only[jq0,jq1,jq2]);first|done|rfl|(simp only[jq3,jq4];rfl)) ?_
     with_reducible refine(ih k (by omega) _ _ y109 t113 _ ?side1 ?side2 A12.out).mono ?_
     (case side1=>solve_by_elim only[(Kd.C_below HR112.out HB.out),Kd.C_alloc,Kd.C_drewN,Kd.C_drew])
     (case side2=>exact HC112.out)
     rintro e w20 ⟨v114,rfl,ho0,hb⟩
     refine⟨_,rfl,?_⟩
     have HO115:=U.mk (Kd.R_lower ho0 (zj (by solve_by_elim only[HB.out,G,J,qq])))
     replace HB:=U.mk (zz (by solve_by_elim only[HB.out,G,J,qq]) hb)
     (try clear hb)
     (try clear hb2)
     (try clear hk)
     (try clear hi)
     (try clear ho0)
     refine hK.out _ _ trivial (fun hHeld=>?_)
     clear hK K
     refine norm_ (a':=?_) ?_ ?_
     rotate_left
     ·show Act.put _ (some 21) _=_
      simp only[Act.put,jq5,jq6,jq7,i64_w,i32_w]
      rfl
     refine one_ (i:=7) (N:=some 25) #[Z,Z,Z,Z,Z,Z,Z,Z,Y,Y] rfl rfl (one_of HT_.out (by kernel_rfl)) (by decide) (fun K hK=>?_)
     refine goes_ Try.func83 (by kernel_rfl) rfl #[.slice A19 y116.length c19] (by rfl) rfl rfl (by(try simp only[jq0,jq1,jq2]);first|done|rfl|(simp only[jq3,jq4];rfl)) ?_
     with_reducible refine(ih k (by omega) _ _ y116 t120 _ ?side1 ?side2 A15.out).mono ?_
     (case side1=>solve_by_elim only[(Kd.C_below HR119.out HB.out),Kd.C_alloc,Kd.C_drewN,Kd.C_drew])
     (case side2=>exact HC119.out)
     rintro e w21 ⟨v121,rfl,ho0,hb⟩
     refine⟨_,rfl,?_⟩
     have HO122:=U.mk (Kd.R_lower (Kd.R_new' ho0 (Kd.R_lt (by solve_by_elim only[HO115.out,Kd.zv,Kd.zk,Kd.zw]))) (zj (by solve_by_elim only[HB.out,G,J,qq])))
     replace HO115:=U.mk (Kd.R_elder' (by solve_by_elim only[HO115.out,Kd.zv,Kd.zk,Kd.zw]) (Kd.R_base ho0) hb)
     replace HB:=U.mk (zz (by solve_by_elim only[HB.out,G,J,qq]) hb)
     (try clear hb)
     (try clear hb2)
     (try clear hk)
     (try clear hi)
     (try clear ho0)
     obtain⟨Ao22,co22,eo22⟩:=Kd.R_slice HO115.out
     (first|subst eo22|(injection eo22 with f1_ f2_ f3_;have f4_:=f1_.symm;have f5_:=f3_.symm;clear f1_ f2_ f3_;subst f4_;subst f5_))
     obtain⟨Ao23,co23,eo23⟩:=Kd.R_slice HO122.out
     (first|subst eo23|(injection eo23 with f1_ f2_ f3_;have f4_:=f1_.symm;have f5_:=f3_.symm;clear f1_ f2_ f3_;subst f4_;subst f5_))
     refine hK.out _ _ trivial (fun hHeld=>?_)
     clear hK K
     refine norm_ (a':=?_) ?_ ?_
     rotate_left
     ·show Act.put _ (some 25) _=_
      simp only[Act.put,jq5,jq6,jq7,i64_w,i32_w]
      rfl
     refine one_ (i:=8) (N:=some 26) #[Z,Z,Z,Z,Z,Z,Z,Z,Z,Y] rfl rfl (one_of HT_.out (by kernel_rfl)) (by decide) (fun K hK=>?_)
     refine goes_ Try.func122 (by kernel_rfl) rfl #[.slice Ao22 t113.length co22,.slice Ao23 t120.length co23] (by rfl) rfl rfl (by(try simp only[jq0,jq1,jq2]);first|done|rfl|(simp only[jq3,jq4];rfl)) ?_
     with_reducible refine(qqv.calls (fun k_=>some k_=(.slice Ao22 t113.length co22:Value).ownBlock) _ _ t113 (fun k_=>some k_=(.slice Ao23 t120.length co23:Value).ownBlock) _ _ t120 t123 _ ?side1 ?side2 A16.out).mono ?_
     (case side1=>exact Kd.R_V (Kd.R_tight rfl (HO115.out)))
     (case side2=>exact Kd.R_V (Kd.R_tight rfl (HO122.out)))
     rintro e w24 ⟨v124,rfl,ho0,hb⟩
     refine⟨_,rfl,?_⟩
     have HO125:=U.mk (Kd.R_lower (Kd.R_new' (Kd.R_new' (Kd.R_mono (ok':=fun k_=>True) ho0 (fun _ hk_=>trivial)) (Kd.R_lt (by solve_by_elim only[HO115.out,Kd.zv,Kd.zk,Kd.zw]))) (Kd.R_lt (by solve_by_elim only[HO122.out,Kd.zv,Kd.zk,Kd.zw]))) (zj (by solve_by_elim only[HB.out,G,J,qq])))
     replace HO115:=U.mk (Kd.R_elder' (by solve_by_elim only[HO115.out,Kd.zv,Kd.zk,Kd.zw]) (Kd.R_base ho0) hb)
     replace HO122:=U.mk (Kd.R_elder' (by solve_by_elim only[HO122.out,Kd.zv,Kd.zk,Kd.zw]) (Kd.R_base ho0) hb)
     replace HB:=U.mk (zz (by solve_by_elim only[HB.out,G,J,qq]) hb)
     (try clear hb)
     (try clear hb2)
     (try clear hk)
     (try clear hi)
     (try clear ho0)
     refine hK.out _ _ trivial (fun hHeld=>?_)
     clear hK K
     refine norm_ (a':=?_) ?_ ?_
     rotate_left
     ·show Act.put _ (some 26) _=_
      simp only[Act.put,jq5,jq6,jq7,i64_w,i32_w]
      rfl
     refine pure_ (i:=9) (N:=some 2) (v:=?_) (a':=?_) #[Z,Z,Z,Z,Z,Z,Z,Z,Z,Z] rfl rfl (any_of HT_.out (by kernel_rfl)) (fun _ _ _ h=>h) (Or.inl ⟨by rfl,?_⟩) ?_ ?_
     rotate_left
     ·intro w'
      go_simp
      with_reducible rfl
     rotate_left
     ·simp only[Act.put,jq5,jq6,jq7,i64_w,i32_w]
      rfl
     refine done_ (done_of HT_.out (by kernel_rfl)) ?_
     try go_wp2
     go_ret
     exact⟨_,by first|rfl|(simp[*,jv,jk] <;> rfl),by(with_reducible repeat(first|apply Kd.zv|apply Kd.zk|apply Kd.zw));exact Kd.R_mono HO125.out (fun _ hk=>trivial),by repeat(first|(with_reducible first|exact HB.out|apply G|apply J|apply qq)|exact HB.out)⟩
    ·rw[if_neg c11] at H
     exact absurd H (by simp)
   ·rw[if_neg c10] at H
    exact absurd H (by simp)
end Go.Proofs.Ytipdkendfcopiaa.Pr
namespace Go.Proofs.Ytipdkendfcopiaa.Pr
open Go.RowKit Go.Proofs.YtipdkendfcopiaaW.PrintWords
set_option linter.unusedVariables false
theorem leaves_l0_pos (k:Nat):∀ (x:List (List Int)) (l0:List S27) (n i:Int) (l:List (List Int)) (b:Bool),(∀ y ∈ x,0 < y.length)→qzj.l0 k x l0 n i=some (l,b)→∀ y ∈ l,0 < y.length:=by
 induction k with
 | zero=>intro x l0 n i l b hx h;simp[qzj.l0] at h
 | succ k ih =>
  intro x l0 n i l b hx h
  simp only[qzj.l0] at h
  split at h
  case isFalse => 
   simp only[Option.some.injEq,Prod.mk.injEq] at h
   obtain⟨rfl,rfl⟩:=h
   exact hx
  split at h
  case isFalse=>cases h
  split at h
  case isFalse=>cases h
  obtain⟨t,ht,h⟩:=jq8.1 h
  obtain⟨u,hu,h⟩:=jq8.1 h
  split at h
  ·simp only[Option.some.injEq,Prod.mk.injEq] at h
   obtain⟨rfl,rfl⟩:=h
   intro y hy
   cases hy
  ·rename_i hne
   split at h
   case isFalse=>cases h
   refine ih _ _ _ _ _ _ ?_ h
   intro y hy
   rcases List.mem_append.1 hy with hy|hy
   ·exact hx y hy
   ·obtain rfl:=List.mem_singleton.1 hy
    exact nilS_false (by rw[hu,eq_false_of_ne_true hne])
theorem leaves_pos {k:Nat} {l0:List S27} {l:List (List Int)} {b:Bool} (h:qzj.f k l0=some (l,b)):∀ y ∈ l,0 < y.length:=by
 simp only[qzj.f] at h
 split at h
 ·simp only[Option.some.injEq,Prod.mk.injEq] at h
  obtain⟨rfl,rfl⟩:=h
  intro y hy
  cases hy
 ·refine leaves_l0_pos k _ _ _ _ _ _ ?_ h
  intro y hy
  cases hy
theorem yboth_pos {a b r:List Int} (h:qqv.f a b=some r) : 0 < r.length:=by
 simp only[qqv.f] at h
 obtain⟨t,ht,h⟩:=jq8.1 h
 obtain⟨u,hu,h⟩:=jq8.1 h
 obtain rfl:=Option.some.inj h
 exact digest_pos hu
theorem yroot_pos {k:Nat} {l:List (List Int)} {r:List Int} (hl:∀ y ∈ l,0 < y.length) (h:qzx.f k l=some r) : 0 < r.length:=by
 cases k with
 | zero=>simp[qzx.f] at h
 | succ k =>
  simp only[qzx.f] at h
  split at h
  ·obtain⟨u,hu,h⟩:=jq8.1 h
   obtain rfl:=Option.some.inj h
   exact digest_pos hu
  split at h
  ·split at h
   case isFalse=>cases h
   rename_i h1 h2
   obtain⟨u,hu,h⟩:=jq8.1 h
   obtain rfl:=Option.some.inj h
   simp only[wv.f] at hu
   split at hu
   case isFalse=>cases hu
   obtain rfl:=Option.some.inj hu
   refine hl _ ?_
   have h3 : 0 < l.length:=by omega
   simp only[rd_L2,Int.toNat_zero,List.getD_eq_getElem?_getD,List.getElem?_eq_getElem h3,Option.getD_some]
   exact List.getElem_mem h3
  ·obtain⟨u,hu,h⟩:=jq8.1 h
   split at h
   case isFalse=>cases h
   split at h
   case isFalse=>cases h
   obtain⟨u1,hu1,h⟩:=jq8.1 h
   obtain⟨u2,hu2,h⟩:=jq8.1 h
   obtain⟨u3,hu3,h⟩:=jq8.1 h
   obtain rfl:=Option.some.inj h
   exact yboth_pos hu3
theorem root_pos {k k2:Nat} {l0:List S27} {l:List (List Int)} {b:Bool} {r:List Int} (h1:qzj.f k l0=some (l,b)) (h2:qzx.f k2 l=some r) : 0 < r.length:=yroot_pos (leaves_pos h1) h2
end Go.Proofs.Ytipdkendfcopiaa.Pr
namespace Go.Proofs.Ytipdkendfcopiaa.Pr
open Go.RowKit Go.Proofs.YtipdkendfcopiaaW.PrintWords Go.Proofs.YtipdkendfcopiaaW.PrintLast Go.Proofs.YtipdkendfcopiaaW.PrintMore
attribute [local go_sem] max2_int min2_int max_two min_two max_three min_three max_four min_four
set_option linter.unusedVariables false
set_option linter.unusedSimpArgs false
def qqq.f (k:Nat) (l0:List (S27)):Option (List Int):=(qzj.f k l0).bind fun bt101=>(if bt101.2=true then((qzx.f k bt101.1).bind fun t105=>(some t105)) else(some ([]:List Int)))
theorem qqq.callsN (k:Nat) (A0:Option Addr) (c0:Nat) (l0:List (S27)) (r:List Int) (w:World) (hr0:Kd.C k27 w A0 l0.length l0) (hc0:l0.length≤c0) (h:qqq.f k l0=some r) :
  Calls Try.prog 36 #[.slice A0 l0.length c0] w fun e w'=>∃ v0_:Value,e=.returned (v0_)∧(r.length=0→v0_=.slice none 0 0)∧Kd.R (Kd.int .u8) 5 w' w.heap.size (fun _=>True) v0_ r∧Below w.heap.size w w':=by
 have HR0:=U.mk hr0
 have HC0:=U.mk hc0
 clear hr0 hc0
 have HB:=U.mk (Below.refl w.heap.size w)
 unfold qqq.f at h
 have H:=h
 clear h
 replace H:=jq8.mp H
 obtain⟨⟨t101,t102⟩,A20,H⟩:=H
 try dsimp only at H
 have A2:=U.mk A20
 clear A20
 by_cases c3:t102=true
 ·subst c3
  have H1:((qzx.f k t101).bind fun t105=>(some t105))=some r:=by rw[if_pos rfl] at H;exact H
  clear H
  have H:=H1
  clear H1
  replace H:=jq8.mp H
  obtain⟨t105,A40,H⟩:=H
  replace H:(some t105)=some r:=H
  have A4:=U.mk A40
  clear A40
  obtain rfl:=Option.some.inj H
  go_enter Try.func36,Try.ntmps36
  go_wp2_with (first|((with_reducible refine jw (f:=82) rfl ?_);refine goesL_ (some 7) rfl rfl Try.func82 (by kernel_rfl) rfl #[.slice A0 l0.length c0] rfl (by(try simp only[jq0,jq1,jq2]);first|done|rfl|(simp only[jq3,jq4];rfl)) ?_;(with_reducible refine(qzj.calls k _ _ l0 t101 true _ ?side1 ?side2 A2.out).mono ?_);(case side1=>solve_by_elim only[HR0.out,Kd.C_alloc,Kd.C_drewN,Kd.C_drew]);(case side2=>exact HC0.out);rintro e w5 ⟨v103,rfl,ho0,hb⟩;refine⟨_,rfl,?_⟩;have HO104:=U.mk (Kd.S_lower ho0 (zj (by solve_by_elim only[HB.out,G,J,qq])));replace HB:=U.mk (zz (by solve_by_elim only[HB.out,G,J,qq]) hb);(try clear hb ho0);obtain⟨Ao6,co6,eo6⟩:=Kd.S_slice HO104.out;subst eo6)|((with_reducible refine jw (f:=83) rfl ?_);refine goesL_ (some 13) rfl rfl Try.func83 (by kernel_rfl) rfl #[.slice Ao6 t101.length co6] rfl (by(try simp only[jq0,jq1,jq2]);first|done|rfl|(simp only[jq3,jq4];rfl)) ?_;(with_reducible refine(qzx.calls k _ _ t101 t105 _ ?side1 ?side2 A4.out).mono ?_);(case side1=>solve_by_elim only[(Kd.S_reads' HO104.out).2.2,Kd.C_alloc,Kd.C_drewN,Kd.C_drew]);(case side2=>exact(Kd.S_reads' HO104.out).2.1);rintro e w7 ⟨v106,rfl,ho0,hb⟩;refine⟨_,rfl,?_⟩;replace HO104:=U.mk (Kd.S_elder' (by solve_by_elim only[HO104.out,Kd.vq,Kd.kx,Kd.vz]) (Kd.R_base ho0) hb);have HO107:=U.mk (Kd.R_lower ho0 (zj (by solve_by_elim only[HB.out,G,J,qq])));replace HB:=U.mk (zz (by solve_by_elim only[HB.out,G,J,qq]) hb);(try clear hb ho0)))
  go_ret
  exact⟨_,by first|rfl|(simp[*,jv,jk] <;> rfl),by first|exact fun _=>rfl|exact rfl|exact trivial|exact nil_absurd (root_pos (U.out (by assumption)) (U.out (by assumption)))|exact nil_absurd' (root_pos (U.out (by assumption)) (U.out (by assumption))),by(with_reducible repeat(first|apply Kd.zv|apply Kd.zk|apply Kd.zw));exact HO107.out,by repeat(first|(with_reducible first|exact HB.out|apply G|apply J|apply qq)|exact HB.out)⟩
 ·replace c3:=jq9.mpr c3
  subst c3
  have H1:(some ([]:List Int))=some r:=by rw[if_neg (show ¬ (false=true) by decide)] at H;exact H
  clear H
  have H:=H1
  clear H1
  obtain rfl:=Option.some.inj H
  go_enter Try.func36,Try.ntmps36
  go_wp2_with (first|((with_reducible refine jw (f:=82) rfl ?_);refine goesL_ (some 7) rfl rfl Try.func82 (by kernel_rfl) rfl #[.slice A0 l0.length c0] rfl (by(try simp only[jq0,jq1,jq2]);first|done|rfl|(simp only[jq3,jq4];rfl)) ?_;(with_reducible refine(qzj.calls k _ _ l0 t101 false _ ?side1 ?side2 A2.out).mono ?_);(case side1=>solve_by_elim only[HR0.out,Kd.C_alloc,Kd.C_drewN,Kd.C_drew]);(case side2=>exact HC0.out);rintro e w8 ⟨v103,rfl,ho0,hb⟩;refine⟨_,rfl,?_⟩;have HO104:=U.mk (Kd.S_lower ho0 (zj (by solve_by_elim only[HB.out,G,J,qq])));replace HB:=U.mk (zz (by solve_by_elim only[HB.out,G,J,qq]) hb);(try clear hb ho0)))
  go_ret
  exact⟨_,by first|rfl|(simp[*,jv,jk] <;> rfl),by first|exact fun _=>rfl|exact rfl|exact trivial|exact nil_absurd (root_pos (U.out (by assumption)) (U.out (by assumption)))|exact nil_absurd' (root_pos (U.out (by assumption)) (U.out (by assumption))),by first|exact Kd.R_nil _ _ _ _ _|exact Kd.N_nil _ _ _ _ _|exact Kd.V_nil _ _ _ _ _|exact Kd.Q_nil _ _ _ _ _|exact Kd.S_nil _ _ _ _ _,by repeat(first|(with_reducible first|exact HB.out|apply G|apply J|apply qq)|exact HB.out)⟩
end Go.Proofs.Ytipdkendfcopiaa.Pr
namespace Go.Proofs.Ytipdkendfcopiaa.Pr
open Go.RowKit Go.Proofs.YtipdkendfcopiaaW.PrintWords Go.Proofs.YtipdkendfcopiaaW.PrintLast Go.Proofs.YtipdkendfcopiaaW.PrintMore
attribute [local go_sem] max2_int min2_int max_two min_two max_three min_three max_four min_four
set_option linter.unusedVariables false
set_option linter.unusedSimpArgs false
def qqj.j0:Nat→Int→List (S27)→List Int→Bool→Option (Int × List Int × Int × Int)
 | 0,_,_,_,_=>none
 | k + 1,x0,x1,x5,x14=>if x14=true then(some (0,([]:List Int),0,0)) else((qzz.f (x1.length:Int) x5).bind fun t107=>((qqz.f k x0 t107).bind fun bt110=>(some ((x1.length:Int),x5,bt110.1,bt110.2))))
def qqj.f (k:Nat) (a0:Int) (l1:List (S27)):Option (Int × List Int × Int × Int):=(qqq.f k l1).bind fun t102=>((qjq.f a0).bind fun t105=>(if t105=true then((nilS.f t102).bind fun t106=>(qqj.j0 k a0 l1 t102 t106)) else(qqj.j0 k a0 l1 t102 true)))
theorem qqj.calls (k:Nat) (a0:Int) (A1:Option Addr) (c1:Nat) (l1:List (S27)) (r1:Int) (r2:List Int) (r3:Int) (r4:Int) (w:World) (hr1:Kd.C k27 w A1 l1.length l1) (hc1:l1.length≤c1) (h:qqj.f k a0 l1=some (r1,r2,r3,r4)) :
  Calls Try.prog 59 #[.int .i64 a0,.slice A1 l1.length c1] w fun e w'=>∃ v1_:Value,e=.returned (.agg #[.int .i64 r1,v1_,.int .i64 r3,.int .i64 r4])∧Kd.R (Kd.int .u8) 5 w' w.heap.size (fun _=>True) v1_ r2∧Below w.heap.size w w':=by
 have hu61:=Try.underlying61
 have HR1:=U.mk hr1
 have HC1:=U.mk hc1
 clear hr1 hc1
 have HB:=U.mk (Below.refl w.heap.size w)
 unfold qqj.f at h
 have H:=h
 clear h
 replace H:=jq8.mp H
 obtain⟨t102,A30,H⟩:=H
 try dsimp only at H
 have A3:=U.mk A30
 clear A30
 have HC4:=U.mk H
 clear H
 have heqnil_:=eqlnil
 go_enter Try.func59,Try.ntmps59
 go_upto_region 2 with (first|((with_reducible refine gate_dst (N:=4) rfl ?_);refine box_event ?hg (N:=4) ?hd (cs:=#[.int .i64 0,.slice none 0 0,.int .i64 0,.int .i64 0]) (t:=61) ?hr ?_;(case hd=>rfl);(case hg=>rfl);(case hr=>first|(go_simp;done)|(go_simp;rfl));intro gb101 hg w5 hbox hb;have BK101:=U.mk (hbox);have GW101:=U.mk ((by rw[hg];exact(zj (by solve_by_elim only[HB.out,G,J,qq])):w.heap.size≤gb101));have GE101:=U.mk ((by rw[hg];exact(zj (by solve_by_elim only[HB.out,G,J,qq])):w.heap.size≤gb101));replace HB:=U.mk (zz (by solve_by_elim only[HB.out,G,J,qq]) hb);clear hb hbox hg)|((with_reducible refine jw (f:=36) rfl ?_);refine goesL_ (some 7) rfl rfl Try.func36 (by kernel_rfl) rfl #[.slice A1 l1.length c1] rfl (by(try simp only[jq0,jq1,jq2]);first|done|rfl|(simp only[jq3,jq4];rfl)) ?_;(with_reducible refine(qqq.callsN k _ _ l1 t102 _ ?side1 ?side2 A3.out).mono ?_);(case side1=>solve_by_elim only[(Kd.C_below HR1.out HB.out),Kd.C_alloc,Kd.C_drewN,Kd.C_drew]);(case side2=>exact HC1.out);rintro e w6 ⟨v103,rfl,hn0,ho0,hb⟩;have HN_:=U.mk hn0;clear hn0;refine⟨_,rfl,?_⟩;have HO104:=U.mk (Kd.R_lower ho0 (zj (by solve_by_elim (maxDepth:=20) only[HB.out,G,J,qq,qk,GE101.out])));replace BK101:=U.mk (vx (g:=gb101) (o:=.cells #[.int .i64 0,.slice none 0 0,.int .i64 0,.int .i64 0] 61 (0,0)) (by solve_by_elim only[BK101.out,qw,qx,qv]) hb);replace HB:=U.mk (zz (by solve_by_elim (maxDepth:=20) only[HB.out,G,J,qq,qk,GE101.out]) hb);(try clear hb ho0)))
 (try simp only[Act.put,jq5,jq6,jq7])
 go_cut [14] (fun v14 wc=>∃ (kq:Nat) (x14_3:Bool),v14=.bool x14_3∧U (qqj.j0 kq a0 l1 t102 x14_3=some (r1,r2,r3,r4))∧U (kq≤k)∧U (Kd.R (Kd.int .u8) 5 wc w.heap.size (fun _=>True) v103 t102)∧U (wc.heap[gb101]? = some (.cells #[.int .i64 0,(.slice none 0 0),.int .i64 0,.int .i64 0] 61 (0,0)))∧U (Below w.heap.size w wc))
 case first =>
  have H:=HC4.out
  clear HC4
  replace H:=jq8.mp H
  obtain⟨t105,A70,H⟩:=H
  try dsimp only at H
  have A7:=U.mk A70
  clear A70
  by_cases c8:t105=true
  ·subst c8
   have H1:((nilS.f t102).bind fun t106=>(qqj.j0 k a0 l1 t102 t106))=some (r1,r2,r3,r4):=by rw[if_pos rfl] at H;exact H
   clear H
   have H:=H1
   clear H1
   replace H:=jq8.mp H
   obtain⟨t106,A90,H⟩:=H
   try dsimp only at H
   have A9:=U.mk A90
   clear A90
   have H':=U.mk H
   clear H
   go_wp2_with (first|((with_reducible refine jw (f:=105) rfl ?_);refine goesL_ (some 9) rfl rfl Try.func105 (by kernel_rfl) rfl #[.int .i64 a0] rfl (by(try simp only[jq0,jq1,jq2]);first|done|rfl|(simp only[jq3,jq4];rfl)) ?_;(with_reducible refine(qjq.calls a0 true _ A7.out).mono ?_);rintro e w' ⟨rfl,⟨nd,rfl⟩⟩;refine⟨_,rfl,?_⟩;obtain⟨Ao10,co10,eo10⟩:=Kd.R_slice HO104.out;subst eo10)|(go_at_call 158;(with_reducible refine(nilS.calls _ _ t102 t106 _ ?side1 ?side2 A9.out).mono ?_);(case side1=>solve_by_elim only[(Kd.R_reads' HO104.out).2.2,Kd.C_alloc,Kd.C_drewN,Kd.C_drew]);(case side2=>exact(Kd.R_reads' HO104.out).2.1);rintro e w' ⟨rfl,⟨nd,rfl⟩⟩))
   go_meet
   case rel=>exact⟨_,(t106),(by first|rfl|exact congrArg Value.bool (nil_eq (U.out (by assumption)) (U.out (by assumption)) (U.out (by assumption)))|(simp;done)|(simp[*];done)),H',⟨by first|omega|exact Nat.le_refl _⟩,⟨by(with_reducible repeat(first|apply Kd.zv|apply Kd.zk|apply Kd.zw));exact HO104.out⟩,⟨by(with_reducible repeat(first|refine qw ?_ _|refine qx ?_|refine qv ?_ _));exact BK101.out⟩,⟨by repeat(first|(with_reducible first|exact HB.out|apply G|apply J|apply qq|refine qk ?_ GE101.out)|exact HB.out)⟩⟩
  ·replace c8:=jq9.mpr c8
   subst c8
   have H1:(qqj.j0 k a0 l1 t102 true)=some (r1,r2,r3,r4):=by rw[if_neg (show ¬ (false=true) by decide)] at H;exact H
   clear H
   have H:=H1
   clear H1
   have H':=U.mk H
   clear H
   go_wp2_with (first|((with_reducible refine jw (f:=105) rfl ?_);refine goesL_ (some 9) rfl rfl Try.func105 (by kernel_rfl) rfl #[.int .i64 a0] rfl (by(try simp only[jq0,jq1,jq2]);first|done|rfl|(simp only[jq3,jq4];rfl)) ?_;(with_reducible refine(qjq.calls a0 false _ A7.out).mono ?_);rintro e w' ⟨rfl,⟨nd,rfl⟩⟩;refine⟨_,rfl,?_⟩))
   go_meet
   case rel=>exact⟨_,(true),(by first|rfl|exact congrArg Value.bool (nil_eq (U.out (by assumption)) (U.out (by assumption)) (U.out (by assumption)))|(simp;done)|(simp[*];done)),H',⟨by first|omega|exact Nat.le_refl _⟩,⟨by(with_reducible repeat(first|apply Kd.zv|apply Kd.zk|apply Kd.zw));exact HO104.out⟩,⟨by(with_reducible repeat(first|refine qw ?_ _|refine qx ?_|refine qv ?_ _));exact BK101.out⟩,⟨by repeat(first|(with_reducible first|exact HB.out|apply G|apply J|apply qq|refine qk ?_ GE101.out)|exact HB.out)⟩⟩
 case rest =>
  clear HC4
  try clear c1
  try clear p2
  try clear c3
  try clear c5
  try clear c8
  try clear c10
  obtain⟨kq,x14_3,rfl,HA,HJ3,HO_5,BK101,HB⟩:=hcut
  cases kq with
  | zero=>exact absurd HA.out (by simp[qqj.j0])
  | succ kj3 =>
   have H:=HA.out
   clear HA
   simp only[qqj.j0] at H
   by_cases c11:x14_3=true
   ·subst c11
    have H1:(some (0,([]:List Int),0,0))=some (r1,r2,r3,r4):=by rw[if_pos rfl] at H;exact H
    clear H
    have H:=H1
    clear H1
    simp only[Option.some.injEq,Prod.mk.injEq] at H
    obtain⟨rfl,rfl,rfl,rfl⟩:=H
    have hcz12_0:wc.cell? ⟨gb101,0,none⟩ = some (.int .i64 0):=(qj BK101.out 0).trans rfl
    have hcz12_1:wc.cell? ⟨gb101,1,none⟩ = some (.slice none 0 0):=(qj BK101.out 1).trans rfl
    have hcz12_2:wc.cell? ⟨gb101,2,none⟩ = some (.int .i64 0):=(qj BK101.out 2).trans rfl
    have hcz12_3:wc.cell? ⟨gb101,3,none⟩ = some (.int .i64 0):=(qj BK101.out 3).trans rfl
    have hfz12_0:=qz BK101.out 0
    have hfz12_1:=qz BK101.out 1
    have hfz12_2:=qz BK101.out 2
    have hfz12_3:=qz BK101.out 3
    go_wp2
    refine bodyPost_ret (results_cell_row rfl _ _ gb101 61 #[.int .i64 0,.slice none 0 0,.int .i64 0,.int .i64 0] (0,0) _ rfl (by(with_reducible repeat(first|refine qw ?_ _|refine qx ?_|refine qv ?_ _));refine blk_put (cs:=#[.int .i64 0,.slice none 0 0,.int .i64 0,.int .i64 0]) ?_ 3 _ rfl;(with_reducible repeat(first|refine qw ?_ _|refine qx ?_|refine qv ?_ _));refine blk_put (cs:=#[.int .i64 0,.slice none 0 0,.int .i64 0,.int .i64 0]) ?_ 2 _ rfl;(with_reducible repeat(first|refine qw ?_ _|refine qx ?_|refine qv ?_ _));refine blk_put (cs:=#[.int .i64 0,.slice none 0 0,.int .i64 0,.int .i64 0]) ?_ 1 _ rfl;(with_reducible repeat(first|refine qw ?_ _|refine qx ?_|refine qv ?_ _));refine blk_put (cs:=#[.int .i64 0,.slice none 0 0,.int .i64 0,.int .i64 0]) ?_ 0 _ rfl;(with_reducible repeat(first|refine qw ?_ _|refine qx ?_|refine qv ?_ _));exact BK101.out) Try.underlying61 rfl (by kernel_rfl)) rfl ?_
    exact⟨_,by first|rfl|(simp[*,jv,jk] <;> rfl),by first|exact Kd.R_nil _ _ _ _ _|exact Kd.N_nil _ _ _ _ _|exact Kd.V_nil _ _ _ _ _|exact Kd.Q_nil _ _ _ _ _|exact Kd.S_nil _ _ _ _ _,by repeat(first|(with_reducible first|exact HB.out|apply G|apply J|apply qq|refine qk ?_ GE101.out)|exact HB.out)⟩
   ·replace c11:=jq9.mpr c11
    subst c11
    have H1:((qzz.f (l1.length:Int) t102).bind fun t107=>((qqz.f kj3 a0 t107).bind fun bt110=>(some ((l1.length:Int),t102,bt110.1,bt110.2))))=some (r1,r2,r3,r4):=by rw[if_neg (show ¬ (false=true) by decide)] at H;exact H
    clear H
    have H:=H1
    clear H1
    replace H:=jq8.mp H
    obtain⟨t107,A130,H⟩:=H
    try dsimp only at H
    have A13:=U.mk A130
    clear A130
    replace H:=jq8.mp H
    obtain⟨⟨t110,t111⟩,A140,H⟩:=H
    try dsimp only at H
    have A14:=U.mk A140
    clear A140
    simp only[Option.some.injEq,Prod.mk.injEq] at H
    obtain⟨rfl,rfl,rfl,rfl⟩:=H
    obtain⟨Ao15,co15,eo15⟩:=Kd.R_slice HO_5.out
    subst eo15
    go_wp2_with (first|((with_reducible refine jw (f:=101) rfl ?_);refine goesL_ (some 23) rfl rfl Try.func101 (by kernel_rfl) rfl #[.int .i64 (l1.length:Int),.slice Ao15 t102.length co15] rfl (by(try simp only[jq0,jq1,jq2]);first|done|rfl|(simp only[jq3,jq4];rfl)) ?_;(with_reducible refine(qzz.calls (l1.length:Int) _ _ t102 t107 _ ?side1 ?side2 A13.out).mono ?_);(case side1=>solve_by_elim only[(Kd.R_reads' HO_5.out).2.2,Kd.C_alloc,Kd.C_drewN,Kd.C_drew]);(case side2=>exact(Kd.R_reads' HO_5.out).2.1);rintro e w16 ⟨v108,rfl,ho0,hb⟩;refine⟨_,rfl,?_⟩;have HO109:=U.mk (Kd.R_lower (Kd.R_new' ho0 (Kd.R_lt (by solve_by_elim only[HO_5.out,Kd.zv,Kd.zk,Kd.zw]))) (zj (by solve_by_elim (maxDepth:=20) only[HB.out,G,J,qq,qk,GE101.out])));replace HO_5:=U.mk (Kd.R_elder' (by solve_by_elim only[HO_5.out,Kd.zv,Kd.zk,Kd.zw]) (Kd.R_base ho0) hb);replace BK101:=U.mk (vx (g:=gb101) (o:=.cells #[.int .i64 0,.slice none 0 0,.int .i64 0,.int .i64 0] 61 (0,0)) (by solve_by_elim only[BK101.out,qw,qx,qv]) hb);replace HB:=U.mk (zz (by solve_by_elim (maxDepth:=20) only[HB.out,G,J,qq,qk,GE101.out]) hb);(try clear hb ho0);obtain⟨Ao17,co17,eo17⟩:=Kd.R_slice HO109.out;subst eo17)|((with_reducible refine jw (f:=106) rfl ?_);refine goesL_ (some 24) rfl rfl Try.func106 (by kernel_rfl) rfl #[.int .i64 a0,.slice Ao17 t107.length co17] rfl (by(try simp only[jq0,jq1,jq2]);first|done|rfl|(simp only[jq3,jq4];rfl)) ?_;(with_reducible refine(qqz.calls kj3 a0 _ _ t107 t110 t111 _ ?side1 ?side2 A14.out).mono ?_);(case side1=>solve_by_elim only[(Kd.R_reads' HO109.out).2.2,Kd.C_alloc,Kd.C_drewN,Kd.C_drew]);(case side2=>exact(Kd.R_reads' HO109.out).2.1);rintro e w18 ⟨rfl,hb⟩;refine⟨_,rfl,?_⟩;replace HO_5:=U.mk (Kd.R_below (by solve_by_elim only[HO_5.out,Kd.zv,Kd.zk,Kd.zw]) hb);replace HO109:=U.mk (Kd.R_below (by solve_by_elim only[HO109.out,Kd.zv,Kd.zk,Kd.zw]) hb);replace BK101:=U.mk (vx (g:=gb101) (o:=.cells #[.int .i64 0,.slice none 0 0,.int .i64 0,.int .i64 0] 61 (0,0)) (by solve_by_elim only[BK101.out,qw,qx,qv]) hb);replace HB:=U.mk (zz (by solve_by_elim (maxDepth:=20) only[HB.out,G,J,qq,qk,GE101.out]) hb);(try clear hb);have hcz19_0:w18.cell? ⟨gb101,0,none⟩ = some (.int .i64 0):=(qj BK101.out 0).trans rfl;have hcz19_1:w18.cell? ⟨gb101,1,none⟩ = some (.slice none 0 0):=(qj BK101.out 1).trans rfl;have hcz19_2:w18.cell? ⟨gb101,2,none⟩ = some (.int .i64 0):=(qj BK101.out 2).trans rfl;have hcz19_3:w18.cell? ⟨gb101,3,none⟩ = some (.int .i64 0):=(qj BK101.out 3).trans rfl;have hfz19_0:=qz BK101.out 0;have hfz19_1:=qz BK101.out 1;have hfz19_2:=qz BK101.out 2;have hfz19_3:=qz BK101.out 3))
    refine bodyPost_ret (results_cell_row rfl _ _ gb101 61 #[.int .i64 (l1.length:Int),.slice Ao15 t102.length co15,.int .i64 t110,.int .i64 t111] (0,0) _ rfl (by(with_reducible repeat(first|refine qw ?_ _|refine qx ?_|refine qv ?_ _));refine blk_put (cs:=#[.int .i64 (l1.length:Int),.slice Ao15 t102.length co15,.int .i64 t110,.int .i64 0]) ?_ 3 _ rfl;(with_reducible repeat(first|refine qw ?_ _|refine qx ?_|refine qv ?_ _));refine blk_put (cs:=#[.int .i64 (l1.length:Int),.slice Ao15 t102.length co15,.int .i64 0,.int .i64 0]) ?_ 2 _ rfl;(with_reducible repeat(first|refine qw ?_ _|refine qx ?_|refine qv ?_ _));refine blk_put (cs:=#[.int .i64 (l1.length:Int),.slice none 0 0,.int .i64 0,.int .i64 0]) ?_ 1 _ rfl;(with_reducible repeat(first|refine qw ?_ _|refine qx ?_|refine qv ?_ _));refine blk_put (cs:=#[.int .i64 0,.slice none 0 0,.int .i64 0,.int .i64 0]) ?_ 0 _ rfl;(with_reducible repeat(first|refine qw ?_ _|refine qx ?_|refine qv ?_ _));exact BK101.out) Try.underlying61 rfl (by kernel_rfl)) rfl ?_
    exact⟨_,by first|rfl|(simp[*,jv,jk] <;> rfl),by(with_reducible repeat(first|apply Kd.zv|apply Kd.zk|apply Kd.zw));exact Kd.R_mono (Kd.R_far (p:=⟨gb101,3,none⟩) (Kd.R_far (p:=⟨gb101,2,none⟩) (Kd.R_far (p:=⟨gb101,1,none⟩) (Kd.R_far (p:=⟨gb101,0,none⟩) (Kd.R_types HO_5.out BK101.out (by decide)) (fun _ hk=>hk.2) (.int .i64 (l1.length:Int))) (fun _ hk=>hk.2) (.slice Ao15 t102.length co15)) (fun _ hk=>hk.2) (.int .i64 t110)) (fun _ hk=>hk.2) (.int .i64 t111)) (fun _ hk=>trivial),by repeat(first|(with_reducible first|exact HB.out|apply G|apply J|apply qq|refine qk ?_ GE101.out)|exact HB.out)⟩
end Go.Proofs.Ytipdkendfcopiaa.Pr
namespace Go.Proofs.Ytipdkendfcopiaa.Pr
open Go.RowKit Go.Proofs.YtipdkendfcopiaaW.PrintWords Go.Proofs.YtipdkendfcopiaaW.PrintLast Go.Proofs.YtipdkendfcopiaaW.PrintMore
attribute [local go_sem] max2_int min2_int max_two min_two max_three min_three max_four min_four
set_option linter.unusedVariables false
set_option linter.unusedSimpArgs false
def qjk.f (l0:List Int) (l1:List Int):Option (Bool):=some ((strOfNums l0).toList == (strOfNums l1).toList)
theorem qjk.calls (A0:Option Addr) (c0:Nat) (l0:List Int) (A1:Option Addr) (c1:Nat) (l1:List Int) (r:Bool) (w:World) (hr0:Kd.C (Kd.int .u8) w A0 l0.length l0) (hc0:l0.length≤c0) (hr1:Kd.C (Kd.int .u8) w A1 l1.length l1) (hc1:l1.length≤c1) (h:qjk.f l0 l1=some r) :
  Calls Try.prog 63 #[.slice A0 l0.length c0,.slice A1 l1.length c1] w fun e w'=>e=.returned (.bool r)∧Drawn0 w w':=by
 have HR0:=U.mk hr0
 have HC0:=U.mk hc0
 clear hr0 hc0
 have HR1:=U.mk hr1
 have HC1:=U.mk hc1
 clear hr1 hc1
 have H:(some ((strOfNums l0).toList == (strOfNums l1).toList))=some r:=h
 clear h
 obtain rfl:=Option.some.inj H
 have hcv3:=Kd.C_string (P:=Try.prog) (A:=A0) (c:=c0) Try.underlying22 Try.underlying5 Try.underlying9 HR0.out
 have hcv4:=Kd.C_string (P:=Try.prog) (A:=A1) (c:=c1) Try.underlying22 Try.underlying5 Try.underlying9 HR1.out
 go_enter Try.func63,Try.ntmps63
 go_wp2
 go_ret
 exact⟨by first|rfl|(simp;done)|(simp[*];done),by repeat(first|exact Drawn0.refl _|apply Drawn0.step)⟩
end Go.Proofs.Ytipdkendfcopiaa.Pr
namespace Go.Proofs.Ytipdkendfcopiaa.Pr
open Go.RowKit Go.Proofs.YtipdkendfcopiaaW.PrintWords Go.Proofs.YtipdkendfcopiaaW.PrintLast Go.Proofs.YtipdkendfcopiaaW.PrintMore
attribute [local go_sem] max2_int min2_int max_two min_two max_three min_three max_four min_four
set_option linter.unusedVariables false
set_option linter.unusedSimpArgs false
def wj (w0 W:World) (g:Nat) (f0:List Int) (f1:Int) (f2:Int):Prop:=∃ A0 c0,W.heap[g]? = some (.cells #[.slice A0 f0.length c0,.int .i64 f1,.int .u64 f2] 107 (0,0))∧w0.heap.size≤g∧Kd.C (Kd.int .u8) w0 A0 f0.length f0
theorem wj.grown {w0 W:World} {g:Nat} {f0:List Int} {f1:Int} {f2:Int} {W1:World} {row:Option Nat} (h:wj w0 W g f0 f1 f2) (hw:W.grownBy W1 row) (hne:some g≠row):wj w0 W1 g f0 f1 f2:=by
 obtain⟨A0,c0,hb,hg,hr0⟩:=h
 exact⟨A0,c0,blk_grown hb hw hne,hg,hr0⟩
theorem wj.own_neN {w0 W:World} {g:Nat} {f0:List Int} {f1:Int} {f2:Int} {α:Type} {d:Kd α} {e:Nat} {base:Nat} {ok:Nat→Prop} {v:Value} {xs:List α} (h:wj w0 W g f0 f1 f2) (ho:Kd.N d e W base ok v xs) (ht:e≠107):some g≠v.ownBlock:=by
 obtain⟨A0,c0,hb,hg,hr0⟩:=h
 exact Kd.N_ne ho hb ht
theorem wj.fresh {w0 W:World} {g:Nat} {f0:List Int} {f1:Int} {f2:Int} (h:wj w0 W g f0 f1 f2):∀ k,W.heap.size≤k→k≠g:=by
 obtain⟨A0,c0,hb,hg,hr0⟩:=h
 exact Kd.freshB hb
theorem wj.kept {w0 W:World} {g:Nat} {f0:List Int} {f1:Int} {f2:Int} {W1:World} {S:Nat→Prop} (h:wj w0 W g f0 f1 f2) (hk:kj W W1 S) (hne:¬ S g):wj w0 W1 g f0 f1 f2:=by
 obtain⟨A0,c0,hb,hg,hr0⟩:=h
 exact⟨A0,c0,blk_kept hb hk hne,hg,hr0⟩
theorem wj.below {w0 W:World} {g:Nat} {f0:List Int} {f1:Int} {f2:Int} {W1:World} (h:wj w0 W g f0 f1 f2) (hw:Below W.heap.size W W1):wj w0 W1 g f0 f1 f2:=h.grown (grown_of_below hw none) (by simp)
theorem wj.alloc {w0 W:World} {g:Nat} {f0:List Int} {f1:Int} {f2:Int} (h:wj w0 W g f0 f1 f2) (o:Obj):wj w0 (W.alloc o) g f0 f1 f2:=h.below (G (Below.refl _ _) o)
theorem wj.drewN {w0 W:World} {g:Nat} {f0:List Int} {f1:Int} {f2:Int} (h:wj w0 W g f0 f1 f2) (m:Nat):wj w0 (W.drewN m) g f0 f1 f2:=h
theorem wj.drew {w0 W:World} {g:Nat} {f0:List Int} {f1:Int} {f2:Int} (h:wj w0 W g f0 f1 f2):wj w0 W.drew g f0 f1 f2:=h
theorem wj.at_ {w0 W:World} {g:Nat} {f0:List Int} {f1:Int} {f2:Int} {w':World} {m:Nat} (hq:W.drewN m=w') (h:wj w0 W g f0 f1 f2):wj w0 w' g f0 f1 f2:=by subst hq;exact wj.drewN h m
theorem wj.apart {w0 W:World} {g:Nat} {f0:List Int} {f1:Int} {f2:Int} {α:Type} {d:Kd α} {e:Nat} {base:Nat} {ok:Nat→Prop} {v:Value} {xs:List α} (h:wj w0 W g f0 f1 f2) (ho:d.R e W base ok v xs) (ht:∀ q,q ∈ e :: d.E→q≠107):d.R e W base (fun k=>ok k∧k≠g) v xs:=by
 obtain⟨A0,c0,hb,hg,hr0⟩:=h
 exact Kd.R_types ho hb ht
theorem wj.own_ne {w0 W:World} {g:Nat} {f0:List Int} {f1:Int} {f2:Int} {α:Type} {d:Kd α} {e:Nat} {base:Nat} {ok:Nat→Prop} {v:Value} {xs:List α} (h:wj w0 W g f0 f1 f2) (ho:d.R e W base ok v xs) (ht:e≠107):some g≠v.ownBlock:=by
 obtain⟨A0,c0,hb,hg,hr0⟩:=h
 exact Kd.R_ne ho hb ht
theorem wj.lt {w0 W:World} {g:Nat} {f0:List Int} {f1:Int} {f2:Int} (h:wj w0 W g f0 f1 f2):g < W.heap.size:=by
 obtain⟨A0,c0,hb,hg,hr0⟩:=h
 exact blk_lt hb
theorem wj.ge {w0 W:World} {g:Nat} {f0:List Int} {f1:Int} {f2:Int} (h:wj w0 W g f0 f1 f2):w0.heap.size≤g:=by
 obtain⟨A0,c0,hb,hg,hr0⟩:=h
 exact hg
theorem wj.ne_blk {w0 W:World} {g:Nat} {f0:List Int} {f1:Int} {f2:Int} {a:Nat} {cs:Array Value} {t:TypeId} {fr:Nat × Nat} (h:wj w0 W g f0 f1 f2) (hb2:W.heap[a]? = some (.cells cs t fr)) (ht:t≠107):g≠a:=by
 obtain⟨A0,c0,hb,hg,hr0⟩:=h
 rintro rfl
 rw[hb] at hb2
 injection hb2 with hb2
 injection hb2 with _ ht2
 exact ht ht2.symm
theorem wj.far {w0 W:World} {g:Nat} {f0:List Int} {f1:Int} {f2:Int} {p:Addr} (h:wj w0 W g f0 f1 f2) (hne:g≠p.block) (u:Value):wj w0 (W.setCell p u) g f0 f1 f2:=by
 obtain⟨A0,c0,hb,hg,hr0⟩:=h
 exact⟨A0,c0,blk_far hb hne u,hg,hr0⟩
theorem cellS107_0 {W:World} {g:Nat} {A0:Option Addr} {c0:Nat} {f0:List Int} {f1:Int} {f2:Int} (h:W.heap[g]? = some (.cells #[.slice A0 f0.length c0,.int .i64 f1,.int .u64 f2] 107 (0,0))):W.cell? ⟨g,0,none⟩ = some (.slice A0 f0.length c0):=(qj h 0).trans rfl
theorem cellS107_1 {W:World} {g:Nat} {A0:Option Addr} {c0:Nat} {f0:List Int} {f1:Int} {f2:Int} (h:W.heap[g]? = some (.cells #[.slice A0 f0.length c0,.int .i64 f1,.int .u64 f2] 107 (0,0))):W.cell? ⟨g,1,none⟩ = some (.int .i64 f1):=(qj h 1).trans rfl
theorem wj.set_1 {w0 W:World} {g:Nat} {f0:List Int} {f1:Int} {f2:Int} (h:wj w0 W g f0 f1 f2) (x:Int):wj w0 (W.setCell ⟨g,1,none⟩ (.int .i64 x)) g f0 x f2:=by
 obtain⟨A0,c0,hb,hg,hr0⟩:=h
 exact⟨A0,c0,by simpa using blk_set hb 1 (.int .i64 x),hg,hr0⟩
theorem cellS107_2 {W:World} {g:Nat} {A0:Option Addr} {c0:Nat} {f0:List Int} {f1:Int} {f2:Int} (h:W.heap[g]? = some (.cells #[.slice A0 f0.length c0,.int .i64 f1,.int .u64 f2] 107 (0,0))):W.cell? ⟨g,2,none⟩ = some (.int .u64 f2):=(qj h 2).trans rfl
theorem wj.set_2 {w0 W:World} {g:Nat} {f0:List Int} {f1:Int} {f2:Int} (h:wj w0 W g f0 f1 f2) (x:Int):wj w0 (W.setCell ⟨g,2,none⟩ (.int .u64 x)) g f0 f1 x:=by
 obtain⟨A0,c0,hb,hg,hr0⟩:=h
 exact⟨A0,c0,by simpa using blk_set hb 2 (.int .u64 x),hg,hr0⟩
theorem wj.new (w0 W:World) (A0:Option Addr) (c0:Nat) (f0:List Int) (f1:Int) (f2:Int) (hB:Below w0.heap.size w0 W) (hr0:Kd.C (Kd.int .u8) w0 A0 f0.length f0):wj w0 (W.alloc (.cells #[.slice A0 f0.length c0,.int .i64 f1,.int .u64 f2] 107)) W.heap.size f0 f1 f2:=⟨A0,c0,by simpa using heap_alloc_new W _,hB.size,hr0⟩
def newCur.f (l0_0:List Int) (a0_1:Int) (a0_2:Int):Option (List Int × Int × Int):=some (l0_0,a0_1,a0_2)
theorem newCur.calls (A0_0:Option Addr) (c0_0:Nat) (l0_0:List Int) (a0_1:Int) (a0_2:Int) (r1:List Int) (r2:Int) (r3:Int) (w0 w:World) (hB:Below w0.heap.size w0 w) (hr0_0:Kd.C (Kd.int .u8) w0 A0_0 l0_0.length l0_0) (hc0_0:l0_0.length≤c0_0) (h:newCur.f l0_0 a0_1 a0_2=some (r1,r2,r3)) :
  BoxCalls 107 #[.slice A0_0 l0_0.length c0_0,.int .i64 a0_1,.int .u64 a0_2] w fun e w'=>∃ g_:Nat,e=.returned (.pointer (some ⟨g_,0,none⟩))∧wj w0 w' g_ r1 r2 r3∧Below w0.heap.size w0 w'∧Below w.heap.size w w':=by
 unfold newCur.f at h
 simp only[Option.some.injEq,Prod.mk.injEq] at h
 obtain⟨rfl,rfl,rfl⟩:=h
 exact⟨_,rfl,wj.new w0 w A0_0 c0_0 l0_0 a0_1 a0_2 hB hr0_0,hB.alloc hB.size _,G (Below.refl _ _) _⟩
end Go.Proofs.Ytipdkendfcopiaa.Pr
namespace Go.Proofs.Ytipdkendfcopiaa.Pr
open Go.RowKit Go.Proofs.YtipdkendfcopiaaW.PrintWords Go.Proofs.YtipdkendfcopiaaW.PrintLast Go.Proofs.YtipdkendfcopiaaW.PrintMore
attribute [local go_sem] max2_int min2_int max_two min_two max_three min_three max_four min_four
set_option linter.unusedVariables false
set_option linter.unusedSimpArgs false
def qvk.f (s0_0:List Int) (s0_1:Int) (s0_2:Int):Option (Int × Int × Int):=if s0_1 < (s0_0.length:Int) then(if 0≤s0_1 then(if (wrap64 (s0_1 + 1))≤(s0_0.length:Int) then(some (wrap64 (rd s0_0 s0_1),wrap64 (s0_1 + 1),IntKind.u64.wrap ((IntKind.u64.wrap ((IntKind.u64.wrap (s0_2 * 6364136223846793005)) + (IntKind.u64.wrap (wrap64 (rd s0_0 s0_1))))) + 1442695040888963407))) else(some (wrap64 (Go.bits .and .u64 ((IntKind.u64.wrap ((IntKind.u64.wrap ((IntKind.u64.wrap (s0_2 * 6364136223846793005)) + (IntKind.u64.wrap (wrap64 (rd s0_0 s0_1))))) + 1442695040888963407)) / 1099511627776) 255),wrap64 (s0_1 + 1),IntKind.u64.wrap ((IntKind.u64.wrap ((IntKind.u64.wrap (s0_2 * 6364136223846793005)) + (IntKind.u64.wrap (wrap64 (rd s0_0 s0_1))))) + 1442695040888963407)))) else(none)) else(if (wrap64 (s0_1 + 1))≤(s0_0.length:Int) then(some (0,wrap64 (s0_1 + 1),IntKind.u64.wrap ((IntKind.u64.wrap (IntKind.u64.wrap (s0_2 * 6364136223846793005))) + 1442695040888963407))) else(some (wrap64 (Go.bits .and .u64 ((IntKind.u64.wrap ((IntKind.u64.wrap (IntKind.u64.wrap (s0_2 * 6364136223846793005))) + 1442695040888963407)) / 1099511627776) 255),wrap64 (s0_1 + 1),IntKind.u64.wrap ((IntKind.u64.wrap (IntKind.u64.wrap (s0_2 * 6364136223846793005))) + 1442695040888963407))))
theorem qvk.calls (g:Nat) (s0_0:List Int) (s0_1:Int) (s0_2:Int) (r1:Int) (r2:Int) (r3:Int) (w0 w:World) (hI:wj w0 w g s0_0 s0_1 s0_2) (hB:Below w0.heap.size w0 w) (h:qvk.f s0_0 s0_1 s0_2=some (r1,r2,r3)) :
  Calls Try.prog 133 #[.pointer (some ⟨g,0,none⟩)] w fun e w'=>e=.returned (.int .i64 r1)∧wj w0 w' g s0_0 r2 r3∧Below w0.heap.size w0 w'∧zq w w' g none:=by
 have HI0:=U.mk hI
 have HK:=U.mk (zq.refl w g none)
 have HL:=U.mk hB.size
 clear hI
 have HW0:=U.mk hB.size
 have HB:=U.mk hB
 clear hB
 unfold qvk.f at h
 have H:=h
 clear h
 by_cases c2:s0_1 < (s0_0.length:Int)
 ·rw[if_pos c2] at H
  have c2b0:decide (s0_1 < (s0_0.length:Int))=true:=decide_eq_true c2
  clear c2
  by_cases c3 : 0≤s0_1
  ·rw[if_pos c3] at H
   have c3b0:decide (0≤s0_1)=true:=decide_eq_true c3
   clear c3
   by_cases c4:(wrap64 (s0_1 + 1))≤(s0_0.length:Int)
   ·rw[if_pos c4] at H
    have c4b0:decide ((wrap64 (s0_1 + 1))≤(s0_0.length:Int))=true:=decide_eq_true c4
    clear c4
    simp only[Option.some.injEq,Prod.mk.injEq] at H
    obtain⟨rfl,rfl,rfl⟩:=H
    obtain⟨ASz5_0,cSz5_0,HGz5,hgz5,HSz5_0⟩:=HI0.out
    have hcz5_0:=cellS107_0 HGz5
    have hcz5_1:=cellS107_1 HGz5
    have hcz5_2:=cellS107_2 HGz5
    have hfz5_1:=qz HGz5 1
    have hfz5_2:=qz HGz5 2
    clear HGz5 hgz5
    have p101 : 0≤(s0_1:Int):=of_decide_eq_true (by assumption)
    have q101:s0_1 < (s0_0.length:Int):=of_decide_eq_true (by assumption)
    obtain⟨ad101,e101,hx101_0⟩:=Kd.at_int HSz5_0 s0_1 p101 q101
    cases e101
    replace hx101_0:=pw_cell_below HB.out hx101_0
    replace p101:=eq_true p101
    replace q101:=eq_true q101
    go_enter Try.func133,Try.ntmps133
    go_wp2
    repeat(go_quiet (fail);try go_wp2)
    go_ret
    exact⟨by first|rfl|(simp[*,jv,jk] <;> rfl),by repeat(first|(with_reducible first|exact HI0.out|apply wj.alloc|apply wj.drewN|apply wj.drew|apply wj.set_1|apply wj.set_2)|exact HI0.out),by repeat(first|(with_reducible first|exact HB.out|apply G|apply J|apply qq|refine qk ?_ (wj.ge HI0.out))|exact HB.out),by repeat(first|(with_reducible first|exact HK.out|apply zq.set_|apply zx|apply jz|apply jq)|exact HK.out)⟩
   ·rw[if_neg c4] at H
    have c4b0:decide ((wrap64 (s0_1 + 1))≤(s0_0.length:Int))=false:=decide_eq_false c4
    clear c4
    simp only[Option.some.injEq,Prod.mk.injEq] at H
    obtain⟨rfl,rfl,rfl⟩:=H
    obtain⟨ASz6_0,cSz6_0,HGz6,hgz6,HSz6_0⟩:=HI0.out
    have hcz6_0:=cellS107_0 HGz6
    have hcz6_1:=cellS107_1 HGz6
    have hcz6_2:=cellS107_2 HGz6
    have hfz6_1:=qz HGz6 1
    have hfz6_2:=qz HGz6 2
    clear HGz6 hgz6
    have p101 : 0≤(s0_1:Int):=of_decide_eq_true (by assumption)
    have q101:s0_1 < (s0_0.length:Int):=of_decide_eq_true (by assumption)
    obtain⟨ad101,e101,hx101_0⟩:=Kd.at_int HSz6_0 s0_1 p101 q101
    cases e101
    replace hx101_0:=pw_cell_below HB.out hx101_0
    replace p101:=eq_true p101
    replace q101:=eq_true q101
    go_enter Try.func133,Try.ntmps133
    go_wp2
    repeat(go_quiet (fail);try go_wp2)
    go_ret
    exact⟨by first|rfl|(simp[*,jv,jk] <;> rfl),by repeat(first|(with_reducible first|exact HI0.out|apply wj.alloc|apply wj.drewN|apply wj.drew|apply wj.set_1|apply wj.set_2)|exact HI0.out),by repeat(first|(with_reducible first|exact HB.out|apply G|apply J|apply qq|refine qk ?_ (wj.ge HI0.out))|exact HB.out),by repeat(first|(with_reducible first|exact HK.out|apply zq.set_|apply zx|apply jz|apply jq)|exact HK.out)⟩
  ·rw[if_neg c3] at H
   exact absurd H (by simp)
 ·rw[if_neg c2] at H
  have c2b0:decide (s0_1 < (s0_0.length:Int))=false:=decide_eq_false c2
  clear c2
  by_cases c7:(wrap64 (s0_1 + 1))≤(s0_0.length:Int)
  ·rw[if_pos c7] at H
   have c7b0:decide ((wrap64 (s0_1 + 1))≤(s0_0.length:Int))=true:=decide_eq_true c7
   clear c7
   simp only[Option.some.injEq,Prod.mk.injEq] at H
   obtain⟨rfl,rfl,rfl⟩:=H
   obtain⟨ASz8_0,cSz8_0,HGz8,hgz8,HSz8_0⟩:=HI0.out
   have hcz8_0:=cellS107_0 HGz8
   have hcz8_1:=cellS107_1 HGz8
   have hcz8_2:=cellS107_2 HGz8
   have hfz8_1:=qz HGz8 1
   have hfz8_2:=qz HGz8 2
   clear HGz8 hgz8
   go_enter Try.func133,Try.ntmps133
   go_wp2
   repeat(go_quiet (fail);try go_wp2)
   go_ret
   exact⟨by first|rfl|(simp[*,jv,jk] <;> rfl),by repeat(first|(with_reducible first|exact HI0.out|apply wj.alloc|apply wj.drewN|apply wj.drew|apply wj.set_1|apply wj.set_2)|exact HI0.out),by repeat(first|(with_reducible first|exact HB.out|apply G|apply J|apply qq|refine qk ?_ (wj.ge HI0.out))|exact HB.out),by repeat(first|(with_reducible first|exact HK.out|apply zq.set_|apply zx|apply jz|apply jq)|exact HK.out)⟩
  ·rw[if_neg c7] at H
   have c7b0:decide ((wrap64 (s0_1 + 1))≤(s0_0.length:Int))=false:=decide_eq_false c7
   clear c7
   simp only[Option.some.injEq,Prod.mk.injEq] at H
   obtain⟨rfl,rfl,rfl⟩:=H
   obtain⟨ASz9_0,cSz9_0,HGz9,hgz9,HSz9_0⟩:=HI0.out
   have hcz9_0:=cellS107_0 HGz9
   have hcz9_1:=cellS107_1 HGz9
   have hcz9_2:=cellS107_2 HGz9
   have hfz9_1:=qz HGz9 1
   have hfz9_2:=qz HGz9 2
   clear HGz9 hgz9
   go_enter Try.func133,Try.ntmps133
   go_wp2
   repeat(go_quiet (fail);try go_wp2)
   go_ret
   exact⟨by first|rfl|(simp[*,jv,jk] <;> rfl),by repeat(first|(with_reducible first|exact HI0.out|apply wj.alloc|apply wj.drewN|apply wj.drew|apply wj.set_1|apply wj.set_2)|exact HI0.out),by repeat(first|(with_reducible first|exact HB.out|apply G|apply J|apply qq|refine qk ?_ (wj.ge HI0.out))|exact HB.out),by repeat(first|(with_reducible first|exact HK.out|apply zq.set_|apply zx|apply jz|apply jq)|exact HK.out)⟩
end Go.Proofs.Ytipdkendfcopiaa.Pr
namespace Go.Proofs.Ytipdkendfcopiaa.Pr
open Go.RowKit Go.Proofs.YtipdkendfcopiaaW.PrintWords Go.Proofs.YtipdkendfcopiaaW.PrintLast Go.Proofs.YtipdkendfcopiaaW.PrintMore
attribute [local go_sem] max2_int min2_int max_two min_two max_three min_three max_four min_four
set_option linter.unusedVariables false
set_option linter.unusedSimpArgs false
def qwq.f (s0_0:List Int) (s0_1:Int) (s0_2:Int) (a1:Int):Option (Int × Int × Int):=if a1≤1 then(some (0,s0_1,s0_2)) else((qvk.f s0_0 s0_1 s0_2).bind fun bt101=>(if a1 > 200 then((qvk.f s0_0 bt101.2.1 bt101.2.2).bind fun bt104=>(if a1=0 then(none) else(some (Int.tmod (wrap64 ((wrap64 (bt101.1 * 256)) + bt104.1)) a1,bt104.2.1,bt104.2.2)))) else(if a1=0 then(none) else(some (Int.tmod bt101.1 a1,bt101.2.1,bt101.2.2)))))
theorem qwq.calls (g:Nat) (s0_0:List Int) (s0_1:Int) (s0_2:Int) (a1:Int) (r1:Int) (r2:Int) (r3:Int) (w0 w:World) (hI:wj w0 w g s0_0 s0_1 s0_2) (hB:Below w0.heap.size w0 w) (h:qwq.f s0_0 s0_1 s0_2 a1=some (r1,r2,r3)) :
  Calls Try.prog 109 #[.pointer (some ⟨g,0,none⟩),.int .i64 a1] w fun e w'=>e=.returned (.int .i64 r1)∧wj w0 w' g s0_0 r2 r3∧Below w0.heap.size w0 w'∧zq w w' g none:=by
 have HI0:=U.mk hI
 have HK:=U.mk (zq.refl w g none)
 have HL:=U.mk hB.size
 clear hI
 have HW0:=U.mk hB.size
 have HB:=U.mk hB
 clear hB
 unfold qwq.f at h
 have H:=h
 clear h
 by_cases c3:a1≤1
 ·rw[if_pos c3] at H
  have c3b0:decide (a1≤1)=true:=decide_eq_true c3
  clear c3
  simp only[Option.some.injEq,Prod.mk.injEq] at H
  obtain⟨rfl,rfl,rfl⟩:=H
  go_enter Try.func109,Try.ntmps109
  go_wp2
  go_ret
  exact⟨by first|rfl|(simp[*,jv,jk] <;> rfl),by repeat(first|(with_reducible first|exact HI0.out|apply wj.alloc|apply wj.drewN|apply wj.drew|apply wj.set_1|apply wj.set_2)|exact HI0.out),by repeat(first|(with_reducible first|exact HB.out|apply G|apply J|apply qq|refine qk ?_ (wj.ge HI0.out))|exact HB.out),by repeat(first|(with_reducible first|exact HK.out|apply zq.set_|apply zx|apply jz|apply jq)|exact HK.out)⟩
 ·rw[if_neg c3] at H
  have c3b0:decide (a1≤1)=false:=decide_eq_false c3
  clear c3
  replace H:=jq8.mp H
  obtain⟨⟨t101,t102,t103⟩,A40,H⟩:=H
  try dsimp only at H
  have A4:=U.mk A40
  clear A40
  by_cases c5:a1 > 200
  ·rw[if_pos c5] at H
   have c5b0:decide (200 < a1)=true:=decide_eq_true c5
   clear c5
   replace H:=jq8.mp H
   obtain⟨⟨t104,t105,t106⟩,A60,H⟩:=H
   try dsimp only at H
   have A6:=U.mk A60
   clear A60
   by_cases c7:a1=0
   ·rw[if_pos c7] at H
    exact absurd H (by simp)
   ·rw[if_neg c7] at H
    have c7b0:(a1 == 0)=false:=beq_eq_false_iff_ne.mpr c7
    have c7b1:(a1 != 0)=true:=bne_iff_ne.mpr c7
    simp only[Option.some.injEq,Prod.mk.injEq] at H
    obtain⟨rfl,rfl,rfl⟩:=H
    go_enter Try.func109,Try.ntmps109
    go_wp2_with (first|((with_reducible refine jw (f:=133) rfl ?_);refine goesL_ (some 9) rfl rfl Try.func133 (by kernel_rfl) rfl #[.pointer (some ⟨g,0,none⟩)] rfl (by(try simp only[jq0,jq1,jq2]);first|done|rfl|(simp only[jq3,jq4];rfl)) ?_;(with_reducible refine(qvk.calls g s0_0 s0_1 s0_2 t101 t102 t103 w0 _ ?side1 ?side2 A4.out).mono ?_);(case side1=>repeat(first|(with_reducible first|exact HI0.out|apply wj.alloc|apply wj.drewN|apply wj.drew|apply wj.set_1|apply wj.set_2)|exact HI0.out));(case side2=>repeat(first|(with_reducible first|exact HB.out|apply G|apply J|apply qq|refine qk ?_ (wj.ge HI0.out))|exact HB.out));rintro e w8 ⟨rfl,hi,hb,hk⟩;refine⟨_,rfl,?_⟩;replace HK:=U.mk (zq.trans (by solve_by_elim (maxDepth:=20) only[HK.out,zq.set_,zx,jz,jq]) hk (.inl rfl));replace HB:=U.mk (hb);replace HI0:=U.mk (hi);(try clear hb hk hi))|((with_reducible refine jw (f:=133) rfl ?_);refine goesL_ (some 15) rfl rfl Try.func133 (by kernel_rfl) rfl #[.pointer (some ⟨g,0,none⟩)] rfl (by(try simp only[jq0,jq1,jq2]);first|done|rfl|(simp only[jq3,jq4];rfl)) ?_;(with_reducible refine(qvk.calls g s0_0 t102 t103 t104 t105 t106 w0 _ ?side1 ?side2 A6.out).mono ?_);(case side1=>repeat(first|(with_reducible first|exact HI0.out|apply wj.alloc|apply wj.drewN|apply wj.drew|apply wj.set_1|apply wj.set_2)|exact HI0.out));(case side2=>repeat(first|(with_reducible first|exact HB.out|apply G|apply J|apply qq|refine qk ?_ (wj.ge HI0.out))|exact HB.out));rintro e w9 ⟨rfl,hi,hb,hk⟩;refine⟨_,rfl,?_⟩;replace HK:=U.mk (zq.trans (by solve_by_elim (maxDepth:=20) only[HK.out,zq.set_,zx,jz,jq]) hk (.inl rfl));replace HB:=U.mk (hb);replace HI0:=U.mk (hi);(try clear hb hk hi)))
    go_ret
    exact⟨by first|rfl|(simp[*,jv,jk] <;> rfl),by repeat(first|(with_reducible first|exact HI0.out|apply wj.alloc|apply wj.drewN|apply wj.drew|apply wj.set_1|apply wj.set_2)|exact HI0.out),by repeat(first|(with_reducible first|exact HB.out|apply G|apply J|apply qq|refine qk ?_ (wj.ge HI0.out))|exact HB.out),by repeat(first|(with_reducible first|exact HK.out|apply zq.set_|apply zx|apply jz|apply jq)|exact HK.out)⟩
  ·rw[if_neg c5] at H
   have c5b0:decide (200 < a1)=false:=decide_eq_false c5
   clear c5
   by_cases c10:a1=0
   ·rw[if_pos c10] at H
    exact absurd H (by simp)
   ·rw[if_neg c10] at H
    have c10b0:(a1 == 0)=false:=beq_eq_false_iff_ne.mpr c10
    have c10b1:(a1 != 0)=true:=bne_iff_ne.mpr c10
    simp only[Option.some.injEq,Prod.mk.injEq] at H
    obtain⟨rfl,rfl,rfl⟩:=H
    go_enter Try.func109,Try.ntmps109
    go_wp2_with (first|((with_reducible refine jw (f:=133) rfl ?_);refine goesL_ (some 9) rfl rfl Try.func133 (by kernel_rfl) rfl #[.pointer (some ⟨g,0,none⟩)] rfl (by(try simp only[jq0,jq1,jq2]);first|done|rfl|(simp only[jq3,jq4];rfl)) ?_;(with_reducible refine(qvk.calls g s0_0 s0_1 s0_2 t101 t102 t103 w0 _ ?side1 ?side2 A4.out).mono ?_);(case side1=>repeat(first|(with_reducible first|exact HI0.out|apply wj.alloc|apply wj.drewN|apply wj.drew|apply wj.set_1|apply wj.set_2)|exact HI0.out));(case side2=>repeat(first|(with_reducible first|exact HB.out|apply G|apply J|apply qq|refine qk ?_ (wj.ge HI0.out))|exact HB.out));rintro e w11 ⟨rfl,hi,hb,hk⟩;refine⟨_,rfl,?_⟩;replace HK:=U.mk (zq.trans (by solve_by_elim (maxDepth:=20) only[HK.out,zq.set_,zx,jz,jq]) hk (.inl rfl));replace HB:=U.mk (hb);replace HI0:=U.mk (hi);(try clear hb hk hi)))
    go_ret
    exact⟨by first|rfl|(simp[*,jv,jk] <;> rfl),by repeat(first|(with_reducible first|exact HI0.out|apply wj.alloc|apply wj.drewN|apply wj.drew|apply wj.set_1|apply wj.set_2)|exact HI0.out),by repeat(first|(with_reducible first|exact HB.out|apply G|apply J|apply qq|refine qk ?_ (wj.ge HI0.out))|exact HB.out),by repeat(first|(with_reducible first|exact HK.out|apply zq.set_|apply zx|apply jz|apply jq)|exact HK.out)⟩
end Go.Proofs.Ytipdkendfcopiaa.Pr
namespace Go.Proofs.Ytipdkendfcopiaa.Pr
open Go.RowKit Go.Proofs.YtipdkendfcopiaaW.PrintWords Go.Proofs.YtipdkendfcopiaaW.PrintLast Go.Proofs.YtipdkendfcopiaaW.PrintMore
attribute [local go_sem] max2_int min2_int max_two min_two max_three min_three max_four min_four
set_option linter.unusedVariables false
set_option linter.unusedSimpArgs false
def qvx.f (s0_0:List Int) (s0_1:Int) (s0_2:Int) (a1:Int):Option (Bool × Int × Int):=(qwq.f s0_0 s0_1 s0_2 a1).bind fun bt101=>(some ((bt101.1 == 0),bt101.2.1,bt101.2.2))
theorem qvx.calls (g:Nat) (s0_0:List Int) (s0_1:Int) (s0_2:Int) (a1:Int) (r1:Bool) (r2:Int) (r3:Int) (w0 w:World) (hI:wj w0 w g s0_0 s0_1 s0_2) (hB:Below w0.heap.size w0 w) (h:qvx.f s0_0 s0_1 s0_2 a1=some (r1,r2,r3)) :
  Calls Try.prog 131 #[.pointer (some ⟨g,0,none⟩),.int .i64 a1] w fun e w'=>e=.returned (.bool r1)∧wj w0 w' g s0_0 r2 r3∧Below w0.heap.size w0 w'∧zq w w' g none:=by
 have HI0:=U.mk hI
 have HK:=U.mk (zq.refl w g none)
 have HL:=U.mk hB.size
 clear hI
 have HW0:=U.mk hB.size
 have HB:=U.mk hB
 clear hB
 unfold qvx.f at h
 have H:=h
 clear h
 replace H:=jq8.mp H
 obtain⟨⟨t101,t102,t103⟩,A30,H⟩:=H
 try dsimp only at H
 have A3:=U.mk A30
 clear A30
 simp only[Option.some.injEq,Prod.mk.injEq] at H
 obtain⟨rfl,rfl,rfl⟩:=H
 go_enter Try.func131,Try.ntmps131
 go_wp2_with (first|((with_reducible refine jw (f:=109) rfl ?_);refine goesL_ (some 7) rfl rfl Try.func109 (by kernel_rfl) rfl #[.pointer (some ⟨g,0,none⟩),.int .i64 a1] rfl (by(try simp only[jq0,jq1,jq2]);first|done|rfl|(simp only[jq3,jq4];rfl)) ?_;(with_reducible refine(qwq.calls g s0_0 s0_1 s0_2 a1 t101 t102 t103 w0 _ ?side1 ?side2 A3.out).mono ?_);(case side1=>repeat(first|(with_reducible first|exact HI0.out|apply wj.alloc|apply wj.drewN|apply wj.drew|apply wj.set_1|apply wj.set_2)|exact HI0.out));(case side2=>repeat(first|(with_reducible first|exact HB.out|apply G|apply J|apply qq|refine qk ?_ (wj.ge HI0.out))|exact HB.out));rintro e w4 ⟨rfl,hi,hb,hk⟩;refine⟨_,rfl,?_⟩;replace HK:=U.mk (zq.trans (by solve_by_elim (maxDepth:=20) only[HK.out,zq.set_,zx,jz,jq]) hk (.inl rfl));replace HB:=U.mk (hb);replace HI0:=U.mk (hi);(try clear hb hk hi)))
 go_ret
 exact⟨by first|rfl|(simp[*,jv,jk] <;> rfl),by repeat(first|(with_reducible first|exact HI0.out|apply wj.alloc|apply wj.drewN|apply wj.drew|apply wj.set_1|apply wj.set_2)|exact HI0.out),by repeat(first|(with_reducible first|exact HB.out|apply G|apply J|apply qq|refine qk ?_ (wj.ge HI0.out))|exact HB.out),by repeat(first|(with_reducible first|exact HK.out|apply zq.set_|apply zx|apply jz|apply jq)|exact HK.out)⟩
end Go.Proofs.Ytipdkendfcopiaa.Pr
namespace Go.Proofs.Ytipdkendfcopiaa.Pr
open Go.RowKit Go.Proofs.YtipdkendfcopiaaW.PrintWords Go.Proofs.YtipdkendfcopiaaW.PrintLast Go.Proofs.YtipdkendfcopiaaW.PrintMore
attribute [local go_sem] max2_int min2_int max_two min_two max_three min_three max_four min_four
set_option linter.unusedVariables false
set_option linter.unusedSimpArgs false
def qvw.f (s0_0:List Int) (s0_1:Int) (s0_2:Int) (l1:List ByteArray):Option (ByteArray × Int × Int):=(qwq.f s0_0 s0_1 s0_2 (l1.length:Int)).bind fun bt101=>(if 0≤bt101.1 then(if bt101.1 < (l1.length:Int) then(some (rdOf ByteArray.empty l1 bt101.1,bt101.2.1,bt101.2.2)) else(none)) else(none))
theorem qvw.calls (g:Nat) (s0_0:List Int) (s0_1:Int) (s0_2:Int) (A1:Option Addr) (c1:Nat) (l1:List ByteArray) (r1:ByteArray) (r2:Int) (r3:Int) (w0 w:World) (hI:wj w0 w g s0_0 s0_1 s0_2) (hB:Below w0.heap.size w0 w) (hr1:Kd.C Kd.string w A1 l1.length l1) (hc1:l1.length≤c1) (hf1:∀ ad,A1=some ad→0 < l1.length→ad.block≠g) (h:qvw.f s0_0 s0_1 s0_2 l1=some (r1,r2,r3)) :
  Calls Try.prog 134 #[.pointer (some ⟨g,0,none⟩),.slice A1 l1.length c1] w fun e w'=>e=.returned (.string r1)∧wj w0 w' g s0_0 r2 r3∧Below w0.heap.size w0 w'∧zq w w' g none:=by
 have HR1:=U.mk hr1
 have HC1:=U.mk hc1
 clear hr1 hc1
 have HI0:=U.mk hI
 have HK:=U.mk (zq.refl w g none)
 have HL:=U.mk hB.size
 clear hI
 have HW0:=U.mk hB.size
 have HB:=U.mk hB
 clear hB
 unfold qvw.f at h
 have H:=h
 clear h
 replace H:=jq8.mp H
 obtain⟨⟨t101,t102,t103⟩,A30,H⟩:=H
 try dsimp only at H
 have A3:=U.mk A30
 clear A30
 by_cases c4 : 0≤t101
 ·rw[if_pos c4] at H
  have c4b0:decide (0≤t101)=true:=decide_eq_true c4
  clear c4
  by_cases c5:t101 < (l1.length:Int)
  ·rw[if_pos c5] at H
   have c5b0:decide (t101 < (l1.length:Int))=true:=decide_eq_true c5
   clear c5
   simp only[Option.some.injEq,Prod.mk.injEq] at H
   obtain⟨rfl,rfl,rfl⟩:=H
   go_enter Try.func134,Try.ntmps134
   go_wp2_with (first|((with_reducible refine jw (f:=109) rfl ?_);refine goesL_ (some 9) rfl rfl Try.func109 (by kernel_rfl) rfl #[.pointer (some ⟨g,0,none⟩),.int .i64 (l1.length:Int)] rfl (by(try simp only[jq0,jq1,jq2]);first|done|rfl|(simp only[jq3,jq4];rfl)) ?_;(with_reducible refine(qwq.calls g s0_0 s0_1 s0_2 (l1.length:Int) t101 t102 t103 w0 _ ?side1 ?side2 A3.out).mono ?_);(case side1=>repeat(first|(with_reducible first|exact HI0.out|apply wj.alloc|apply wj.drewN|apply wj.drew|apply wj.set_1|apply wj.set_2)|exact HI0.out));(case side2=>repeat(first|(with_reducible first|exact HB.out|apply G|apply J|apply qq|refine qk ?_ (wj.ge HI0.out))|exact HB.out));rintro e w6 ⟨rfl,hi,hb,hk⟩;refine⟨_,rfl,?_⟩;replace HK:=U.mk (zq.trans (by solve_by_elim (maxDepth:=20) only[HK.out,zq.set_,zx,jz,jq]) hk (.inl rfl));replace HB:=U.mk (hb);replace HI0:=U.mk (hi);(try clear hb hk hi);have p104 : 0≤(t101:Int):=of_decide_eq_true (by assumption);have q104:t101 < (l1.length:Int):=of_decide_eq_true (by assumption);obtain⟨ad104,e104,hx104_0⟩:=Kd.at_string HR1.out t101 p104 q104;cases e104;replace hx104_0:=keep_cell HK.out hx104_0 (by first|(rw[add_block];exact hf1 _ rfl (by omega))|exact hf1 _ rfl (by omega)|exact hf1 ad104 rfl (by omega));replace p104:=eq_true p104;replace q104:=eq_true q104))
   go_ret
   exact⟨by first|rfl|(simp[*,jv,jk] <;> rfl),by repeat(first|(with_reducible first|exact HI0.out|apply wj.alloc|apply wj.drewN|apply wj.drew|apply wj.set_1|apply wj.set_2)|exact HI0.out),by repeat(first|(with_reducible first|exact HB.out|apply G|apply J|apply qq|refine qk ?_ (wj.ge HI0.out))|exact HB.out),by repeat(first|(with_reducible first|exact HK.out|apply zq.set_|apply zx|apply jz|apply jq)|exact HK.out)⟩
  ·rw[if_neg c5] at H
   exact absurd H (by simp)
 ·rw[if_neg c4] at H
  exact absurd H (by simp)
end Go.Proofs.Ytipdkendfcopiaa.Pr
namespace Go.Proofs.Ytipdkendfcopiaa.Pr
open Go.RowKit Go.Proofs.YtipdkendfcopiaaW.PrintWords Go.Proofs.YtipdkendfcopiaaW.PrintLast Go.Proofs.YtipdkendfcopiaaW.PrintMore
attribute [local go_sem] max2_int min2_int max_two min_two max_three min_three max_four min_four
set_option linter.unusedVariables false
set_option linter.unusedSimpArgs false
def qkx.l0:Nat→List Int→Int→List Int→Int→Int→Option (List Int × Int × Int)
 | 0,_,_,_,_,_=>none
 | k + 1,x5,x6,x1000,x1001,x1002=>if x6 > 0 then((qvk.f x1000 x1001 x1002).bind fun bt104=>(if x5.length < 140737488355328 then(qkx.l0 k (x5 ++ [(bt104.1) % 256]) (wrap64 (x6 - 1)) x1000 bt104.2.1 bt104.2.2) else(none))) else(some (x5,x1001,x1002))
def qkx.f (k:Nat) (s0_0:List Int) (s0_1:Int) (s0_2:Int) (a1:Int):Option (List Int × Int × Int):=(qwq.f s0_0 s0_1 s0_2 a1).bind fun bt101=>(qkx.l0 k ([]:List Int) bt101.1 s0_0 bt101.2.1 bt101.2.2)
theorem qkx.calls (k:Nat) (g:Nat) (s0_0:List Int) (s0_1:Int) (s0_2:Int) (a1:Int) (r1:List Int) (r2:Int) (r3:Int) (w0 w:World) (hI:wj w0 w g s0_0 s0_1 s0_2) (hB:Below w0.heap.size w0 w) (h:qkx.f k s0_0 s0_1 s0_2 a1=some (r1,r2,r3)) :
  Calls Try.prog 135 #[.pointer (some ⟨g,0,none⟩),.int .i64 a1] w fun e w'=>∃ v0_:Value,e=.returned (v0_)∧Kd.R (Kd.int .u8) 5 w' w.heap.size (fun _=>True) v0_ r1∧wj w0 w' g s0_0 r2 r3∧Below w0.heap.size w0 w'∧zq w w' g none:=by
 have HI0:=U.mk hI
 have HK:=U.mk (zq.refl w g none)
 have HL:=U.mk hB.size
 clear hI
 have HW0:=U.mk hB.size
 have HB:=U.mk hB
 clear hB
 unfold qkx.f at h
 have H:=h
 clear h
 replace H:=jq8.mp H
 obtain⟨⟨t101,t102,t103⟩,A30,H⟩:=H
 try dsimp only at H
 have A3:=U.mk A30
 clear A30
 have H':=U.mk H
 clear H
 go_enter Try.func135,Try.ntmps135
 go_wp2_with (first|((with_reducible refine jw (f:=109) rfl ?_);refine goesL_ (some 9) rfl rfl Try.func109 (by kernel_rfl) rfl #[.pointer (some ⟨g,0,none⟩),.int .i64 a1] rfl (by(try simp only[jq0,jq1,jq2]);first|done|rfl|(simp only[jq3,jq4];rfl)) ?_;(with_reducible refine(qwq.calls g s0_0 s0_1 s0_2 a1 t101 t102 t103 w0 _ ?side1 ?side2 A3.out).mono ?_);(case side1=>repeat(first|(with_reducible first|exact HI0.out|apply wj.alloc|apply wj.drewN|apply wj.drew|apply wj.set_1|apply wj.set_2)|exact HI0.out));(case side2=>repeat(first|(with_reducible first|exact HB.out|apply G|apply J|apply qq|refine qk ?_ (wj.ge HI0.out))|exact HB.out));rintro e w4 ⟨rfl,hi,hb,hk⟩;refine⟨_,rfl,?_⟩;replace HK:=U.mk (zq.trans (by solve_by_elim (maxDepth:=20) only[HK.out,zq.set_,zx,jz,jq]) hk (.inl rfl));replace HB:=U.mk (hb);replace HI0:=U.mk (hi);(try clear hb hk hi)))
 go_loopg [5,6] k (fun kq v5 v6 w'=>∃ (x5_1:List Int) (x6_1:Int) (x1001_1:Int) (x1002_1:Int),v6=.int .i64 x6_1∧U (qkx.l0 kq x5_1 x6_1 s0_0 x1001_1 x1002_1=some (r1,r2,r3))∧U (kq≤k)∧U (Kd.R (Kd.int .u8) 5 w' w.heap.size (fun _=>True) v5 x5_1)∧U (wj w0 w' g s0_0 x1001_1 x1002_1)∧U (zq w w' g none)∧U (Below w0.heap.size w0 w'))
 case atStart=>exact⟨(([]:List Int)),(t101),(t102),(t103),(by first|rfl|(simp;done)|(simp[*];done)),H',⟨Nat.le_refl _⟩,⟨by first|exact Kd.R_nil _ _ _ _ _|exact Kd.N_nil _ _ _ _ _|exact Kd.V_nil _ _ _ _ _|exact Kd.Q_nil _ _ _ _ _|exact Kd.S_nil _ _ _ _ _⟩,⟨by repeat(first|(with_reducible first|exact HI0.out|apply wj.alloc|apply wj.drewN|apply wj.drew|apply wj.set_1|apply wj.set_2)|exact HI0.out)⟩,⟨by repeat(first|(with_reducible first|exact HK.out|apply zq.set_|apply zx|apply jz|apply jq)|exact HK.out)⟩,⟨by repeat(first|(with_reducible first|exact HB.out|apply G|apply J|apply qq|refine qk ?_ (wj.ge HI0.out))|exact HB.out)⟩⟩
 case round =>
  clear H'
  try clear c1
  try clear p2
  obtain⟨x5_1,x6_1,x1001_1,x1002_1,rfl,HA,HK1,HO_5,HI0,HK,HB⟩:=hrel
  cases gk with
  | zero=>exact absurd HA.out (by simp[qkx.l0])
  | succ k1 =>
   have H:=HA.out
   clear HA
   simp only[qkx.l0] at H
   by_cases c5:x6_1 > 0
   ·rw[if_pos c5] at H
    have c5b0:decide (0 < x6_1)=true:=decide_eq_true c5
    clear c5
    replace H:=jq8.mp H
    obtain⟨⟨t104,t105,t106⟩,A60,H⟩:=H
    try dsimp only at H
    have A6:=U.mk A60
    clear A60
    by_cases c7:x5_1.length < 140737488355328
    ·rw[if_pos c7] at H
     have LMc7:=U.mk c7
     clear c7
     obtain⟨y107,hy107⟩ : ∃ y_:List Int,y_=(x5_1 ++ [(t104) % 256]):=⟨_,rfl⟩
     replace H:(qkx.l0 k1 y107 (wrap64 (x6_1 - 1)) s0_0 t105 t106)=some (r1,r2,r3):=by first|(rw[hy107];with_reducible exact H)|(have H2_:=(Option.bind_some _ _).symm.trans H;rw[hy107];with_reducible exact H2_)|(have H2_:=(Option.bind_some _ _).symm.trans H;with_reducible exact H2_)|with_reducible exact H|(rw[hy107];exact H)|exact H
     have Ny107:=U.mk hy107
     clear hy107
     have H':=U.mk H
     clear H
     go_wp2_with (first|((with_reducible refine jw (f:=133) rfl ?_);refine goesL_ (some 16) rfl rfl Try.func133 (by kernel_rfl) rfl #[.pointer (some ⟨g,0,none⟩)] rfl (by(try simp only[jq0,jq1,jq2]);first|done|rfl|(simp only[jq3,jq4];rfl)) ?_;(with_reducible refine(qvk.calls g s0_0 x1001_1 x1002_1 t104 t105 t106 w0 _ ?side1 ?side2 A6.out).mono ?_);(case side1=>repeat(first|(with_reducible first|exact HI0.out|apply wj.alloc|apply wj.drewN|apply wj.drew|apply wj.set_1|apply wj.set_2)|exact HI0.out));(case side2=>repeat(first|(with_reducible first|exact HB.out|apply G|apply J|apply qq|refine qk ?_ (wj.ge HI0.out))|exact HB.out));rintro e w8 ⟨rfl,hi,hb,hk⟩;refine⟨_,rfl,?_⟩;replace HO_5:=U.mk (Kd.R_mono (Kd.R_keep (wj.apart (show wj w0 _ g s0_0 x1001_1 x1002_1 from by repeat(first|(with_reducible first|exact HI0.out|apply wj.alloc|apply wj.drewN|apply wj.drew|apply wj.set_1|apply wj.set_2)|exact HI0.out)) (by solve_by_elim only[HO_5.out,Kd.zv,Kd.zk,Kd.zw]) (by decide)) hk (fun _ h=>h.2)) (fun _ h=>h.1));replace HK:=U.mk (zq.trans (by solve_by_elim (maxDepth:=20) only[HK.out,zq.set_,zx,jz,jq]) hk (.inl rfl));replace HB:=U.mk (hb);replace HI0:=U.mk (hi);(try clear hb hk hi))|((with_reducible refine gate_builtin (b:=.append) (xs:=#[.tmp 14,.tmp 18]) rfl ?_);at_builtin;refine Kd.R_append (Kd.int .u8) w.heap.size rfl (.tmp 14) (.tmp 18) 22 5 (.int .u8 0) 1 rfl Try.underlying22 info5 rfl (by decide) (by omega) u5 x5_1 ((t104) % 256) [.int .u8 ((t104) % 256)] (fun _=>True) (fun _=>False) rfl rfl ?aP (fun _ hk=>hk.elim) ?aF ?aO (Below.refl _ _) ?aS ?aL ?_;(case aP=>exact rfl);(case aF=>exact(fun _ _=>trivial));(case aO=>exact(by solve_by_elim only[HO_5.out,Kd.zv,Kd.zk,Kd.zw]));(case aS=>exact(keep_size (w:=w) (g:=g) (row:=none) (by solve_by_elim (maxDepth:=20) only[HK.out,zq.set_,zx,jz,jq])));(case aL=>have:=LMc7.out;omega);intro v108 w9 ho hb hg hat;rw[← Ny107.out] at ho;replace HB:=U.mk (below_weaken (by solve_by_elim (maxDepth:=20) only[HB.out,G,J,qq,qk,(wj.ge HI0.out)]) HL.out hb);replace HI0:=U.mk (wj.grown (by solve_by_elim (maxDepth:=20) only[HI0.out,wj.alloc,wj.drewN,wj.drew,wj.set_1,wj.set_2]) hg (wj.own_ne HI0.out HO_5.out (by decide)));replace HK:=U.mk (zq.trans (by solve_by_elim (maxDepth:=20) only[HK.out,zq.set_,zx,jz,jq]) (zq.of_grown hg g) (Kd.R_base2 HO_5.out));have HO109:=U.mk (ho);clear HO_5;clear ho hb hg hat))
     go_roundg k1
     case measure=>have:=HK1.out;omega
     case rel=>exact⟨(y107),(wrap64 (x6_1 - 1)),(t105),(t106),(by first|rfl|(simp;done)|(simp[*];done)),H',⟨by have:=HK1.out;omega⟩,⟨by(with_reducible repeat(first|apply Kd.zv|apply Kd.zk|apply Kd.zw));exact HO109.out⟩,⟨by repeat(first|(with_reducible first|exact HI0.out|apply wj.alloc|apply wj.drewN|apply wj.drew|apply wj.set_1|apply wj.set_2)|exact HI0.out)⟩,⟨by repeat(first|(with_reducible first|exact HK.out|apply zq.set_|apply zx|apply jz|apply jq)|exact HK.out)⟩,⟨by repeat(first|(with_reducible first|exact HB.out|apply G|apply J|apply qq|refine qk ?_ (wj.ge HI0.out))|exact HB.out)⟩⟩
    ·rw[if_neg c7] at H
     exact absurd H (by simp)
   ·rw[if_neg c5] at H
    have c5b0:decide (0 < x6_1)=false:=decide_eq_false c5
    clear c5
    simp only[Option.some.injEq,Prod.mk.injEq] at H
    obtain⟨rfl,rfl,rfl⟩:=H
    go_wp2
    go_ret
    exact⟨_,by first|rfl|(simp[*,jv,jk] <;> rfl),by(with_reducible repeat(first|apply Kd.zv|apply Kd.zk|apply Kd.zw));exact HO_5.out,by repeat(first|(with_reducible first|exact HI0.out|apply wj.alloc|apply wj.drewN|apply wj.drew|apply wj.set_1|apply wj.set_2)|exact HI0.out),by repeat(first|(with_reducible first|exact HB.out|apply G|apply J|apply qq|refine qk ?_ (wj.ge HI0.out))|exact HB.out),by repeat(first|(with_reducible first|exact HK.out|apply zq.set_|apply zx|apply jz|apply jq)|exact HK.out)⟩
end Go.Proofs.Ytipdkendfcopiaa.Pr
namespace Go.Proofs.Ytipdkendfcopiaa.Pr
open Go.RowKit Go.Proofs.YtipdkendfcopiaaW.PrintWords Go.Proofs.YtipdkendfcopiaaW.PrintLast Go.Proofs.YtipdkendfcopiaaW.PrintMore
attribute [local go_sem] max2_int min2_int max_two min_two max_three min_three max_four min_four
set_option linter.unusedVariables false
set_option linter.unusedSimpArgs false
def qkk.f (k:Nat) (a0_0:Int) (a0_1:ByteArray) (a0_2:ByteArray) (l0_3:List Int) (l0_4:List Int):Option (Int × ByteArray × ByteArray × List Int × List Int):=(qkz.f k a0_0 a0_1 a0_2 l0_3 l0_4).bind fun t103=>(if t103=true then((qwk.f k a0_0 a0_1 a0_2 l0_3 l0_4).bind fun t104=>(some (a0_0,a0_1,(⟨#[]⟩ : ByteArray),([]:List Int),t104))) else(some (0,(⟨#[]⟩ : ByteArray),(⟨#[]⟩ : ByteArray),([]:List Int),([]:List Int))))
def qkk.T3:Bool × List (List Nat × List Nat):=(true,[([],[]),([0],[0]),([],[]),([2],[2]),([],[]),([4],[4]),([1,3,5],[1,3,5]),([6,5,0,1,2,3,4,5,6],[6])])
def qkk.B3:List Nat:=[0,1,0,4,0,16,63,127]
theorem qkk.tab3:rtab .any (opsOf Try.f30 3)=qkk.T3:=by kernel_rfl
theorem qkk.bits3:waitsOk qkk.T3.2 qkk.B3=true:=by kernel_rfl
theorem qkk.calls (k:Nat) (a0_0:Int) (a0_1:ByteArray) (a0_2:ByteArray) (A0_3:Option Addr) (c0_3:Nat) (l0_3:List Int) (A0_4:Option Addr) (c0_4:Nat) (l0_4:List Int) (r1:Int) (r2:ByteArray) (r3:ByteArray) (r4:List Int) (r5:List Int) (w:World) (hr0_3:Kd.C (Kd.int .u8) w A0_3 l0_3.length l0_3) (hc0_3:l0_3.length≤c0_3) (hr0_4:Kd.C (Kd.int .u8) w A0_4 l0_4.length l0_4) (hc0_4:l0_4.length≤c0_4) (h:qkk.f k a0_0 a0_1 a0_2 l0_3 l0_4=some (r1,r2,r3,r4,r5)) :
  Calls Try.prog 30 #[.agg #[.int .i64 a0_0,.string a0_1,.string a0_2,.slice A0_3 l0_3.length c0_3,.slice A0_4 l0_4.length c0_4]] w fun e w'=>∃ v3_ v4_:Value,e=.returned (.agg #[.int .i64 r1,.string r2,.string r3,v3_,v4_])∧Kd.R (Kd.int .u8) 5 w' w.heap.size (fun k_=>some k_≠(v4_:Value).ownBlock) v3_ r4∧Kd.R (Kd.int .u8) 5 w' w.heap.size (fun k_=>some k_≠(v3_:Value).ownBlock) v4_ r5∧Below w.heap.size w w':=by
 have hu27:=Try.underlying27
 have HR0_3:=U.mk hr0_3
 have HC0_3:=U.mk hc0_3
 clear hr0_3 hc0_3
 have HR0_4:=U.mk hr0_4
 have HC0_4:=U.mk hc0_4
 clear hr0_4 hc0_4
 have HB:=U.mk (Below.refl w.heap.size w)
 unfold qkk.f at h
 have H:=h
 clear h
 replace H:=jq8.mp H
 obtain⟨t103,A20,H⟩:=H
 try dsimp only at H
 have A2:=U.mk A20
 clear A20
 by_cases c3:t103=true
 ·subst c3
  have H1:((qwk.f k a0_0 a0_1 a0_2 l0_3 l0_4).bind fun t104=>(some (a0_0,a0_1,(⟨#[]⟩ : ByteArray),([]:List Int),t104)))=some (r1,r2,r3,r4,r5):=by rw[if_pos rfl] at H;exact H
  clear H
  have H:=H1
  clear H1
  replace H:=jq8.mp H
  obtain⟨t104,A40,H⟩:=H
  try dsimp only at H
  have A4:=U.mk A40
  clear A40
  simp only[Option.some.injEq,Prod.mk.injEq] at H
  obtain⟨rfl,rfl,rfl,rfl,rfl⟩:=H
  go_enter Try.func30,Try.ntmps30
  try go_wp2_with (first|((with_reducible refine gate_dst (N:=1) rfl ?_);refine box_event ?hg (N:=1) ?hd (cs:=#[.int .i64 a0_0,.string a0_1,.string a0_2,.slice A0_3 l0_3.length c0_3,.slice A0_4 l0_4.length c0_4]) (t:=27) ?hr ?_;(case hd=>rfl);(case hg=>rfl);(case hr=>first|(go_simp;done)|(go_simp;rfl));intro gb101 hg w5 hbox hb;have BK101:=U.mk (hbox);have GW101:=U.mk ((by rw[hg];exact(zj (by solve_by_elim only[HB.out,G,J,qq])):w.heap.size≤gb101));have GE101:=U.mk ((by rw[hg];exact(zj (by solve_by_elim only[HB.out,G,J,qq])):w.heap.size≤gb101));replace HB:=U.mk (zz (by solve_by_elim only[HB.out,G,J,qq]) hb);clear hb hbox hg)|((with_reducible refine gate_dst (N:=2) rfl ?_);refine box_event ?hg (N:=2) ?hd (cs:=#[.int .i64 0,.string (⟨#[]⟩ : ByteArray),.string (⟨#[]⟩ : ByteArray),.slice none 0 0,.slice none 0 0]) (t:=27) ?hr ?_;(case hd=>rfl);(case hg=>rfl);(case hr=>first|(go_simp;done)|(go_simp;rfl));intro gb102 hg w6 hbox hb;have BK102:=U.mk (hbox);have GW102:=U.mk ((by rw[hg];exact(zj (by solve_by_elim (maxDepth:=20) only[HB.out,G,J,qq,qk,GE101.out])):w.heap.size≤gb102));have GE102:=U.mk ((by rw[hg];exact(zj (by solve_by_elim (maxDepth:=20) only[HB.out,G,J,qq,qk,GE101.out])):w.heap.size≤gb102));replace HB:=U.mk (zz (by solve_by_elim (maxDepth:=20) only[HB.out,G,J,qq,qk,GE101.out]) hb);have NB101_102:=U.mk ((by rw[hg];exact Nat.ne_of_lt (blk_lt (g:=gb101) (o:=.cells #[.int .i64 a0_0,.string a0_1,.string a0_2,.slice A0_3 l0_3.length c0_3,.slice A0_4 l0_4.length c0_4] 27 (0,0)) (by solve_by_elim only[BK101.out,qw,qx,qv])):gb101≠gb102));have NB102_101:=U.mk ((by rw[hg];exact Nat.ne_of_gt (blk_lt (g:=gb101) (o:=.cells #[.int .i64 a0_0,.string a0_1,.string a0_2,.slice A0_3 l0_3.length c0_3,.slice A0_4 l0_4.length c0_4] 27 (0,0)) (by solve_by_elim only[BK101.out,qw,qx,qv])):gb102≠gb101));replace BK101:=U.mk (vx (g:=gb101) (o:=.cells #[.int .i64 a0_0,.string a0_1,.string a0_2,.slice A0_3 l0_3.length c0_3,.slice A0_4 l0_4.length c0_4] 27 (0,0)) (by solve_by_elim only[BK101.out,qw,qx,qv]) hb);clear hb hbox hg;have hnb7:=NB101_102.out;have hnc7:=NB102_101.out;have hcz8_0:w6.cell? ⟨gb101,0,none⟩ = some (.int .i64 a0_0):=(qj BK101.out 0).trans rfl;have hcz8_1:w6.cell? ⟨gb101,1,none⟩ = some (.string a0_1):=(qj BK101.out 1).trans rfl;have hcz8_2:w6.cell? ⟨gb101,2,none⟩ = some (.string a0_2):=(qj BK101.out 2).trans rfl;have hcz8_3:w6.cell? ⟨gb101,3,none⟩ = some (.slice A0_3 l0_3.length c0_3):=(qj BK101.out 3).trans rfl;have hcz8_4:w6.cell? ⟨gb101,4,none⟩ = some (.slice A0_4 l0_4.length c0_4):=(qj BK101.out 4).trans rfl;have hfz8_0:=qz BK101.out 0;have hfz8_1:=qz BK101.out 1;have hfz8_2:=qz BK101.out 2;have hfz8_3:=qz BK101.out 3;have hfz8_4:=qz BK101.out 4)|((with_reducible refine jw (f:=18) rfl ?_);refine goesL_ (some 4) rfl rfl Try.func18 (by kernel_rfl) rfl #[.agg #[.int .i64 a0_0,.string a0_1,.string a0_2,.slice A0_3 l0_3.length c0_3,.slice A0_4 l0_4.length c0_4]] rfl (by(try simp only[jq0,jq1,jq2]);first|done|rfl|(simp only[jq3,jq4];rfl)) ?_;(with_reducible refine(qkz.calls k a0_0 a0_1 a0_2 _ _ l0_3 _ _ l0_4 true _ ?side1 ?side2 ?side3 ?side4 A2.out).mono ?_);(case side1=>solve_by_elim only[(Kd.C_below HR0_3.out HB.out),Kd.C_alloc,Kd.C_drewN,Kd.C_drew]);(case side2=>exact HC0_3.out);(case side3=>solve_by_elim only[(Kd.C_below HR0_4.out HB.out),Kd.C_alloc,Kd.C_drewN,Kd.C_drew]);(case side4=>exact HC0_4.out);rintro e w9 ⟨rfl,hb⟩;refine⟨_,rfl,?_⟩;replace BK101:=U.mk (vx (g:=gb101) (o:=.cells #[.int .i64 a0_0,.string a0_1,.string a0_2,.slice A0_3 l0_3.length c0_3,.slice A0_4 l0_4.length c0_4] 27 (0,0)) (by solve_by_elim only[BK101.out,qw,qx,qv]) hb);replace BK102:=U.mk (vx (g:=gb102) (o:=.cells #[.int .i64 0,.string (⟨#[]⟩ : ByteArray),.string (⟨#[]⟩ : ByteArray),.slice none 0 0,.slice none 0 0] 27 (0,0)) (by solve_by_elim only[BK102.out,qw,qx,qv]) hb);replace HB:=U.mk (zz (by solve_by_elim (maxDepth:=20) only[HB.out,G,J,qq,qk,GE101.out,qk,GE102.out]) hb);(try clear hb)))
  replace BK101:=U.mk (qx BK101.out)
  replace BK102:=U.mk (qx BK102.out)
  replace HB:=U.mk (qq HB.out)
  refine start_ (n:=8) (S:=fun w'=>w'.cell? ⟨gb101,0,none⟩ = some (.int .i64 a0_0)∧w'.cell? ⟨gb101,1,none⟩ = some (.string a0_1)∧w'.cell? ⟨gb101,2,none⟩ = some (.string a0_2)∧w'.cell? ⟨gb101,3,none⟩ = some (.slice A0_3 l0_3.length c0_3)∧w'.cell? ⟨gb101,4,none⟩ = some (.slice A0_4 l0_4.length c0_4)) (ds:=[]) #[Y,Y,Y,Y,Y,Y,Y,Y] (by kernel_rfl) rfl rfl ⟨(qj BK101.out 0).trans rfl,(qj BK101.out 1).trans rfl,(qj BK101.out 2).trans rfl,(qj BK101.out 3).trans rfl,(qj BK101.out 4).trans rfl⟩ (fun hHeld=>?_);refine with_tabW qkk.tab3 qkk.bits3 (fun HT_ HW_=>?_)
  generalize w9.drew=w10 at BK101 BK102 HB hHeld ⊢
  refine pure_ (i:=0) (N:=some 7) (v:=?_) (a':=?_) #[Z,Y,Y,Y,Y,Y,Y,Y] rfl rfl (any_of HT_.out (by kernel_rfl)) (fun _ _ _ h=>h) (Or.inl ⟨by rfl,?_⟩) ?_ ?_
  rotate_left
  ·intro w'
   go_simp
   with_reducible rfl
  rotate_left
  ·simp only[Act.put,jq5,jq6,jq7,i64_w,i32_w]
   rfl
  refine pure_ (i:=2) (N:=some 9) (v:=?_) (a':=?_) #[Z,Y,Z,Y,Y,Y,Y,Y] rfl rfl (any_of HT_.out (by kernel_rfl)) (fun _ _ _ h=>h) (Or.inl ⟨by rfl,?_⟩) ?_ ?_
  rotate_left
  ·intro w'
   go_simp
   with_reducible rfl
  rotate_left
  ·simp only[Act.put,jq5,jq6,jq7,i64_w,i32_w]
   rfl
  refine take_ (i:=1) (N:=some 8) (v:=?_) (a':=?_) #[Z,Z,Z,Y,Y,Y,Y,Y] rfl rfl (take_ofW HT_.out HW_.out (by kernel_rfl)) (fun _ _ _ h=>h) (Or.inl ⟨by rfl,?_⟩) hHeld ?_ ?_
  rotate_left
  ·rintro w' ⟨s0,s1,s2,s3,s4⟩
   go_simp
   with_reducible rfl
  rotate_left
  ·simp only[Act.put,jq5,jq6,jq7,i64_w,i32_w]
   rfl
  refine take_ (i:=3) (N:=some 10) (v:=?_) (a':=?_) #[Z,Z,Z,Z,Y,Y,Y,Y] rfl rfl (take_ofW HT_.out HW_.out (by kernel_rfl)) (fun _ _ _ h=>h) (Or.inl ⟨by rfl,?_⟩) hHeld ?_ ?_
  rotate_left
  ·rintro w' ⟨s0,s1,s2,s3,s4⟩
   go_simp
   with_reducible rfl
  rotate_left
  ·simp only[Act.put,jq5,jq6,jq7,i64_w,i32_w]
   rfl
  refine take_ (i:=4) (N:=some 11) (v:=?_) (a':=?_) #[Z,Z,Z,Z,Z,Y,Y,Y] rfl rfl (take_ofW HT_.out HW_.out (by kernel_rfl)) (fun _ _ _ h=>h) (Or.inl ⟨by rfl,?_⟩) hHeld ?_ ?_
  rotate_left
  ·rintro w' ⟨s0,s1,s2,s3,s4⟩
   go_simp
   with_reducible rfl
  rotate_left
  ·simp only[Act.put,jq5,jq6,jq7,i64_w,i32_w]
   rfl
  refine one_ (i:=5) (N:=some 12) #[Z,Z,Z,Z,Z,Z,Y,Y] rfl rfl (one_of HT_.out (by kernel_rfl)) (by decide) (fun K hK=>?_)
  refine goes_ Try.func73 (by kernel_rfl) rfl #[.agg #[.int .i64 a0_0,.string a0_1,.string a0_2,.slice A0_3 l0_3.length c0_3,.slice A0_4 l0_4.length c0_4]] (by rfl) rfl rfl (by(try simp only[jq0,jq1,jq2]);first|done|rfl|(simp only[jq3,jq4];rfl)) ?_
  with_reducible refine(qwk.calls k a0_0 a0_1 a0_2 _ _ l0_3 _ _ l0_4 t104 _ ?side1 ?side2 ?side3 ?side4 A4.out).mono ?_
  (case side1=>solve_by_elim only[(Kd.C_below HR0_3.out HB.out),Kd.C_alloc,Kd.C_drewN,Kd.C_drew])
  (case side2=>exact HC0_3.out)
  (case side3=>solve_by_elim only[(Kd.C_below HR0_4.out HB.out),Kd.C_alloc,Kd.C_drewN,Kd.C_drew])
  (case side4=>exact HC0_4.out)
  rintro e w11 ⟨v105,rfl,ho0,hb⟩
  refine⟨_,rfl,?_⟩
  have HO106:=U.mk (Kd.R_lower ho0 (zj (by solve_by_elim (maxDepth:=20) only[HB.out,G,J,qq,qk,GE101.out,qk,GE102.out])))
  replace BK101:=U.mk (vx (g:=gb101) (o:=.cells #[.int .i64 a0_0,.string a0_1,.string a0_2,.slice A0_3 l0_3.length c0_3,.slice A0_4 l0_4.length c0_4] 27 (0,0)) (by solve_by_elim only[BK101.out,qw,qx,qv]) hb)
  replace BK102:=U.mk (vx (g:=gb102) (o:=.cells #[.int .i64 0,.string (⟨#[]⟩ : ByteArray),.string (⟨#[]⟩ : ByteArray),.slice none 0 0,.slice none 0 0] 27 (0,0)) (by solve_by_elim only[BK102.out,qw,qx,qv]) hb)
  replace HB:=U.mk (zz (by solve_by_elim (maxDepth:=20) only[HB.out,G,J,qq,qk,GE101.out,qk,GE102.out]) hb)
  (try clear hb)
  (try clear hb2)
  (try clear hk)
  (try clear hi)
  (try clear ho0)
  obtain⟨Ao12,co12,eo12⟩:=Kd.R_slice HO106.out
  (first|subst eo12|(injection eo12 with f1_ f2_ f3_;have f4_:=f1_.symm;have f5_:=f3_.symm;clear f1_ f2_ f3_;subst f4_;subst f5_))
  refine hK.out _ _ ⟨(qj BK101.out 0).trans rfl,(qj BK101.out 1).trans rfl,(qj BK101.out 2).trans rfl,(qj BK101.out 3).trans rfl,(qj BK101.out 4).trans rfl⟩ (fun hHeld=>?_)
  clear hK K
  refine norm_ (a':=?_) ?_ ?_
  rotate_left
  ·show Act.put _ (some 12) _=_
   simp only[Act.put,jq5,jq6,jq7,i64_w,i32_w]
   rfl
  refine pure_ (i:=6) (N:=some 13) (v:=?_) (a':=?_) #[Z,Z,Z,Z,Z,Z,Z,Y] rfl rfl (any_of HT_.out (by kernel_rfl)) (fun _ _ _ h=>h) (Or.inl ⟨by rfl,?_⟩) ?_ ?_
  rotate_left
  ·intro w'
   go_simp
   with_reducible rfl
  rotate_left
  ·simp only[Act.put,jq5,jq6,jq7,i64_w,i32_w]
   rfl
  refine one_ (i:=7) (N:=none) #[Z,Z,Z,Z,Z,Z,Z,Z] rfl rfl (one_of HT_.out (by kernel_rfl)) (by decide) (fun K hK=>?_)
  have hs13:w11.cell? ⟨gb102,0,none⟩ = some (.int .i64 0):=(qj BK102.out 0).trans rfl
  have hfs13:=qz BK102.out 0
  have hns13_0:=NB101_102.out
  have hms13_0:=NB102_101.out
  have hs14:w11.cell? ⟨gb102,1,none⟩ = some (.string (⟨#[]⟩ : ByteArray)):=(qj BK102.out 1).trans rfl
  have hfs14:=qz BK102.out 1
  have hns14_0:=NB101_102.out
  have hms14_0:=NB102_101.out
  have hs15:w11.cell? ⟨gb102,2,none⟩ = some (.string (⟨#[]⟩ : ByteArray)):=(qj BK102.out 2).trans rfl
  have hfs15:=qz BK102.out 2
  have hns15_0:=NB101_102.out
  have hms15_0:=NB102_101.out
  have hs16:w11.cell? ⟨gb102,3,none⟩ = some (.slice none 0 0):=(qj BK102.out 3).trans rfl
  have hfs16:=qz BK102.out 3
  have hns16_0:=NB101_102.out
  have hms16_0:=NB102_101.out
  have hs17:w11.cell? ⟨gb102,4,none⟩ = some (.slice none 0 0):=(qj BK102.out 4).trans rfl
  have hfs17:=qz BK102.out 4
  have hns17_0:=NB101_102.out
  have hms17_0:=NB102_101.out
  refine skip_ (w1:=?_) (by rfl) rfl ?_ ?_
  rotate_left
  ·go_simp
   rfl
  refine hK.out _ _ ⟨((cell_far (p:=⟨gb102,_,none⟩) NB101_102.out _).trans (((cell_far (p:=⟨gb102,_,none⟩) NB101_102.out _).trans (((cell_far (p:=⟨gb102,_,none⟩) NB101_102.out _).trans (((cell_far (p:=⟨gb102,_,none⟩) NB101_102.out _).trans (((cell_far (p:=⟨gb102,_,none⟩) NB101_102.out _).trans (hHeld.1)))))))))),((cell_far (p:=⟨gb102,_,none⟩) NB101_102.out _).trans (((cell_far (p:=⟨gb102,_,none⟩) NB101_102.out _).trans (((cell_far (p:=⟨gb102,_,none⟩) NB101_102.out _).trans (((cell_far (p:=⟨gb102,_,none⟩) NB101_102.out _).trans (((cell_far (p:=⟨gb102,_,none⟩) NB101_102.out _).trans (hHeld.2.1)))))))))),((cell_far (p:=⟨gb102,_,none⟩) NB101_102.out _).trans (((cell_far (p:=⟨gb102,_,none⟩) NB101_102.out _).trans (((cell_far (p:=⟨gb102,_,none⟩) NB101_102.out _).trans (((cell_far (p:=⟨gb102,_,none⟩) NB101_102.out _).trans (((cell_far (p:=⟨gb102,_,none⟩) NB101_102.out _).trans (hHeld.2.2.1)))))))))),((cell_far (p:=⟨gb102,_,none⟩) NB101_102.out _).trans (((cell_far (p:=⟨gb102,_,none⟩) NB101_102.out _).trans (((cell_far (p:=⟨gb102,_,none⟩) NB101_102.out _).trans (((cell_far (p:=⟨gb102,_,none⟩) NB101_102.out _).trans (((cell_far (p:=⟨gb102,_,none⟩) NB101_102.out _).trans (hHeld.2.2.2.1)))))))))),((cell_far (p:=⟨gb102,_,none⟩) NB101_102.out _).trans (((cell_far (p:=⟨gb102,_,none⟩) NB101_102.out _).trans (((cell_far (p:=⟨gb102,_,none⟩) NB101_102.out _).trans (((cell_far (p:=⟨gb102,_,none⟩) NB101_102.out _).trans (((cell_far (p:=⟨gb102,_,none⟩) NB101_102.out _).trans (hHeld.2.2.2.2))))))))))⟩ (fun hHeld=>?_)
  clear hK K
  refine done_ (done_of HT_.out (by kernel_rfl)) ?_
  try go_wp2
  refine bodyPost_ret (results_cell_row rfl _ _ gb102 27 #[.int .i64 a0_0,.string a0_1,.string (⟨#[]⟩ : ByteArray),.slice none 0 0,.slice Ao12 t104.length co12] (0,0) _ rfl (by(with_reducible repeat(first|refine qw ?_ _|refine qx ?_|refine qv ?_ _));refine blk_put (cs:=#[.int .i64 a0_0,.string a0_1,.string (⟨#[]⟩ : ByteArray),.slice none 0 0,.slice none 0 0]) ?_ 4 _ rfl;(with_reducible repeat(first|refine qw ?_ _|refine qx ?_|refine qv ?_ _));refine blk_put (cs:=#[.int .i64 a0_0,.string a0_1,.string (⟨#[]⟩ : ByteArray),.slice none 0 0,.slice none 0 0]) ?_ 3 _ rfl;(with_reducible repeat(first|refine qw ?_ _|refine qx ?_|refine qv ?_ _));refine blk_put (cs:=#[.int .i64 a0_0,.string a0_1,.string (⟨#[]⟩ : ByteArray),.slice none 0 0,.slice none 0 0]) ?_ 2 _ rfl;(with_reducible repeat(first|refine qw ?_ _|refine qx ?_|refine qv ?_ _));refine blk_put (cs:=#[.int .i64 a0_0,.string (⟨#[]⟩ : ByteArray),.string (⟨#[]⟩ : ByteArray),.slice none 0 0,.slice none 0 0]) ?_ 1 _ rfl;(with_reducible repeat(first|refine qw ?_ _|refine qx ?_|refine qv ?_ _));refine blk_put (cs:=#[.int .i64 0,.string (⟨#[]⟩ : ByteArray),.string (⟨#[]⟩ : ByteArray),.slice none 0 0,.slice none 0 0]) ?_ 0 _ rfl;(with_reducible repeat(first|refine qw ?_ _|refine qx ?_|refine qv ?_ _));exact BK102.out) Try.underlying27 rfl (by kernel_rfl)) rfl ?_
  exact⟨_,_,by first|rfl|(simp[*,jv,jk] <;> rfl),by first|exact Kd.R_nil _ _ _ _ _|exact Kd.N_nil _ _ _ _ _|exact Kd.V_nil _ _ _ _ _|exact Kd.Q_nil _ _ _ _ _|exact Kd.S_nil _ _ _ _ _,by(with_reducible repeat(first|apply Kd.zv|apply Kd.zk|apply Kd.zw));exact Kd.R_mono (Kd.R_far (p:=⟨gb102,4,none⟩) (Kd.R_far (p:=⟨gb102,3,none⟩) (Kd.R_far (p:=⟨gb102,2,none⟩) (Kd.R_far (p:=⟨gb102,1,none⟩) (Kd.R_far (p:=⟨gb102,0,none⟩) (Kd.R_types HO106.out BK102.out (by decide)) (fun _ hk=>hk.2) (.int .i64 a0_0)) (fun _ hk=>hk.2) (.string a0_1)) (fun _ hk=>hk.2) (.string (⟨#[]⟩ : ByteArray))) (fun _ hk=>hk.2) (.slice none 0 0)) (fun _ hk=>hk.2) (.slice Ao12 t104.length co12)) (fun _ hk=>(by simp[Value.ownBlock])),by repeat(first|(with_reducible first|exact HB.out|apply G|apply J|apply qq|refine qk ?_ GE101.out|refine qk ?_ GE102.out)|exact HB.out)⟩
 ·replace c3:=jq9.mpr c3
  subst c3
  have H1:(some (0,(⟨#[]⟩ : ByteArray),(⟨#[]⟩ : ByteArray),([]:List Int),([]:List Int)))=some (r1,r2,r3,r4,r5):=by rw[if_neg (show ¬ (false=true) by decide)] at H;exact H
  clear H
  have H:=H1
  clear H1
  simp only[Option.some.injEq,Prod.mk.injEq] at H
  obtain⟨rfl,rfl,rfl,rfl,rfl⟩:=H
  go_enter Try.func30,Try.ntmps30
  go_wp2_with (first|((with_reducible refine gate_dst (N:=1) rfl ?_);refine box_event ?hg (N:=1) ?hd (cs:=#[.int .i64 a0_0,.string a0_1,.string a0_2,.slice A0_3 l0_3.length c0_3,.slice A0_4 l0_4.length c0_4]) (t:=27) ?hr ?_;(case hd=>rfl);(case hg=>rfl);(case hr=>first|(go_simp;done)|(go_simp;rfl));intro gb101 hg w18 hbox hb;have BK101:=U.mk (hbox);have GW101:=U.mk ((by rw[hg];exact(zj (by solve_by_elim only[HB.out,G,J,qq])):w.heap.size≤gb101));have GE101:=U.mk ((by rw[hg];exact(zj (by solve_by_elim only[HB.out,G,J,qq])):w.heap.size≤gb101));replace HB:=U.mk (zz (by solve_by_elim only[HB.out,G,J,qq]) hb);clear hb hbox hg)|((with_reducible refine gate_dst (N:=2) rfl ?_);refine box_event ?hg (N:=2) ?hd (cs:=#[.int .i64 0,.string (⟨#[]⟩ : ByteArray),.string (⟨#[]⟩ : ByteArray),.slice none 0 0,.slice none 0 0]) (t:=27) ?hr ?_;(case hd=>rfl);(case hg=>rfl);(case hr=>first|(go_simp;done)|(go_simp;rfl));intro gb102 hg w19 hbox hb;have BK102:=U.mk (hbox);have GW102:=U.mk ((by rw[hg];exact(zj (by solve_by_elim (maxDepth:=20) only[HB.out,G,J,qq,qk,GE101.out])):w.heap.size≤gb102));have GE102:=U.mk ((by rw[hg];exact(zj (by solve_by_elim (maxDepth:=20) only[HB.out,G,J,qq,qk,GE101.out])):w.heap.size≤gb102));replace HB:=U.mk (zz (by solve_by_elim (maxDepth:=20) only[HB.out,G,J,qq,qk,GE101.out]) hb);have NB101_102:=U.mk ((by rw[hg];exact Nat.ne_of_lt (blk_lt (g:=gb101) (o:=.cells #[.int .i64 a0_0,.string a0_1,.string a0_2,.slice A0_3 l0_3.length c0_3,.slice A0_4 l0_4.length c0_4] 27 (0,0)) (by solve_by_elim only[BK101.out,qw,qx,qv])):gb101≠gb102));have NB102_101:=U.mk ((by rw[hg];exact Nat.ne_of_gt (blk_lt (g:=gb101) (o:=.cells #[.int .i64 a0_0,.string a0_1,.string a0_2,.slice A0_3 l0_3.length c0_3,.slice A0_4 l0_4.length c0_4] 27 (0,0)) (by solve_by_elim only[BK101.out,qw,qx,qv])):gb102≠gb101));replace BK101:=U.mk (vx (g:=gb101) (o:=.cells #[.int .i64 a0_0,.string a0_1,.string a0_2,.slice A0_3 l0_3.length c0_3,.slice A0_4 l0_4.length c0_4] 27 (0,0)) (by solve_by_elim only[BK101.out,qw,qx,qv]) hb);clear hb hbox hg;have hnb20:=NB101_102.out;have hnc20:=NB102_101.out;have hcz21_0:w19.cell? ⟨gb101,0,none⟩ = some (.int .i64 a0_0):=(qj BK101.out 0).trans rfl;have hcz21_1:w19.cell? ⟨gb101,1,none⟩ = some (.string a0_1):=(qj BK101.out 1).trans rfl;have hcz21_2:w19.cell? ⟨gb101,2,none⟩ = some (.string a0_2):=(qj BK101.out 2).trans rfl;have hcz21_3:w19.cell? ⟨gb101,3,none⟩ = some (.slice A0_3 l0_3.length c0_3):=(qj BK101.out 3).trans rfl;have hcz21_4:w19.cell? ⟨gb101,4,none⟩ = some (.slice A0_4 l0_4.length c0_4):=(qj BK101.out 4).trans rfl;have hfz21_0:=qz BK101.out 0;have hfz21_1:=qz BK101.out 1;have hfz21_2:=qz BK101.out 2;have hfz21_3:=qz BK101.out 3;have hfz21_4:=qz BK101.out 4)|((with_reducible refine jw (f:=18) rfl ?_);refine goesL_ (some 4) rfl rfl Try.func18 (by kernel_rfl) rfl #[.agg #[.int .i64 a0_0,.string a0_1,.string a0_2,.slice A0_3 l0_3.length c0_3,.slice A0_4 l0_4.length c0_4]] rfl (by(try simp only[jq0,jq1,jq2]);first|done|rfl|(simp only[jq3,jq4];rfl)) ?_;(with_reducible refine(qkz.calls k a0_0 a0_1 a0_2 _ _ l0_3 _ _ l0_4 false _ ?side1 ?side2 ?side3 ?side4 A2.out).mono ?_);(case side1=>solve_by_elim only[(Kd.C_below HR0_3.out HB.out),Kd.C_alloc,Kd.C_drewN,Kd.C_drew]);(case side2=>exact HC0_3.out);(case side3=>solve_by_elim only[(Kd.C_below HR0_4.out HB.out),Kd.C_alloc,Kd.C_drewN,Kd.C_drew]);(case side4=>exact HC0_4.out);rintro e w22 ⟨rfl,hb⟩;refine⟨_,rfl,?_⟩;replace BK101:=U.mk (vx (g:=gb101) (o:=.cells #[.int .i64 a0_0,.string a0_1,.string a0_2,.slice A0_3 l0_3.length c0_3,.slice A0_4 l0_4.length c0_4] 27 (0,0)) (by solve_by_elim only[BK101.out,qw,qx,qv]) hb);replace BK102:=U.mk (vx (g:=gb102) (o:=.cells #[.int .i64 0,.string (⟨#[]⟩ : ByteArray),.string (⟨#[]⟩ : ByteArray),.slice none 0 0,.slice none 0 0] 27 (0,0)) (by solve_by_elim only[BK102.out,qw,qx,qv]) hb);replace HB:=U.mk (zz (by solve_by_elim (maxDepth:=20) only[HB.out,G,J,qq,qk,GE101.out,qk,GE102.out]) hb);(try clear hb);have hcz23_0:w22.cell? ⟨gb102,0,none⟩ = some (.int .i64 0):=(qj BK102.out 0).trans rfl;have hcz23_1:w22.cell? ⟨gb102,1,none⟩ = some (.string (⟨#[]⟩ : ByteArray)):=(qj BK102.out 1).trans rfl;have hcz23_2:w22.cell? ⟨gb102,2,none⟩ = some (.string (⟨#[]⟩ : ByteArray)):=(qj BK102.out 2).trans rfl;have hcz23_3:w22.cell? ⟨gb102,3,none⟩ = some (.slice none 0 0):=(qj BK102.out 3).trans rfl;have hcz23_4:w22.cell? ⟨gb102,4,none⟩ = some (.slice none 0 0):=(qj BK102.out 4).trans rfl;have hfz23_0:=qz BK102.out 0;have hfz23_1:=qz BK102.out 1;have hfz23_2:=qz BK102.out 2;have hfz23_3:=qz BK102.out 3;have hfz23_4:=qz BK102.out 4))
  refine bodyPost_ret (results_cell_row rfl _ _ gb102 27 #[.int .i64 0,.string (⟨#[]⟩ : ByteArray),.string (⟨#[]⟩ : ByteArray),.slice none 0 0,.slice none 0 0] (0,0) _ rfl (by(with_reducible repeat(first|refine qw ?_ _|refine qx ?_|refine qv ?_ _));refine blk_put (cs:=#[.int .i64 0,.string (⟨#[]⟩ : ByteArray),.string (⟨#[]⟩ : ByteArray),.slice none 0 0,.slice none 0 0]) ?_ 4 _ rfl;(with_reducible repeat(first|refine qw ?_ _|refine qx ?_|refine qv ?_ _));refine blk_put (cs:=#[.int .i64 0,.string (⟨#[]⟩ : ByteArray),.string (⟨#[]⟩ : ByteArray),.slice none 0 0,.slice none 0 0]) ?_ 3 _ rfl;(with_reducible repeat(first|refine qw ?_ _|refine qx ?_|refine qv ?_ _));refine blk_put (cs:=#[.int .i64 0,.string (⟨#[]⟩ : ByteArray),.string (⟨#[]⟩ : ByteArray),.slice none 0 0,.slice none 0 0]) ?_ 2 _ rfl;(with_reducible repeat(first|refine qw ?_ _|refine qx ?_|refine qv ?_ _));refine blk_put (cs:=#[.int .i64 0,.string (⟨#[]⟩ : ByteArray),.string (⟨#[]⟩ : ByteArray),.slice none 0 0,.slice none 0 0]) ?_ 1 _ rfl;(with_reducible repeat(first|refine qw ?_ _|refine qx ?_|refine qv ?_ _));refine blk_put (cs:=#[.int .i64 0,.string (⟨#[]⟩ : ByteArray),.string (⟨#[]⟩ : ByteArray),.slice none 0 0,.slice none 0 0]) ?_ 0 _ rfl;(with_reducible repeat(first|refine qw ?_ _|refine qx ?_|refine qv ?_ _));exact BK102.out) Try.underlying27 rfl (by kernel_rfl)) rfl ?_
  exact⟨_,_,by first|rfl|(simp[*,jv,jk] <;> rfl),by first|exact Kd.R_nil _ _ _ _ _|exact Kd.N_nil _ _ _ _ _|exact Kd.V_nil _ _ _ _ _|exact Kd.Q_nil _ _ _ _ _|exact Kd.S_nil _ _ _ _ _,by first|exact Kd.R_nil _ _ _ _ _|exact Kd.N_nil _ _ _ _ _|exact Kd.V_nil _ _ _ _ _|exact Kd.Q_nil _ _ _ _ _|exact Kd.S_nil _ _ _ _ _,by repeat(first|(with_reducible first|exact HB.out|apply G|apply J|apply qq|refine qk ?_ GE101.out|refine qk ?_ GE102.out)|exact HB.out)⟩
end Go.Proofs.Ytipdkendfcopiaa.Pr
